/- Texts of this claim, put together: GMov. -/
import Derived.Test.YtpjbfpheenamiaaDoorB1
import Derived.Test.YtpjbfpheenamiaaDoorB4
import Derived.Test.YtpjbfpheenamiaaDoorB2
-- PRINTED by print.py (a twelfth state) out of the translation. Not trusted: Lean checks it.
namespace Go.Proofs.YtpjbfpheenamiaaDoor.PF
open Go.RowKit Go.Proofs.YtpjbfpheenamiaaDoorW.PrintWords Go.Proofs.YtpjbfpheenamiaaDoorW.PrintLast Go.Proofs.YtpjbfpheenamiaaDoorW.PrintMore
attribute [local go_sem] max2_int min2_int max_two min_two max_three min_three max_four min_four   -- for this text's walks alone
set_option linter.unusedVariables false
set_option linter.unusedSimpArgs false

/-! ### listing_moves: function 40 -/
def listing_moves.f (a0_0 : Int) (a0_1 : Int) (a0_2 : Int) (a0_3 : Int) (a0_4 : Int) (a0_5 : Int) (a1 : ByteArray) (a2 : ByteArray) : Option (ByteArray) := if a0_0 = 7 then ((listing_register.f a0_1).bind fun t120 => ((listing_register.f a0_2).bind fun t121 => ((listing_join.f (([(⟨#[76, 68, 32]⟩ : ByteArray), t120, (⟨#[44]⟩ : ByteArray), t121] : List ByteArray))).bind fun t125 => (some t125)))) else (if a0_0 = 8 then ((listing_register.f a0_1).bind fun t126 => ((listing_join.f (([(⟨#[76, 68, 32]⟩ : ByteArray), t126, (⟨#[44]⟩ : ByteArray), a1] : List ByteArray))).bind fun t130 => (some t130))) else (if a0_0 = 9 then ((listing_place.f a0_1).bind fun t131 => ((listing_join.f (([(⟨#[76, 68, 32, 65, 44]⟩ : ByteArray), t131] : List ByteArray))).bind fun t135 => (some t135))) else (if a0_0 = 10 then ((listing_place.f a0_1).bind fun t136 => ((listing_join.f (([(⟨#[76, 68, 32]⟩ : ByteArray), t136, (⟨#[44, 65]⟩ : ByteArray)] : List ByteArray))).bind fun t140 => (some t140))) else (if a0_0 = 11 then ((listing_join.f (([(⟨#[76, 68, 72, 32, 65, 44, 40]⟩ : ByteArray), a1, (⟨#[41]⟩ : ByteArray)] : List ByteArray))).bind fun t144 => (some t144)) else (if a0_0 = 12 then ((listing_join.f (([(⟨#[76, 68, 72, 32, 40]⟩ : ByteArray), a1, (⟨#[41, 44, 65]⟩ : ByteArray)] : List ByteArray))).bind fun t148 => (some t148)) else (if a0_0 = 15 then ((listing_join.f (([(⟨#[76, 68, 32, 65, 44, 40]⟩ : ByteArray), a2, (⟨#[41]⟩ : ByteArray)] : List ByteArray))).bind fun t152 => (some t152)) else (if a0_0 = 16 then ((listing_join.f (([(⟨#[76, 68, 32, 40]⟩ : ByteArray), a2, (⟨#[41, 44, 65]⟩ : ByteArray)] : List ByteArray))).bind fun t156 => (some t156)) else (if a0_0 = 17 then ((listing_pair.f a0_1).bind fun t157 => ((listing_join.f (([(⟨#[76, 68, 32]⟩ : ByteArray), t157, (⟨#[44]⟩ : ByteArray), a2] : List ByteArray))).bind fun t161 => (some t161))) else (if a0_0 = 18 then ((listing_join.f (([(⟨#[76, 68, 32, 40]⟩ : ByteArray), a2, (⟨#[41, 44, 83, 80]⟩ : ByteArray)] : List ByteArray))).bind fun t165 => (some t165)) else (if a0_0 = 20 then ((listing_join.f (([(⟨#[76, 68, 32, 72, 76, 44, 83, 80, 43]⟩ : ByteArray), a1] : List ByteArray))).bind fun t169 => (some t169)) else (if a0_0 = 21 then ((listing_pair.f a0_1).bind fun t170 => ((listing_join.f (([(⟨#[80, 85, 83, 72, 32]⟩ : ByteArray), t170] : List ByteArray))).bind fun t174 => (some t174))) else (if a0_0 = 22 then ((listing_pair.f a0_1).bind fun t175 => ((listing_join.f (([(⟨#[80, 79, 80, 32]⟩ : ByteArray), t175] : List ByteArray))).bind fun t179 => (some t179))) else (some (⟨#[]⟩ : ByteArray))))))))))))))
def listing_moves.T3 : Bool × List (List Nat × List Nat) := (true, [([], []), ([0], [0]), ([1], [1]), ([], []), ([3], [3]), ([4, 2], [4]), ([2, 5], [2, 5]), ([6, 5], [6]), ([7, 7, 0, 1, 2, 3, 4, 5, 6, 7], [7])])
def listing_moves.B3 : List Nat := [0, 1, 3, 0, 8, 31, 63, 127, 255]
theorem listing_moves.tab3 : rtab .any (opsOf Tryd.f40 3) = listing_moves.T3 := by kernel_rfl
theorem listing_moves.bits3 : waitsOk listing_moves.T3.2 listing_moves.B3 = true := by kernel_rfl
set_option maxHeartbeats 8000000 in
set_option maxRecDepth 100000 in
theorem listing_moves.calls (a0_0 : Int) (a0_1 : Int) (a0_2 : Int) (a0_3 : Int) (a0_4 : Int) (a0_5 : Int) (a1 : ByteArray) (a2 : ByteArray) (r : ByteArray) (w : World) (h : listing_moves.f a0_0 a0_1 a0_2 a0_3 a0_4 a0_5 a1 a2 = some r) :
  Calls Tryd.prog 40 #[.agg #[.int .i64 a0_0, .int .i64 a0_1, .int .i64 a0_2, .int .i64 a0_3, .int .i64 a0_4, .int .i64 a0_5], .string a1, .string a2] w fun e w' => e = .returned (.string r) ∧ Below w.heap.size w w' := by
 have hu46 := Tryd.underlying46
 have HB := Aside0.mk (Below.refl w.heap.size w)
 have H : (if a0_0 = 7 then ((listing_register.f a0_1).bind fun t120 => ((listing_register.f a0_2).bind fun t121 => ((listing_join.f (([(⟨#[76, 68, 32]⟩ : ByteArray), t120, (⟨#[44]⟩ : ByteArray), t121] : List ByteArray))).bind fun t125 => (some t125)))) else (if a0_0 = 8 then ((listing_register.f a0_1).bind fun t126 => ((listing_join.f (([(⟨#[76, 68, 32]⟩ : ByteArray), t126, (⟨#[44]⟩ : ByteArray), a1] : List ByteArray))).bind fun t130 => (some t130))) else (if a0_0 = 9 then ((listing_place.f a0_1).bind fun t131 => ((listing_join.f (([(⟨#[76, 68, 32, 65, 44]⟩ : ByteArray), t131] : List ByteArray))).bind fun t135 => (some t135))) else (if a0_0 = 10 then ((listing_place.f a0_1).bind fun t136 => ((listing_join.f (([(⟨#[76, 68, 32]⟩ : ByteArray), t136, (⟨#[44, 65]⟩ : ByteArray)] : List ByteArray))).bind fun t140 => (some t140))) else (if a0_0 = 11 then ((listing_join.f (([(⟨#[76, 68, 72, 32, 65, 44, 40]⟩ : ByteArray), a1, (⟨#[41]⟩ : ByteArray)] : List ByteArray))).bind fun t144 => (some t144)) else (if a0_0 = 12 then ((listing_join.f (([(⟨#[76, 68, 72, 32, 40]⟩ : ByteArray), a1, (⟨#[41, 44, 65]⟩ : ByteArray)] : List ByteArray))).bind fun t148 => (some t148)) else (if a0_0 = 15 then ((listing_join.f (([(⟨#[76, 68, 32, 65, 44, 40]⟩ : ByteArray), a2, (⟨#[41]⟩ : ByteArray)] : List ByteArray))).bind fun t152 => (some t152)) else (if a0_0 = 16 then ((listing_join.f (([(⟨#[76, 68, 32, 40]⟩ : ByteArray), a2, (⟨#[41, 44, 65]⟩ : ByteArray)] : List ByteArray))).bind fun t156 => (some t156)) else (if a0_0 = 17 then ((listing_pair.f a0_1).bind fun t157 => ((listing_join.f (([(⟨#[76, 68, 32]⟩ : ByteArray), t157, (⟨#[44]⟩ : ByteArray), a2] : List ByteArray))).bind fun t161 => (some t161))) else (if a0_0 = 18 then ((listing_join.f (([(⟨#[76, 68, 32, 40]⟩ : ByteArray), a2, (⟨#[41, 44, 83, 80]⟩ : ByteArray)] : List ByteArray))).bind fun t165 => (some t165)) else (if a0_0 = 20 then ((listing_join.f (([(⟨#[76, 68, 32, 72, 76, 44, 83, 80, 43]⟩ : ByteArray), a1] : List ByteArray))).bind fun t169 => (some t169)) else (if a0_0 = 21 then ((listing_pair.f a0_1).bind fun t170 => ((listing_join.f (([(⟨#[80, 85, 83, 72, 32]⟩ : ByteArray), t170] : List ByteArray))).bind fun t174 => (some t174))) else (if a0_0 = 22 then ((listing_pair.f a0_1).bind fun t175 => ((listing_join.f (([(⟨#[80, 79, 80, 32]⟩ : ByteArray), t175] : List ByteArray))).bind fun t179 => (some t179))) else (some (⟨#[]⟩ : ByteArray))))))))))))))) = some r := h
 clear h
 by_cases c4 : a0_0 = 7
 ·rw [if_pos c4] at H
  have c4b0 : (a0_0 == 7) = true := beq_iff_eq.mpr c4
  have c4b1 : (a0_0 != 7) = false := bne_eq_false_iff_eq.mpr c4
  clear c4
  replace H := Option.bind_eq_some_iff.mp H
  obtain ⟨t120, A50, H⟩ := H
  replace H : ((listing_register.f a0_2).bind fun t121 => ((listing_join.f (([(⟨#[76, 68, 32]⟩ : ByteArray), t120, (⟨#[44]⟩ : ByteArray), t121] : List ByteArray))).bind fun t125 => (some t125))) = some r := H
  have A5 := Aside0.mk A50
  clear A50
  replace H := Option.bind_eq_some_iff.mp H
  obtain ⟨t121, A60, H⟩ := H
  replace H : ((listing_join.f (([(⟨#[76, 68, 32]⟩ : ByteArray), t120, (⟨#[44]⟩ : ByteArray), t121] : List ByteArray))).bind fun t125 => (some t125)) = some r := H
  have A6 := Aside0.mk A60
  clear A60
  obtain ⟨y122, hy122⟩ : ∃ y_ : List ByteArray, y_ = (([(⟨#[76, 68, 32]⟩ : ByteArray), t120, (⟨#[44]⟩ : ByteArray), t121] : List ByteArray)) := ⟨_, rfl⟩
  replace H : ((listing_join.f y122).bind fun t125 => (some t125)) = some r := by first | (rw [hy122]; with_reducible exact H) | (have H2_ := (Option.bind_some _ _).symm.trans H; rw [hy122]; with_reducible exact H2_) | (have H2_ := (Option.bind_some _ _).symm.trans H; with_reducible exact H2_) | with_reducible exact H | (rw [hy122]; exact H) | exact H
  have Ny122 := Aside0.mk hy122
  clear hy122
  replace H := Option.bind_eq_some_iff.mp H
  obtain ⟨t125, A70, H⟩ := H
  replace H : (some t125) = some r := H
  have A7 := Aside0.mk A70
  clear A70
  obtain rfl := Option.some.inj H
  go_enter Tryd.func40, Tryd.ntmps40
  try go_wp2_with (first | ((with_reducible refine gate_dst (N := 3) rfl ?_); refine box_event ?hg (N := 3) ?hd (cs := #[.int .i64 a0_0, .int .i64 a0_1, .int .i64 a0_2, .int .i64 a0_3, .int .i64 a0_4, .int .i64 a0_5]) (t := 46) ?hr ?_; (case hd => rfl); (case hg => rfl); (case hr => first | (go_simp; done) | (go_simp; rfl)); intro gb119 hg w8 hbox hb; have n0_ := Aside0.mk (below_step (by repeat (first | (with_reducible first | exact HB.out | apply below_alloc | apply pw_below_drewN | apply below_drew1) | exact HB.out)) hb); have n1_ := Aside0.mk (hbox); have n2_ := Aside0.mk ((by rw [hg]; exact (below_size (by repeat (first | (with_reducible first | exact HB.out | apply below_alloc | apply pw_below_drewN | apply below_drew1) | exact HB.out))) : w.heap.size ≤ gb119)); have n3_ := Aside0.mk ((by rw [hg]; exact (below_size (by repeat (first | (with_reducible first | exact HB.out | apply below_alloc | apply pw_below_drewN | apply below_drew1) | exact HB.out))) : w.heap.size ≤ gb119)); clear HB; have HB := n0_; have BK119 := n1_; have GW119 := n2_; have GE119 := n3_; clear n0_ n1_ n2_ n3_; clear hb hbox hg; obtain ⟨hcz9_0, hcz9_1, hcz9_2, hcz9_3, hcz9_4, hcz9_5, hfz9_0, hfz9_1, hfz9_2, hfz9_3, hfz9_4, hfz9_5⟩ := blk6 BK119.out))
  have n0_ := Aside0.mk (blk_drew BK119.out)
  have n1_ := Aside0.mk (below_drew1 HB.out)
  clear BK119
  clear HB
  have BK119 := n0_
  have HB := n1_
  clear n0_ n1_
  refine start_ (n := 9) (S := fun w' => w'.cell? ⟨gb119, 0, none⟩ = some (.int .i64 a0_0) ∧ w'.cell? ⟨gb119, 1, none⟩ = some (.int .i64 a0_1) ∧ w'.cell? ⟨gb119, 2, none⟩ = some (.int .i64 a0_2) ∧ w'.cell? ⟨gb119, 3, none⟩ = some (.int .i64 a0_3) ∧ w'.cell? ⟨gb119, 4, none⟩ = some (.int .i64 a0_4) ∧ w'.cell? ⟨gb119, 5, none⟩ = some (.int .i64 a0_5)) (ds := []) #[false, false, false, false, false, false, false, false, false] (by kernel_rfl) rfl rfl ⟨(blk_cell BK119.out 0).trans rfl, (blk_cell BK119.out 1).trans rfl, (blk_cell BK119.out 2).trans rfl, (blk_cell BK119.out 3).trans rfl, (blk_cell BK119.out 4).trans rfl, (blk_cell BK119.out 5).trans rfl⟩ (fun hHeld => ?_); refine with_tabW listing_moves.tab3 listing_moves.bits3 (fun HT_ HW_ => ?_)
  generalize w8.drew = w10 at BK119 HB hHeld ⊢
  refine pure_ (i := 0) (N := some 11) (v := ?_) (a' := ?_) #[true, false, false, false, false, false, false, false, false] rfl rfl (any_of HT_.out (by kernel_rfl)) (fun _ _ _ h => h) (Or.inl ⟨by rfl, ?_⟩) ?_ ?_
  rotate_left
  ·intro w'
   go_simp
   with_reducible rfl
  rotate_left
  ·simp only [Act.put, List.setIfInBounds_toArray, List.set_cons_zero, List.set_cons_succ, i64_w, i32_w]
   rfl
  refine pure_ (i := 3) (N := some 14) (v := ?_) (a' := ?_) #[true, false, false, true, false, false, false, false, false] rfl rfl (any_of HT_.out (by kernel_rfl)) (fun _ _ _ h => h) (Or.inl ⟨by rfl, ?_⟩) ?_ ?_
  rotate_left
  ·intro w'
   go_simp
   with_reducible rfl
  rotate_left
  ·simp only [Act.put, List.setIfInBounds_toArray, List.set_cons_zero, List.set_cons_succ, i64_w, i32_w]
   rfl
  refine take_ (i := 1) (N := some 12) (v := ?_) (a' := ?_) #[true, true, false, true, false, false, false, false, false] rfl rfl (take_ofW HT_.out HW_.out (by kernel_rfl)) (fun _ _ _ h => h) (Or.inl ⟨by rfl, ?_⟩) hHeld ?_ ?_
  rotate_left
  ·rintro w' ⟨s0, s1, s2, s3, s4, s5⟩
   go_simp
   with_reducible rfl
  rotate_left
  ·simp only [Act.put, List.setIfInBounds_toArray, List.set_cons_zero, List.set_cons_succ, i64_w, i32_w]
   rfl
  refine take_ (i := 4) (N := some 15) (v := ?_) (a' := ?_) #[true, true, false, true, true, false, false, false, false] rfl rfl (take_ofW HT_.out HW_.out (by kernel_rfl)) (fun _ _ _ h => h) (Or.inl ⟨by rfl, ?_⟩) hHeld ?_ ?_
  rotate_left
  ·rintro w' ⟨s0, s1, s2, s3, s4, s5⟩
   go_simp
   with_reducible rfl
  rotate_left
  ·simp only [Act.put, List.setIfInBounds_toArray, List.set_cons_zero, List.set_cons_succ, i64_w, i32_w]
   rfl
  refine one_ (i := 2) (N := some 13) #[true, true, true, true, true, false, false, false, false] rfl rfl (one_of HT_.out (by kernel_rfl)) (by decide) (fun K hK => ?_)
  refine goes_ Tryd.func65 (by kernel_rfl) rfl #[.int .i64 a0_1] (by rfl) rfl rfl (by (try simp only [List.map_toArray, List.map_cons, List.map_nil]); first | done | rfl | (simp only [List.length_drop, List.length_take]; rfl)) ?_
  with_reducible refine (listing_register.calls a0_1 t120 _ A5.out).mono ?_
  rintro e w' ⟨rfl, ⟨nd, rfl⟩⟩
  refine ⟨_, rfl, ?_⟩
  refine hK.out _ _ ⟨(blk_cell BK119.out 0).trans rfl, (blk_cell BK119.out 1).trans rfl, (blk_cell BK119.out 2).trans rfl, (blk_cell BK119.out 3).trans rfl, (blk_cell BK119.out 4).trans rfl, (blk_cell BK119.out 5).trans rfl⟩ (fun hHeld => ?_)
  clear hK K
  refine norm_ (a' := ?_) ?_ ?_
  rotate_left
  ·show Act.put _ (some 13) _ = _
   simp only [Act.put, List.setIfInBounds_toArray, List.set_cons_zero, List.set_cons_succ, i64_w, i32_w]
   rfl
  refine one_ (i := 5) (N := some 16) #[true, true, true, true, true, true, false, false, false] rfl rfl (one_of HT_.out (by kernel_rfl)) (by decide) (fun K hK => ?_)
  refine goes_ Tryd.func65 (by kernel_rfl) rfl #[.int .i64 a0_2] (by rfl) rfl rfl (by (try simp only [List.map_toArray, List.map_cons, List.map_nil]); first | done | rfl | (simp only [List.length_drop, List.length_take]; rfl)) ?_
  with_reducible refine (listing_register.calls a0_2 t121 _ A6.out).mono ?_
  rintro e w' ⟨rfl, ⟨nd, rfl⟩⟩
  refine ⟨_, rfl, ?_⟩
  refine hK.out _ _ ⟨(blk_cell BK119.out 0).trans rfl, (blk_cell BK119.out 1).trans rfl, (blk_cell BK119.out 2).trans rfl, (blk_cell BK119.out 3).trans rfl, (blk_cell BK119.out 4).trans rfl, (blk_cell BK119.out 5).trans rfl⟩ (fun hHeld => ?_)
  clear hK K
  refine norm_ (a' := ?_) ?_ ?_
  rotate_left
  ·show Act.put _ (some 16) _ = _
   simp only [Act.put, List.setIfInBounds_toArray, List.set_cons_zero, List.set_cons_succ, i64_w, i32_w]
   rfl
  refine one_ (i := 6) (N := some 17) #[true, true, true, true, true, true, true, false, false] rfl rfl (one_of HT_.out (by kernel_rfl)) (by decide) (fun K hK => ?_)
  refine Kd.R_lit_step Kd.string _ 9 ?hg (N := 17) ?hd (xs := ([(⟨#[76, 68, 32]⟩ : ByteArray), t120, (⟨#[44]⟩ : ByteArray), t121] : List ByteArray)) (inner := [.string (⟨#[76, 68, 32]⟩ : ByteArray), .string t120, .string (⟨#[44]⟩ : ByteArray), .string t121]) (ok := fun _ => True) (okp := fun _ => True) ?hr ?hp (fun _ hk => hk) trivial (Below.refl _ _) (Nat.le_refl _) (by simp) ?_; (case hd => rfl); (case hg => rfl); (case hr => first | (go_simp; done) | (go_simp; rfl)); (case hp => exact (Reps.one (show Kd.M Kd.string _ _ _ (⟨#[76, 68, 32]⟩ : ByteArray) [.string (⟨#[76, 68, 32]⟩ : ByteArray)] from rfl) (Reps.one (show Kd.M Kd.string _ _ _ t120 [.string t120] from rfl) (Reps.one (show Kd.M Kd.string _ _ _ (⟨#[44]⟩ : ByteArray) [.string (⟨#[44]⟩ : ByteArray)] from rfl) (Reps.one (show Kd.M Kd.string _ _ _ t121 [.string t121] from rfl) (Reps.none _ _))))))
  intro v123 w11 ho12 hb hg_ hnew_
  clear hg_ hnew_
  (first | rw [← Ny122.out] at ho12 | (simp only [Int.reduceToNat] at ho12; rw [← Ny122.out] at ho12))
  have n0_ := Aside0.mk (Kd.R_lower ho12 (below_size (by repeat (first | (with_reducible first | exact HB.out | apply below_alloc | apply pw_below_drewN | apply below_drew1 | refine below_set ?_ GE119.out) | exact HB.out))))
  have n1_ := Aside0.mk (blk_below (g := gb119) (o := .cells #[.int .i64 a0_0, .int .i64 a0_1, .int .i64 a0_2, .int .i64 a0_3, .int .i64 a0_4, .int .i64 a0_5] 46 (0, 0)) (by (with_reducible repeat (first | refine blk_drewN ?_ _ | refine blk_drew ?_ | refine blk_alloc ?_ _)); exact BK119.out) hb)
  have n2_ := Aside0.mk (below_step (by repeat (first | (with_reducible first | exact HB.out | apply below_alloc | apply pw_below_drewN | apply below_drew1 | refine below_set ?_ GE119.out) | exact HB.out)) hb)
  clear BK119
  clear HB
  have HO124 := n0_
  have BK119 := n1_
  have HB := n2_
  clear n0_ n1_ n2_
  clear hb ho12
  obtain ⟨Ao13, co13, eo13⟩ := Kd.R_slice HO124.out
  (first | subst eo13 | (injection eo13 with f1_ f2_ f3_; have f4_ := f1_.symm; have f5_ := f3_.symm; clear f1_ f2_ f3_; subst f4_; subst f5_))
  refine hK.out _ _ ⟨(blk_cell BK119.out 0).trans rfl, (blk_cell BK119.out 1).trans rfl, (blk_cell BK119.out 2).trans rfl, (blk_cell BK119.out 3).trans rfl, (blk_cell BK119.out 4).trans rfl, (blk_cell BK119.out 5).trans rfl⟩ (fun hHeld => ?_)
  clear hK K
  refine norm_ (a' := ?_) ?_ ?_
  rotate_left
  ·show Act.put _ (some 17) _ = _
   simp only [Act.put, List.setIfInBounds_toArray, List.set_cons_zero, List.set_cons_succ, i64_w, i32_w]
   rfl
  refine one_ (i := 7) (N := some 18) #[true, true, true, true, true, true, true, true, false] rfl rfl (one_of HT_.out (by kernel_rfl)) (by decide) (fun K hK => ?_)
  refine goes_ Tryd.func37 (by kernel_rfl) rfl #[.slice Ao13 y122.length co13] (by rfl) rfl rfl (by (try simp only [List.map_toArray, List.map_cons, List.map_nil]); first | done | rfl | (simp only [List.length_drop, List.length_take]; rfl)) ?_
  with_reducible refine (listing_join.calls _ _ y122 t125 _ ?side1 ?side2 A7.out).mono ?_
  (case side1 => repeat (first | exact (Kd.R_reads' HO124.out).2.2 | (with_reducible refine Kd.C_alloc ?_ _) | (with_reducible refine Kd.C_drewN ?_ _) | (with_reducible refine Kd.C_drew ?_)))
  (case side2 => exact (Kd.R_reads' HO124.out).2.1)
  rintro e w14 ⟨rfl, hb⟩
  refine ⟨_, rfl, ?_⟩
  have n0_ := Aside0.mk (Kd.R_below (by (with_reducible repeat (first | apply Kd.R_alloc | apply Kd.R_drewN | apply Kd.R_drew)); exact HO124.out) hb)
  have n1_ := Aside0.mk (blk_below (g := gb119) (o := .cells #[.int .i64 a0_0, .int .i64 a0_1, .int .i64 a0_2, .int .i64 a0_3, .int .i64 a0_4, .int .i64 a0_5] 46 (0, 0)) (by (with_reducible repeat (first | refine blk_drewN ?_ _ | refine blk_drew ?_ | refine blk_alloc ?_ _)); exact BK119.out) hb)
  have n2_ := Aside0.mk (below_step (by repeat (first | (with_reducible first | exact HB.out | apply below_alloc | apply pw_below_drewN | apply below_drew1 | refine below_set ?_ GE119.out) | exact HB.out)) hb)
  clear HO124
  clear BK119
  clear HB
  have HO124 := n0_
  have BK119 := n1_
  have HB := n2_
  clear n0_ n1_ n2_
  (try clear hb)
  (try clear hb2)
  (try clear hk)
  (try clear hi)
  refine hK.out _ _ ⟨(blk_cell BK119.out 0).trans rfl, (blk_cell BK119.out 1).trans rfl, (blk_cell BK119.out 2).trans rfl, (blk_cell BK119.out 3).trans rfl, (blk_cell BK119.out 4).trans rfl, (blk_cell BK119.out 5).trans rfl⟩ (fun hHeld => ?_)
  clear hK K
  refine norm_ (a' := ?_) ?_ ?_
  rotate_left
  ·show Act.put _ (some 18) _ = _
   simp only [Act.put, List.setIfInBounds_toArray, List.set_cons_zero, List.set_cons_succ, i64_w, i32_w]
   rfl
  refine pure_ (i := 8) (N := some 6) (v := ?_) (a' := ?_) #[true, true, true, true, true, true, true, true, true] rfl rfl (any_of HT_.out (by kernel_rfl)) (fun _ _ _ h => h) (Or.inl ⟨by rfl, ?_⟩) ?_ ?_
  rotate_left
  ·intro w'
   go_simp
   with_reducible rfl
  rotate_left
  ·simp only [Act.put, List.setIfInBounds_toArray, List.set_cons_zero, List.set_cons_succ, i64_w, i32_w]
   rfl
  refine done_ (done_of HT_.out (by kernel_rfl)) ?_
  try go_wp2
  go_ret
  exact ⟨by first | rfl | (simp [errW_none, errW_some] <;> rfl) | (simp [*, errW_none, errW_some] <;> rfl), by repeat (first | (with_reducible first | exact HB.out | apply below_alloc | apply pw_below_drewN | apply below_drew1 | refine below_set ?_ GE119.out) | exact HB.out)⟩
 ·rw [if_neg c4] at H
  have c4b0 : (a0_0 == 7) = false := beq_eq_false_iff_ne.mpr c4
  have c4b1 : (a0_0 != 7) = true := bne_iff_ne.mpr c4
  by_cases c15 : a0_0 = 8
  ·subst c15
   rw [if_pos rfl] at H
   obtain ⟨t0_, e0_, H⟩ := Option.bind_eq_some_iff.mp H
   obtain ⟨tj_, ej_, H⟩ := Option.bind_eq_some_iff.mp H
   obtain rfl := Option.some.inj H
   exact moves_w8 _ _ _ _ _ _ _ _ _ _ e0_ ej_
  ·rw [if_neg c15] at H
   have c15b0 : (a0_0 == 8) = false := beq_eq_false_iff_ne.mpr c15
   have c15b1 : (a0_0 != 8) = true := bne_iff_ne.mpr c15
   by_cases c24 : a0_0 = 9
   ·subst c24
    rw [if_pos rfl] at H
    obtain ⟨t0_, e0_, H⟩ := Option.bind_eq_some_iff.mp H
    obtain ⟨tj_, ej_, H⟩ := Option.bind_eq_some_iff.mp H
    obtain rfl := Option.some.inj H
    exact moves_w9 _ _ _ _ _ _ _ _ _ _ e0_ ej_
   ·rw [if_neg c24] at H
    have c24b0 : (a0_0 == 9) = false := beq_eq_false_iff_ne.mpr c24
    have c24b1 : (a0_0 != 9) = true := bne_iff_ne.mpr c24
    by_cases c33 : a0_0 = 10
    ·subst c33
     rw [if_pos rfl] at H
     obtain ⟨t0_, e0_, H⟩ := Option.bind_eq_some_iff.mp H
     obtain ⟨tj_, ej_, H⟩ := Option.bind_eq_some_iff.mp H
     obtain rfl := Option.some.inj H
     exact moves_w10 _ _ _ _ _ _ _ _ _ _ e0_ ej_
    ·rw [if_neg c33] at H
     have c33b0 : (a0_0 == 10) = false := beq_eq_false_iff_ne.mpr c33
     have c33b1 : (a0_0 != 10) = true := bne_iff_ne.mpr c33
     by_cases c42 : a0_0 = 11
     ·subst c42
      rw [if_pos rfl] at H
      obtain ⟨tj_, ej_, H⟩ := Option.bind_eq_some_iff.mp H
      obtain rfl := Option.some.inj H
      exact moves_w11 _ _ _ _ _ _ _ _ _ ej_
     ·rw [if_neg c42] at H
      have c42b0 : (a0_0 == 11) = false := beq_eq_false_iff_ne.mpr c42
      have c42b1 : (a0_0 != 11) = true := bne_iff_ne.mpr c42
      by_cases c50 : a0_0 = 12
      ·subst c50
       rw [if_pos rfl] at H
       obtain ⟨tj_, ej_, H⟩ := Option.bind_eq_some_iff.mp H
       obtain rfl := Option.some.inj H
       exact moves_w12 _ _ _ _ _ _ _ _ _ ej_
      ·rw [if_neg c50] at H
       have c50b0 : (a0_0 == 12) = false := beq_eq_false_iff_ne.mpr c50
       have c50b1 : (a0_0 != 12) = true := bne_iff_ne.mpr c50
       by_cases c58 : a0_0 = 15
       ·subst c58
        rw [if_pos rfl] at H
        obtain ⟨tj_, ej_, H⟩ := Option.bind_eq_some_iff.mp H
        obtain rfl := Option.some.inj H
        exact moves_w15 _ _ _ _ _ _ _ _ _ ej_
       ·rw [if_neg c58] at H
        have c58b0 : (a0_0 == 15) = false := beq_eq_false_iff_ne.mpr c58
        have c58b1 : (a0_0 != 15) = true := bne_iff_ne.mpr c58
        by_cases c66 : a0_0 = 16
        ·subst c66
         rw [if_pos rfl] at H
         obtain ⟨tj_, ej_, H⟩ := Option.bind_eq_some_iff.mp H
         obtain rfl := Option.some.inj H
         exact moves_w16 _ _ _ _ _ _ _ _ _ ej_
        ·rw [if_neg c66] at H
         have c66b0 : (a0_0 == 16) = false := beq_eq_false_iff_ne.mpr c66
         have c66b1 : (a0_0 != 16) = true := bne_iff_ne.mpr c66
         by_cases c74 : a0_0 = 17
         ·subst c74
          rw [if_pos rfl] at H
          obtain ⟨t0_, e0_, H⟩ := Option.bind_eq_some_iff.mp H
          obtain ⟨tj_, ej_, H⟩ := Option.bind_eq_some_iff.mp H
          obtain rfl := Option.some.inj H
          exact moves_w17 _ _ _ _ _ _ _ _ _ _ e0_ ej_
         ·rw [if_neg c74] at H
          have c74b0 : (a0_0 == 17) = false := beq_eq_false_iff_ne.mpr c74
          have c74b1 : (a0_0 != 17) = true := bne_iff_ne.mpr c74
          by_cases c83 : a0_0 = 18
          ·subst c83
           rw [if_pos rfl] at H
           obtain ⟨tj_, ej_, H⟩ := Option.bind_eq_some_iff.mp H
           obtain rfl := Option.some.inj H
           exact moves_w18 _ _ _ _ _ _ _ _ _ ej_
          ·rw [if_neg c83] at H
           have c83b0 : (a0_0 == 18) = false := beq_eq_false_iff_ne.mpr c83
           have c83b1 : (a0_0 != 18) = true := bne_iff_ne.mpr c83
           by_cases c91 : a0_0 = 20
           ·subst c91
            rw [if_pos rfl] at H
            obtain ⟨tj_, ej_, H⟩ := Option.bind_eq_some_iff.mp H
            obtain rfl := Option.some.inj H
            exact moves_w20 _ _ _ _ _ _ _ _ _ ej_
           ·rw [if_neg c91] at H
            have c91b0 : (a0_0 == 20) = false := beq_eq_false_iff_ne.mpr c91
            have c91b1 : (a0_0 != 20) = true := bne_iff_ne.mpr c91
            by_cases c99 : a0_0 = 21
            ·subst c99
             rw [if_pos rfl] at H
             obtain ⟨t0_, e0_, H⟩ := Option.bind_eq_some_iff.mp H
             obtain ⟨tj_, ej_, H⟩ := Option.bind_eq_some_iff.mp H
             obtain rfl := Option.some.inj H
             exact moves_w21 _ _ _ _ _ _ _ _ _ _ e0_ ej_
            ·rw [if_neg c99] at H
             have c99b0 : (a0_0 == 21) = false := beq_eq_false_iff_ne.mpr c99
             have c99b1 : (a0_0 != 21) = true := bne_iff_ne.mpr c99
             by_cases c108 : a0_0 = 22
             ·subst c108
              rw [if_pos rfl] at H
              obtain ⟨t0_, e0_, H⟩ := Option.bind_eq_some_iff.mp H
              obtain ⟨tj_, ej_, H⟩ := Option.bind_eq_some_iff.mp H
              obtain rfl := Option.some.inj H
              exact moves_w22 _ _ _ _ _ _ _ _ _ _ e0_ ej_
             ·rw [if_neg c108] at H
              have c108b0 : (a0_0 == 22) = false := beq_eq_false_iff_ne.mpr c108
              have c108b1 : (a0_0 != 22) = true := bne_iff_ne.mpr c108
              obtain rfl := Option.some.inj H
              go_enter Tryd.func40, Tryd.ntmps40
              go_wp2_with (first | ((with_reducible refine gate_dst (N := 3) rfl ?_); refine box_event ?hg (N := 3) ?hd (cs := #[.int .i64 a0_0, .int .i64 a0_1, .int .i64 a0_2, .int .i64 a0_3, .int .i64 a0_4, .int .i64 a0_5]) (t := 46) ?hr ?_; (case hd => rfl); (case hg => rfl); (case hr => first | (go_simp; done) | (go_simp; rfl)); intro gb119 hg w117 hbox hb; have n0_ := Aside0.mk (below_step (by repeat (first | (with_reducible first | exact HB.out | apply below_alloc | apply pw_below_drewN | apply below_drew1) | exact HB.out)) hb); have n1_ := Aside0.mk (hbox); have n2_ := Aside0.mk ((by rw [hg]; exact (below_size (by repeat (first | (with_reducible first | exact HB.out | apply below_alloc | apply pw_below_drewN | apply below_drew1) | exact HB.out))) : w.heap.size ≤ gb119)); have n3_ := Aside0.mk ((by rw [hg]; exact (below_size (by repeat (first | (with_reducible first | exact HB.out | apply below_alloc | apply pw_below_drewN | apply below_drew1) | exact HB.out))) : w.heap.size ≤ gb119)); clear HB; have HB := n0_; have BK119 := n1_; have GW119 := n2_; have GE119 := n3_; clear n0_ n1_ n2_ n3_; clear hb hbox hg; obtain ⟨hcz118_0, hcz118_1, hcz118_2, hcz118_3, hcz118_4, hcz118_5, hfz118_0, hfz118_1, hfz118_2, hfz118_3, hfz118_4, hfz118_5⟩ := blk6 BK119.out))
              go_ret
              exact ⟨by first | rfl | (simp [errW_none, errW_some] <;> rfl) | (simp [*, errW_none, errW_some] <;> rfl), by repeat (first | (with_reducible first | exact HB.out | apply below_alloc | apply pw_below_drewN | apply below_drew1 | refine below_set ?_ GE119.out) | exact HB.out)⟩

end Go.Proofs.YtpjbfpheenamiaaDoor.PF
