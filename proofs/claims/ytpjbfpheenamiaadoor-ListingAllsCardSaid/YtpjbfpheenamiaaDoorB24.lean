/- Texts of this claim, put together: PF29. -/
import Derived.Test.YtpjbfpheenamiaaDoorB1
import Derived.Test.YtpjbfpheenamiaaDoorB22
import Derived.Test.YtpjbfpheenamiaaDoorB23
-- PRINTED by print.py (a twelfth state) out of the translation. Not trusted: Lean checks it.
namespace Go.Proofs.YtpjbfpheenamiaaDoor.PF
open Go.RowKit Go.Proofs.YtpjbfpheenamiaaDoorW.PrintWords Go.Proofs.YtpjbfpheenamiaaDoorW.PrintLast Go.Proofs.YtpjbfpheenamiaaDoorW.PrintMore
attribute [local go_sem] max2_int min2_int max_two min_two max_three min_three max_four min_four   -- for this text's walks alone
set_option linter.unusedVariables false
set_option linter.unusedSimpArgs false

/-! ### whirligigref06_means: function 29 -/
def whirligigref06_means.f (k : Nat) (a0 : Int) (a1_0 : Int) (a1_1 : Int) (a1_2 : Int) (a1_3 : Int) (a1_4 : Int) (a1_5 : Int) (a2 : Int) (a3 : Int) (a4 : Int) : Option (ByteArray) := if a0 = 114 then ((whirligigref06_Reg.f k a1_1).bind fun t327 => (some t327)) else (if a0 = 115 then ((whirligigref06_Reg.f k a1_2).bind fun t328 => (some t328)) else (if a0 = 112 then ((whirligigref06_Pair.f k a1_1).bind fun t329 => (some t329)) else (if a0 = 110 then ((whirligigref06_Cond.f k a1_1).bind fun t330 => (some t330)) else (if a0 = 113 then ((whirligigref06_word.f k (⟨#[40, 66, 67, 41, 32, 40, 68, 69, 41, 32, 40, 72, 76, 43, 41, 32, 40, 72, 76, 45, 41]⟩ : ByteArray) a1_1).bind fun t331 => (some t331)) else (if a0 = 97 then ((whirligigref06_Op.f k a1_1).bind fun t332 => (some t332)) else (if a0 = 104 then ((whirligigref06_Shift.f k a1_1).bind fun t333 => (some t333)) else (if a0 = 120 then (if 0 ≤ a1_1 then (if a1_1 ≤ (wrap64 (a1_1 + 1)) then (if (wrap64 (a1_1 + 1)) ≤ 8 then (some ((⟨#[48, 49, 50, 51, 52, 53, 54, 55]⟩ : ByteArray).extract (a1_1 : Int).toNat ((wrap64 (a1_1 + 1)) : Int).toNat)) else (none)) else (none)) else (none)) else (if a0 = 101 then ((whirligigref01_Hex8.f ((wrap64 (8 * a1_1)) % 256)).bind fun t334 => (if 1 + t334.size ≤ 9223372036854775807 then (some ((⟨#[36]⟩ : ByteArray) ++ t334)) else (none))) else (if a0 = 111 then ((whirligigref01_Hex8.f a2).bind fun t335 => (if 1 + t335.size ≤ 9223372036854775807 then (some ((⟨#[36]⟩ : ByteArray) ++ t335)) else (none))) else (if a0 = 98 then ((whirligigref01_Hex8.f a3).bind fun t336 => (if 1 + t336.size ≤ 9223372036854775807 then (some ((⟨#[36]⟩ : ByteArray) ++ t336)) else (none))) else ((whirligigref01_Join.f a4 a3).bind fun t337 => ((whirligigref01_Hex16.f t337).bind fun t338 => (if 1 + t338.size ≤ 9223372036854775807 then (some ((⟨#[36]⟩ : ByteArray) ++ t338)) else (none))))))))))))))
theorem whirligigref06_means.mono : ∀ a0 a1 a2 a3 a4 a5 a6 a7 a8 a9 k, LeO (whirligigref06_means.f k a0 a1 a2 a3 a4 a5 a6 a7 a8 a9) (whirligigref06_means.f (k + 1) a0 a1 a2 a3 a4 a5 a6 a7 a8 a9) := by
 intro a0 a1 a2 a3 a4 a5 a6 a7 a8 a9 k
 unfold whirligigref06_means.f
 repeat' first
   | (with_reducible exact whirligigref06_Cond.mono _ _)
   | (with_reducible exact whirligigref06_Op.mono _ _)
   | (with_reducible exact whirligigref06_Pair.mono _ _)
   | (with_reducible exact whirligigref06_Reg.mono _ _)
   | (with_reducible exact whirligigref06_Shift.mono _ _)
   | (with_reducible exact whirligigref06_word.mono _ _ _)
   | (with_reducible exact LeO.refl _)
   | (with_reducible exact LeO.none _)
   | (with_reducible refine LeO.ite ?_ ?_)
   | (with_reducible refine LeO.bind ?_ (fun _ => ?_))
   | exact whirligigref06_Cond.mono _ _
   | exact whirligigref06_Op.mono _ _
   | exact whirligigref06_Pair.mono _ _
   | exact whirligigref06_Reg.mono _ _
   | exact whirligigref06_Shift.mono _ _
   | exact whirligigref06_word.mono _ _ _
   | exact LeO.none _
   | refine LeO.ite ?_ ?_
   | refine LeO.bind ?_ (fun _ => ?_)
set_option maxHeartbeats 8000000 in
set_option maxRecDepth 100000 in
theorem whirligigref06_means.calls (k : Nat) (a0 : Int) (a1_0 : Int) (a1_1 : Int) (a1_2 : Int) (a1_3 : Int) (a1_4 : Int) (a1_5 : Int) (a2 : Int) (a3 : Int) (a4 : Int) (r : ByteArray) (w : World) (h : whirligigref06_means.f k a0 a1_0 a1_1 a1_2 a1_3 a1_4 a1_5 a2 a3 a4 = some r) :
  Calls Tryd.prog 29 #[.int .u8 a0, .agg #[.int .i64 a1_0, .int .i64 a1_1, .int .i64 a1_2, .int .i64 a1_3, .int .i64 a1_4, .int .i64 a1_5], .int .u8 a2, .int .u8 a3, .int .u8 a4] w fun e w' => e = .returned (.string r) ∧ Below w.heap.size w w' := by
 have hu46 := Tryd.underlying46
 have HB := Aside0.mk (Below.refl w.heap.size w)
 have H : (if a0 = 114 then ((whirligigref06_Reg.f k a1_1).bind fun t327 => (some t327)) else (if a0 = 115 then ((whirligigref06_Reg.f k a1_2).bind fun t328 => (some t328)) else (if a0 = 112 then ((whirligigref06_Pair.f k a1_1).bind fun t329 => (some t329)) else (if a0 = 110 then ((whirligigref06_Cond.f k a1_1).bind fun t330 => (some t330)) else (if a0 = 113 then ((whirligigref06_word.f k (⟨#[40, 66, 67, 41, 32, 40, 68, 69, 41, 32, 40, 72, 76, 43, 41, 32, 40, 72, 76, 45, 41]⟩ : ByteArray) a1_1).bind fun t331 => (some t331)) else (if a0 = 97 then ((whirligigref06_Op.f k a1_1).bind fun t332 => (some t332)) else (if a0 = 104 then ((whirligigref06_Shift.f k a1_1).bind fun t333 => (some t333)) else (if a0 = 120 then (if 0 ≤ a1_1 then (if a1_1 ≤ (wrap64 (a1_1 + 1)) then (if (wrap64 (a1_1 + 1)) ≤ 8 then (some ((⟨#[48, 49, 50, 51, 52, 53, 54, 55]⟩ : ByteArray).extract (a1_1 : Int).toNat ((wrap64 (a1_1 + 1)) : Int).toNat)) else (none)) else (none)) else (none)) else (if a0 = 101 then ((whirligigref01_Hex8.f ((wrap64 (8 * a1_1)) % 256)).bind fun t334 => (if 1 + t334.size ≤ 9223372036854775807 then (some ((⟨#[36]⟩ : ByteArray) ++ t334)) else (none))) else (if a0 = 111 then ((whirligigref01_Hex8.f a2).bind fun t335 => (if 1 + t335.size ≤ 9223372036854775807 then (some ((⟨#[36]⟩ : ByteArray) ++ t335)) else (none))) else (if a0 = 98 then ((whirligigref01_Hex8.f a3).bind fun t336 => (if 1 + t336.size ≤ 9223372036854775807 then (some ((⟨#[36]⟩ : ByteArray) ++ t336)) else (none))) else ((whirligigref01_Join.f a4 a3).bind fun t337 => ((whirligigref01_Hex16.f t337).bind fun t338 => (if 1 + t338.size ≤ 9223372036854775807 then (some ((⟨#[36]⟩ : ByteArray) ++ t338)) else (none))))))))))))))) = some r := h
 clear h
 by_cases c6 : a0 = 114
 ·rw [if_pos c6] at H
  have c6b0 : (a0 == 114) = true := beq_iff_eq.mpr c6
  have c6b1 : (a0 != 114) = false := bne_eq_false_iff_eq.mpr c6
  clear c6
  replace H := Option.bind_eq_some_iff.mp H
  obtain ⟨t327, A70, H⟩ := H
  replace H : (some t327) = some r := H
  have A7 := Aside0.mk A70
  clear A70
  obtain rfl := Option.some.inj H
  go_enter Tryd.func29, Tryd.ntmps29
  go_wp2_with (first | ((with_reducible refine gate_dst (N := 6) rfl ?_); refine box_event ?hg (N := 6) ?hd (cs := #[.int .i64 a1_0, .int .i64 a1_1, .int .i64 a1_2, .int .i64 a1_3, .int .i64 a1_4, .int .i64 a1_5]) (t := 46) ?hr ?_; (case hd => rfl); (case hg => rfl); (case hr => first | (go_simp; done) | (go_simp; rfl)); intro gb326 hg w8 hbox hb; have n0_ := Aside0.mk (below_step (by repeat (first | (with_reducible first | exact HB.out | apply below_alloc | apply pw_below_drewN | apply below_drew1) | exact HB.out)) hb); have n1_ := Aside0.mk (hbox); have n2_ := Aside0.mk ((by rw [hg]; exact (below_size (by repeat (first | (with_reducible first | exact HB.out | apply below_alloc | apply pw_below_drewN | apply below_drew1) | exact HB.out))) : w.heap.size ≤ gb326)); have n3_ := Aside0.mk ((by rw [hg]; exact (below_size (by repeat (first | (with_reducible first | exact HB.out | apply below_alloc | apply pw_below_drewN | apply below_drew1) | exact HB.out))) : w.heap.size ≤ gb326)); clear HB; have HB := n0_; have BK326 := n1_; have GW326 := n2_; have GE326 := n3_; clear n0_ n1_ n2_ n3_; clear hb hbox hg; obtain ⟨hcz9_0, hcz9_1, hcz9_2, hcz9_3, hcz9_4, hcz9_5, hfz9_0, hfz9_1, hfz9_2, hfz9_3, hfz9_4, hfz9_5⟩ := blk6 BK326.out) | ((with_reducible refine gate_callee (f := 45) rfl ?_); refine goesL_ (some 17) rfl rfl Tryd.func45 (by kernel_rfl) rfl #[.int .i64 a1_1] rfl (by (try simp only [List.map_toArray, List.map_cons, List.map_nil]); first | done | rfl | (simp only [List.length_drop, List.length_take]; rfl)) ?_; (with_reducible refine (whirligigref06_Reg.calls k a1_1 t327 _ A7.out).mono ?_); rintro e w' ⟨rfl, ⟨nd, rfl⟩⟩; refine ⟨_, rfl, ?_⟩))
  go_ret
  exact ⟨by first | rfl | (simp [errW_none, errW_some] <;> rfl) | (simp [*, errW_none, errW_some] <;> rfl), by repeat (first | (with_reducible first | exact HB.out | apply below_alloc | apply pw_below_drewN | apply below_drew1 | refine below_set ?_ GE326.out) | exact HB.out)⟩
 ·rw [if_neg c6] at H
  have c6b0 : (a0 == 114) = false := beq_eq_false_iff_ne.mpr c6
  have c6b1 : (a0 != 114) = true := bne_iff_ne.mpr c6
  by_cases c10 : a0 = 115
  ·rw [if_pos c10] at H
   have c10b0 : (a0 == 115) = true := beq_iff_eq.mpr c10
   have c10b1 : (a0 != 115) = false := bne_eq_false_iff_eq.mpr c10
   clear c10
   replace H := Option.bind_eq_some_iff.mp H
   obtain ⟨t328, A110, H⟩ := H
   replace H : (some t328) = some r := H
   have A11 := Aside0.mk A110
   clear A110
   obtain rfl := Option.some.inj H
   go_enter Tryd.func29, Tryd.ntmps29
   go_wp2_with (first | ((with_reducible refine gate_dst (N := 6) rfl ?_); refine box_event ?hg (N := 6) ?hd (cs := #[.int .i64 a1_0, .int .i64 a1_1, .int .i64 a1_2, .int .i64 a1_3, .int .i64 a1_4, .int .i64 a1_5]) (t := 46) ?hr ?_; (case hd => rfl); (case hg => rfl); (case hr => first | (go_simp; done) | (go_simp; rfl)); intro gb326 hg w12 hbox hb; have n0_ := Aside0.mk (below_step (by repeat (first | (with_reducible first | exact HB.out | apply below_alloc | apply pw_below_drewN | apply below_drew1) | exact HB.out)) hb); have n1_ := Aside0.mk (hbox); have n2_ := Aside0.mk ((by rw [hg]; exact (below_size (by repeat (first | (with_reducible first | exact HB.out | apply below_alloc | apply pw_below_drewN | apply below_drew1) | exact HB.out))) : w.heap.size ≤ gb326)); have n3_ := Aside0.mk ((by rw [hg]; exact (below_size (by repeat (first | (with_reducible first | exact HB.out | apply below_alloc | apply pw_below_drewN | apply below_drew1) | exact HB.out))) : w.heap.size ≤ gb326)); clear HB; have HB := n0_; have BK326 := n1_; have GW326 := n2_; have GE326 := n3_; clear n0_ n1_ n2_ n3_; clear hb hbox hg; obtain ⟨hcz13_0, hcz13_1, hcz13_2, hcz13_3, hcz13_4, hcz13_5, hfz13_0, hfz13_1, hfz13_2, hfz13_3, hfz13_4, hfz13_5⟩ := blk6 BK326.out) | ((with_reducible refine gate_callee (f := 45) rfl ?_); refine goesL_ (some 22) rfl rfl Tryd.func45 (by kernel_rfl) rfl #[.int .i64 a1_2] rfl (by (try simp only [List.map_toArray, List.map_cons, List.map_nil]); first | done | rfl | (simp only [List.length_drop, List.length_take]; rfl)) ?_; (with_reducible refine (whirligigref06_Reg.calls k a1_2 t328 _ A11.out).mono ?_); rintro e w' ⟨rfl, ⟨nd, rfl⟩⟩; refine ⟨_, rfl, ?_⟩))
   go_ret
   exact ⟨by first | rfl | (simp [errW_none, errW_some] <;> rfl) | (simp [*, errW_none, errW_some] <;> rfl), by repeat (first | (with_reducible first | exact HB.out | apply below_alloc | apply pw_below_drewN | apply below_drew1 | refine below_set ?_ GE326.out) | exact HB.out)⟩
  ·rw [if_neg c10] at H
   have c10b0 : (a0 == 115) = false := beq_eq_false_iff_ne.mpr c10
   have c10b1 : (a0 != 115) = true := bne_iff_ne.mpr c10
   by_cases c14 : a0 = 112
   ·rw [if_pos c14] at H
    have c14b0 : (a0 == 112) = true := beq_iff_eq.mpr c14
    have c14b1 : (a0 != 112) = false := bne_eq_false_iff_eq.mpr c14
    clear c14
    replace H := Option.bind_eq_some_iff.mp H
    obtain ⟨t329, A150, H⟩ := H
    replace H : (some t329) = some r := H
    have A15 := Aside0.mk A150
    clear A150
    obtain rfl := Option.some.inj H
    go_enter Tryd.func29, Tryd.ntmps29
    go_wp2_with (first | ((with_reducible refine gate_dst (N := 6) rfl ?_); refine box_event ?hg (N := 6) ?hd (cs := #[.int .i64 a1_0, .int .i64 a1_1, .int .i64 a1_2, .int .i64 a1_3, .int .i64 a1_4, .int .i64 a1_5]) (t := 46) ?hr ?_; (case hd => rfl); (case hg => rfl); (case hr => first | (go_simp; done) | (go_simp; rfl)); intro gb326 hg w16 hbox hb; have n0_ := Aside0.mk (below_step (by repeat (first | (with_reducible first | exact HB.out | apply below_alloc | apply pw_below_drewN | apply below_drew1) | exact HB.out)) hb); have n1_ := Aside0.mk (hbox); have n2_ := Aside0.mk ((by rw [hg]; exact (below_size (by repeat (first | (with_reducible first | exact HB.out | apply below_alloc | apply pw_below_drewN | apply below_drew1) | exact HB.out))) : w.heap.size ≤ gb326)); have n3_ := Aside0.mk ((by rw [hg]; exact (below_size (by repeat (first | (with_reducible first | exact HB.out | apply below_alloc | apply pw_below_drewN | apply below_drew1) | exact HB.out))) : w.heap.size ≤ gb326)); clear HB; have HB := n0_; have BK326 := n1_; have GW326 := n2_; have GE326 := n3_; clear n0_ n1_ n2_ n3_; clear hb hbox hg; obtain ⟨hcz17_0, hcz17_1, hcz17_2, hcz17_3, hcz17_4, hcz17_5, hfz17_0, hfz17_1, hfz17_2, hfz17_3, hfz17_4, hfz17_5⟩ := blk6 BK326.out) | ((with_reducible refine gate_callee (f := 46) rfl ?_); refine goesL_ (some 27) rfl rfl Tryd.func46 (by kernel_rfl) rfl #[.int .i64 a1_1] rfl (by (try simp only [List.map_toArray, List.map_cons, List.map_nil]); first | done | rfl | (simp only [List.length_drop, List.length_take]; rfl)) ?_; (with_reducible refine (whirligigref06_Pair.calls k a1_1 t329 _ A15.out).mono ?_); rintro e w' ⟨rfl, ⟨nd, rfl⟩⟩; refine ⟨_, rfl, ?_⟩))
    go_ret
    exact ⟨by first | rfl | (simp [errW_none, errW_some] <;> rfl) | (simp [*, errW_none, errW_some] <;> rfl), by repeat (first | (with_reducible first | exact HB.out | apply below_alloc | apply pw_below_drewN | apply below_drew1 | refine below_set ?_ GE326.out) | exact HB.out)⟩
   ·rw [if_neg c14] at H
    have c14b0 : (a0 == 112) = false := beq_eq_false_iff_ne.mpr c14
    have c14b1 : (a0 != 112) = true := bne_iff_ne.mpr c14
    by_cases c18 : a0 = 110
    ·rw [if_pos c18] at H
     have c18b0 : (a0 == 110) = true := beq_iff_eq.mpr c18
     have c18b1 : (a0 != 110) = false := bne_eq_false_iff_eq.mpr c18
     clear c18
     replace H := Option.bind_eq_some_iff.mp H
     obtain ⟨t330, A190, H⟩ := H
     replace H : (some t330) = some r := H
     have A19 := Aside0.mk A190
     clear A190
     obtain rfl := Option.some.inj H
     go_enter Tryd.func29, Tryd.ntmps29
     go_wp2_with (first | ((with_reducible refine gate_dst (N := 6) rfl ?_); refine box_event ?hg (N := 6) ?hd (cs := #[.int .i64 a1_0, .int .i64 a1_1, .int .i64 a1_2, .int .i64 a1_3, .int .i64 a1_4, .int .i64 a1_5]) (t := 46) ?hr ?_; (case hd => rfl); (case hg => rfl); (case hr => first | (go_simp; done) | (go_simp; rfl)); intro gb326 hg w20 hbox hb; have n0_ := Aside0.mk (below_step (by repeat (first | (with_reducible first | exact HB.out | apply below_alloc | apply pw_below_drewN | apply below_drew1) | exact HB.out)) hb); have n1_ := Aside0.mk (hbox); have n2_ := Aside0.mk ((by rw [hg]; exact (below_size (by repeat (first | (with_reducible first | exact HB.out | apply below_alloc | apply pw_below_drewN | apply below_drew1) | exact HB.out))) : w.heap.size ≤ gb326)); have n3_ := Aside0.mk ((by rw [hg]; exact (below_size (by repeat (first | (with_reducible first | exact HB.out | apply below_alloc | apply pw_below_drewN | apply below_drew1) | exact HB.out))) : w.heap.size ≤ gb326)); clear HB; have HB := n0_; have BK326 := n1_; have GW326 := n2_; have GE326 := n3_; clear n0_ n1_ n2_ n3_; clear hb hbox hg; obtain ⟨hcz21_0, hcz21_1, hcz21_2, hcz21_3, hcz21_4, hcz21_5, hfz21_0, hfz21_1, hfz21_2, hfz21_3, hfz21_4, hfz21_5⟩ := blk6 BK326.out) | ((with_reducible refine gate_callee (f := 47) rfl ?_); refine goesL_ (some 32) rfl rfl Tryd.func47 (by kernel_rfl) rfl #[.int .i64 a1_1] rfl (by (try simp only [List.map_toArray, List.map_cons, List.map_nil]); first | done | rfl | (simp only [List.length_drop, List.length_take]; rfl)) ?_; (with_reducible refine (whirligigref06_Cond.calls k a1_1 t330 _ A19.out).mono ?_); rintro e w' ⟨rfl, ⟨nd, rfl⟩⟩; refine ⟨_, rfl, ?_⟩))
     go_ret
     exact ⟨by first | rfl | (simp [errW_none, errW_some] <;> rfl) | (simp [*, errW_none, errW_some] <;> rfl), by repeat (first | (with_reducible first | exact HB.out | apply below_alloc | apply pw_below_drewN | apply below_drew1 | refine below_set ?_ GE326.out) | exact HB.out)⟩
    ·rw [if_neg c18] at H
     have c18b0 : (a0 == 110) = false := beq_eq_false_iff_ne.mpr c18
     have c18b1 : (a0 != 110) = true := bne_iff_ne.mpr c18
     by_cases c22 : a0 = 113
     ·rw [if_pos c22] at H
      have c22b0 : (a0 == 113) = true := beq_iff_eq.mpr c22
      have c22b1 : (a0 != 113) = false := bne_eq_false_iff_eq.mpr c22
      clear c22
      replace H := Option.bind_eq_some_iff.mp H
      obtain ⟨t331, A230, H⟩ := H
      replace H : (some t331) = some r := H
      have A23 := Aside0.mk A230
      clear A230
      obtain rfl := Option.some.inj H
      go_enter Tryd.func29, Tryd.ntmps29
      go_wp2_with (first | ((with_reducible refine gate_dst (N := 6) rfl ?_); refine box_event ?hg (N := 6) ?hd (cs := #[.int .i64 a1_0, .int .i64 a1_1, .int .i64 a1_2, .int .i64 a1_3, .int .i64 a1_4, .int .i64 a1_5]) (t := 46) ?hr ?_; (case hd => rfl); (case hg => rfl); (case hr => first | (go_simp; done) | (go_simp; rfl)); intro gb326 hg w24 hbox hb; have n0_ := Aside0.mk (below_step (by repeat (first | (with_reducible first | exact HB.out | apply below_alloc | apply pw_below_drewN | apply below_drew1) | exact HB.out)) hb); have n1_ := Aside0.mk (hbox); have n2_ := Aside0.mk ((by rw [hg]; exact (below_size (by repeat (first | (with_reducible first | exact HB.out | apply below_alloc | apply pw_below_drewN | apply below_drew1) | exact HB.out))) : w.heap.size ≤ gb326)); have n3_ := Aside0.mk ((by rw [hg]; exact (below_size (by repeat (first | (with_reducible first | exact HB.out | apply below_alloc | apply pw_below_drewN | apply below_drew1) | exact HB.out))) : w.heap.size ≤ gb326)); clear HB; have HB := n0_; have BK326 := n1_; have GW326 := n2_; have GE326 := n3_; clear n0_ n1_ n2_ n3_; clear hb hbox hg; obtain ⟨hcz25_0, hcz25_1, hcz25_2, hcz25_3, hcz25_4, hcz25_5, hfz25_0, hfz25_1, hfz25_2, hfz25_3, hfz25_4, hfz25_5⟩ := blk6 BK326.out) | ((with_reducible refine gate_callee (f := 48) rfl ?_); refine goesL_ (some 37) rfl rfl Tryd.func48 (by kernel_rfl) rfl #[.string (⟨#[40, 66, 67, 41, 32, 40, 68, 69, 41, 32, 40, 72, 76, 43, 41, 32, 40, 72, 76, 45, 41]⟩ : ByteArray), .int .i64 a1_1] rfl (by (try simp only [List.map_toArray, List.map_cons, List.map_nil]); first | done | rfl | (simp only [List.length_drop, List.length_take]; rfl)) ?_; (with_reducible refine (whirligigref06_word.calls k (⟨#[40, 66, 67, 41, 32, 40, 68, 69, 41, 32, 40, 72, 76, 43, 41, 32, 40, 72, 76, 45, 41]⟩ : ByteArray) a1_1 t331 _ A23.out).mono ?_); rintro e w' ⟨rfl, ⟨nd, rfl⟩⟩; refine ⟨_, rfl, ?_⟩))
      go_ret
      exact ⟨by first | rfl | (simp [errW_none, errW_some] <;> rfl) | (simp [*, errW_none, errW_some] <;> rfl), by repeat (first | (with_reducible first | exact HB.out | apply below_alloc | apply pw_below_drewN | apply below_drew1 | refine below_set ?_ GE326.out) | exact HB.out)⟩
     ·rw [if_neg c22] at H
      have c22b0 : (a0 == 113) = false := beq_eq_false_iff_ne.mpr c22
      have c22b1 : (a0 != 113) = true := bne_iff_ne.mpr c22
      by_cases c26 : a0 = 97
      ·rw [if_pos c26] at H
       have c26b0 : (a0 == 97) = true := beq_iff_eq.mpr c26
       have c26b1 : (a0 != 97) = false := bne_eq_false_iff_eq.mpr c26
       clear c26
       replace H := Option.bind_eq_some_iff.mp H
       obtain ⟨t332, A270, H⟩ := H
       replace H : (some t332) = some r := H
       have A27 := Aside0.mk A270
       clear A270
       obtain rfl := Option.some.inj H
       go_enter Tryd.func29, Tryd.ntmps29
       go_wp2_with (first | ((with_reducible refine gate_dst (N := 6) rfl ?_); refine box_event ?hg (N := 6) ?hd (cs := #[.int .i64 a1_0, .int .i64 a1_1, .int .i64 a1_2, .int .i64 a1_3, .int .i64 a1_4, .int .i64 a1_5]) (t := 46) ?hr ?_; (case hd => rfl); (case hg => rfl); (case hr => first | (go_simp; done) | (go_simp; rfl)); intro gb326 hg w28 hbox hb; have n0_ := Aside0.mk (below_step (by repeat (first | (with_reducible first | exact HB.out | apply below_alloc | apply pw_below_drewN | apply below_drew1) | exact HB.out)) hb); have n1_ := Aside0.mk (hbox); have n2_ := Aside0.mk ((by rw [hg]; exact (below_size (by repeat (first | (with_reducible first | exact HB.out | apply below_alloc | apply pw_below_drewN | apply below_drew1) | exact HB.out))) : w.heap.size ≤ gb326)); have n3_ := Aside0.mk ((by rw [hg]; exact (below_size (by repeat (first | (with_reducible first | exact HB.out | apply below_alloc | apply pw_below_drewN | apply below_drew1) | exact HB.out))) : w.heap.size ≤ gb326)); clear HB; have HB := n0_; have BK326 := n1_; have GW326 := n2_; have GE326 := n3_; clear n0_ n1_ n2_ n3_; clear hb hbox hg; obtain ⟨hcz29_0, hcz29_1, hcz29_2, hcz29_3, hcz29_4, hcz29_5, hfz29_0, hfz29_1, hfz29_2, hfz29_3, hfz29_4, hfz29_5⟩ := blk6 BK326.out) | ((with_reducible refine gate_callee (f := 49) rfl ?_); refine goesL_ (some 42) rfl rfl Tryd.func49 (by kernel_rfl) rfl #[.int .i64 a1_1] rfl (by (try simp only [List.map_toArray, List.map_cons, List.map_nil]); first | done | rfl | (simp only [List.length_drop, List.length_take]; rfl)) ?_; (with_reducible refine (whirligigref06_Op.calls k a1_1 t332 _ A27.out).mono ?_); rintro e w' ⟨rfl, ⟨nd, rfl⟩⟩; refine ⟨_, rfl, ?_⟩))
       go_ret
       exact ⟨by first | rfl | (simp [errW_none, errW_some] <;> rfl) | (simp [*, errW_none, errW_some] <;> rfl), by repeat (first | (with_reducible first | exact HB.out | apply below_alloc | apply pw_below_drewN | apply below_drew1 | refine below_set ?_ GE326.out) | exact HB.out)⟩
      ·rw [if_neg c26] at H
       have c26b0 : (a0 == 97) = false := beq_eq_false_iff_ne.mpr c26
       have c26b1 : (a0 != 97) = true := bne_iff_ne.mpr c26
       by_cases c30 : a0 = 104
       ·rw [if_pos c30] at H
        have c30b0 : (a0 == 104) = true := beq_iff_eq.mpr c30
        have c30b1 : (a0 != 104) = false := bne_eq_false_iff_eq.mpr c30
        clear c30
        replace H := Option.bind_eq_some_iff.mp H
        obtain ⟨t333, A310, H⟩ := H
        replace H : (some t333) = some r := H
        have A31 := Aside0.mk A310
        clear A310
        obtain rfl := Option.some.inj H
        go_enter Tryd.func29, Tryd.ntmps29
        go_wp2_with (first | ((with_reducible refine gate_dst (N := 6) rfl ?_); refine box_event ?hg (N := 6) ?hd (cs := #[.int .i64 a1_0, .int .i64 a1_1, .int .i64 a1_2, .int .i64 a1_3, .int .i64 a1_4, .int .i64 a1_5]) (t := 46) ?hr ?_; (case hd => rfl); (case hg => rfl); (case hr => first | (go_simp; done) | (go_simp; rfl)); intro gb326 hg w32 hbox hb; have n0_ := Aside0.mk (below_step (by repeat (first | (with_reducible first | exact HB.out | apply below_alloc | apply pw_below_drewN | apply below_drew1) | exact HB.out)) hb); have n1_ := Aside0.mk (hbox); have n2_ := Aside0.mk ((by rw [hg]; exact (below_size (by repeat (first | (with_reducible first | exact HB.out | apply below_alloc | apply pw_below_drewN | apply below_drew1) | exact HB.out))) : w.heap.size ≤ gb326)); have n3_ := Aside0.mk ((by rw [hg]; exact (below_size (by repeat (first | (with_reducible first | exact HB.out | apply below_alloc | apply pw_below_drewN | apply below_drew1) | exact HB.out))) : w.heap.size ≤ gb326)); clear HB; have HB := n0_; have BK326 := n1_; have GW326 := n2_; have GE326 := n3_; clear n0_ n1_ n2_ n3_; clear hb hbox hg; obtain ⟨hcz33_0, hcz33_1, hcz33_2, hcz33_3, hcz33_4, hcz33_5, hfz33_0, hfz33_1, hfz33_2, hfz33_3, hfz33_4, hfz33_5⟩ := blk6 BK326.out) | ((with_reducible refine gate_callee (f := 50) rfl ?_); refine goesL_ (some 47) rfl rfl Tryd.func50 (by kernel_rfl) rfl #[.int .i64 a1_1] rfl (by (try simp only [List.map_toArray, List.map_cons, List.map_nil]); first | done | rfl | (simp only [List.length_drop, List.length_take]; rfl)) ?_; (with_reducible refine (whirligigref06_Shift.calls k a1_1 t333 _ A31.out).mono ?_); rintro e w' ⟨rfl, ⟨nd, rfl⟩⟩; refine ⟨_, rfl, ?_⟩))
        go_ret
        exact ⟨by first | rfl | (simp [errW_none, errW_some] <;> rfl) | (simp [*, errW_none, errW_some] <;> rfl), by repeat (first | (with_reducible first | exact HB.out | apply below_alloc | apply pw_below_drewN | apply below_drew1 | refine below_set ?_ GE326.out) | exact HB.out)⟩
       ·rw [if_neg c30] at H
        have c30b0 : (a0 == 104) = false := beq_eq_false_iff_ne.mpr c30
        have c30b1 : (a0 != 104) = true := bne_iff_ne.mpr c30
        by_cases c34 : a0 = 120
        ·rw [if_pos c34] at H
         have c34b0 : (a0 == 120) = true := beq_iff_eq.mpr c34
         have c34b1 : (a0 != 120) = false := bne_eq_false_iff_eq.mpr c34
         clear c34
         by_cases c35 : 0 ≤ a1_1
         ·rw [if_pos c35] at H
          have c35b0 := eq_true c35
          have c35b1 : decide (0 ≤ a1_1) = true := decide_eq_true c35
          clear c35
          by_cases c36 : a1_1 ≤ (wrap64 (a1_1 + 1))
          ·rw [if_pos c36] at H
           have c36b0 := eq_true c36
           have c36b1 : decide (a1_1 ≤ (wrap64 (a1_1 + 1))) = true := decide_eq_true c36
           by_cases c37 : (wrap64 (a1_1 + 1)) ≤ 8
           ·rw [if_pos c37] at H
            have c37b0 := eq_true c37
            have c37b1 : decide ((wrap64 (a1_1 + 1)) ≤ 8) = true := decide_eq_true c37
            obtain rfl := Option.some.inj H
            go_enter Tryd.func29, Tryd.ntmps29
            go_wp2_with (first | ((with_reducible refine gate_dst (N := 6) rfl ?_); refine box_event ?hg (N := 6) ?hd (cs := #[.int .i64 a1_0, .int .i64 a1_1, .int .i64 a1_2, .int .i64 a1_3, .int .i64 a1_4, .int .i64 a1_5]) (t := 46) ?hr ?_; (case hd => rfl); (case hg => rfl); (case hr => first | (go_simp; done) | (go_simp; rfl)); intro gb326 hg w38 hbox hb; have n0_ := Aside0.mk (below_step (by repeat (first | (with_reducible first | exact HB.out | apply below_alloc | apply pw_below_drewN | apply below_drew1) | exact HB.out)) hb); have n1_ := Aside0.mk (hbox); have n2_ := Aside0.mk ((by rw [hg]; exact (below_size (by repeat (first | (with_reducible first | exact HB.out | apply below_alloc | apply pw_below_drewN | apply below_drew1) | exact HB.out))) : w.heap.size ≤ gb326)); have n3_ := Aside0.mk ((by rw [hg]; exact (below_size (by repeat (first | (with_reducible first | exact HB.out | apply below_alloc | apply pw_below_drewN | apply below_drew1) | exact HB.out))) : w.heap.size ≤ gb326)); clear HB; have HB := n0_; have BK326 := n1_; have GW326 := n2_; have GE326 := n3_; clear n0_ n1_ n2_ n3_; clear hb hbox hg; obtain ⟨hcz39_0, hcz39_1, hcz39_2, hcz39_3, hcz39_4, hcz39_5, hfz39_0, hfz39_1, hfz39_2, hfz39_3, hfz39_4, hfz39_5⟩ := blk6 BK326.out))
            go_ret
            exact ⟨by first | rfl | (simp [errW_none, errW_some] <;> rfl) | (simp [*, errW_none, errW_some] <;> rfl), by repeat (first | (with_reducible first | exact HB.out | apply below_alloc | apply pw_below_drewN | apply below_drew1 | refine below_set ?_ GE326.out) | exact HB.out)⟩
           ·rw [if_neg c37] at H
            exact absurd H (by simp)
          ·rw [if_neg c36] at H
           exact absurd H (by simp)
         ·rw [if_neg c35] at H
          exact absurd H (by simp)
        ·rw [if_neg c34] at H
         have c34b0 : (a0 == 120) = false := beq_eq_false_iff_ne.mpr c34
         have c34b1 : (a0 != 120) = true := bne_iff_ne.mpr c34
         by_cases c40 : a0 = 101
         ·rw [if_pos c40] at H
          have c40b0 : (a0 == 101) = true := beq_iff_eq.mpr c40
          have c40b1 : (a0 != 101) = false := bne_eq_false_iff_eq.mpr c40
          clear c40
          replace H := Option.bind_eq_some_iff.mp H
          obtain ⟨t334, A410, H⟩ := H
          replace H : (if 1 + t334.size ≤ 9223372036854775807 then (some ((⟨#[36]⟩ : ByteArray) ++ t334)) else (none)) = some r := H
          have A41 := Aside0.mk A410
          clear A410
          by_cases c42 : 1 + t334.size ≤ 9223372036854775807
          ·rw [if_pos c42] at H
           have c42b0 := eq_true c42
           have c42b1 : decide (1 + t334.size ≤ 9223372036854775807) = true := decide_eq_true c42
           try have c42b2 : (9223372036854775807 < 1 + t334.size) = False := eq_false (Nat.not_lt.2 c42)
           obtain rfl := Option.some.inj H
           go_enter Tryd.func29, Tryd.ntmps29
           go_wp2_with (first | ((with_reducible refine gate_dst (N := 6) rfl ?_); refine box_event ?hg (N := 6) ?hd (cs := #[.int .i64 a1_0, .int .i64 a1_1, .int .i64 a1_2, .int .i64 a1_3, .int .i64 a1_4, .int .i64 a1_5]) (t := 46) ?hr ?_; (case hd => rfl); (case hg => rfl); (case hr => first | (go_simp; done) | (go_simp; rfl)); intro gb326 hg w43 hbox hb; have n0_ := Aside0.mk (below_step (by repeat (first | (with_reducible first | exact HB.out | apply below_alloc | apply pw_below_drewN | apply below_drew1) | exact HB.out)) hb); have n1_ := Aside0.mk (hbox); have n2_ := Aside0.mk ((by rw [hg]; exact (below_size (by repeat (first | (with_reducible first | exact HB.out | apply below_alloc | apply pw_below_drewN | apply below_drew1) | exact HB.out))) : w.heap.size ≤ gb326)); have n3_ := Aside0.mk ((by rw [hg]; exact (below_size (by repeat (first | (with_reducible first | exact HB.out | apply below_alloc | apply pw_below_drewN | apply below_drew1) | exact HB.out))) : w.heap.size ≤ gb326)); clear HB; have HB := n0_; have BK326 := n1_; have GW326 := n2_; have GE326 := n3_; clear n0_ n1_ n2_ n3_; clear hb hbox hg; obtain ⟨hcz44_0, hcz44_1, hcz44_2, hcz44_3, hcz44_4, hcz44_5, hfz44_0, hfz44_1, hfz44_2, hfz44_3, hfz44_4, hfz44_5⟩ := blk6 BK326.out) | ((with_reducible refine gate_callee (f := 32) rfl ?_); refine goesL_ (some 63) rfl rfl Tryd.func32 (by kernel_rfl) rfl #[.int .u8 ((wrap64 (8 * a1_1)) % 256)] rfl (by (try simp only [List.map_toArray, List.map_cons, List.map_nil]); first | done | rfl | (simp only [List.length_drop, List.length_take]; rfl)) ?_; (with_reducible refine (whirligigref01_Hex8.calls ((wrap64 (8 * a1_1)) % 256) t334 _ A41.out).mono ?_); rintro e w' ⟨rfl, ⟨nd, rfl⟩⟩; refine ⟨_, rfl, ?_⟩))
           go_ret
           exact ⟨by first | rfl | (simp [errW_none, errW_some] <;> rfl) | (simp [*, errW_none, errW_some] <;> rfl), by repeat (first | (with_reducible first | exact HB.out | apply below_alloc | apply pw_below_drewN | apply below_drew1 | refine below_set ?_ GE326.out) | exact HB.out)⟩
          ·rw [if_neg c42] at H
           exact absurd H (by simp)
         ·rw [if_neg c40] at H
          have c40b0 : (a0 == 101) = false := beq_eq_false_iff_ne.mpr c40
          have c40b1 : (a0 != 101) = true := bne_iff_ne.mpr c40
          by_cases c45 : a0 = 111
          ·rw [if_pos c45] at H
           have c45b0 : (a0 == 111) = true := beq_iff_eq.mpr c45
           have c45b1 : (a0 != 111) = false := bne_eq_false_iff_eq.mpr c45
           clear c45
           replace H := Option.bind_eq_some_iff.mp H
           obtain ⟨t335, A460, H⟩ := H
           replace H : (if 1 + t335.size ≤ 9223372036854775807 then (some ((⟨#[36]⟩ : ByteArray) ++ t335)) else (none)) = some r := H
           have A46 := Aside0.mk A460
           clear A460
           by_cases c47 : 1 + t335.size ≤ 9223372036854775807
           ·rw [if_pos c47] at H
            have c47b0 := eq_true c47
            have c47b1 : decide (1 + t335.size ≤ 9223372036854775807) = true := decide_eq_true c47
            try have c47b2 : (9223372036854775807 < 1 + t335.size) = False := eq_false (Nat.not_lt.2 c47)
            obtain rfl := Option.some.inj H
            go_enter Tryd.func29, Tryd.ntmps29
            go_wp2_with (first | ((with_reducible refine gate_dst (N := 6) rfl ?_); refine box_event ?hg (N := 6) ?hd (cs := #[.int .i64 a1_0, .int .i64 a1_1, .int .i64 a1_2, .int .i64 a1_3, .int .i64 a1_4, .int .i64 a1_5]) (t := 46) ?hr ?_; (case hd => rfl); (case hg => rfl); (case hr => first | (go_simp; done) | (go_simp; rfl)); intro gb326 hg w48 hbox hb; have n0_ := Aside0.mk (below_step (by repeat (first | (with_reducible first | exact HB.out | apply below_alloc | apply pw_below_drewN | apply below_drew1) | exact HB.out)) hb); have n1_ := Aside0.mk (hbox); have n2_ := Aside0.mk ((by rw [hg]; exact (below_size (by repeat (first | (with_reducible first | exact HB.out | apply below_alloc | apply pw_below_drewN | apply below_drew1) | exact HB.out))) : w.heap.size ≤ gb326)); have n3_ := Aside0.mk ((by rw [hg]; exact (below_size (by repeat (first | (with_reducible first | exact HB.out | apply below_alloc | apply pw_below_drewN | apply below_drew1) | exact HB.out))) : w.heap.size ≤ gb326)); clear HB; have HB := n0_; have BK326 := n1_; have GW326 := n2_; have GE326 := n3_; clear n0_ n1_ n2_ n3_; clear hb hbox hg) | ((with_reducible refine gate_callee (f := 32) rfl ?_); refine goesL_ (some 68) rfl rfl Tryd.func32 (by kernel_rfl) rfl #[.int .u8 a2] rfl (by (try simp only [List.map_toArray, List.map_cons, List.map_nil]); first | done | rfl | (simp only [List.length_drop, List.length_take]; rfl)) ?_; (with_reducible refine (whirligigref01_Hex8.calls a2 t335 _ A46.out).mono ?_); rintro e w' ⟨rfl, ⟨nd, rfl⟩⟩; refine ⟨_, rfl, ?_⟩))
            go_ret
            exact ⟨by first | rfl | (simp [errW_none, errW_some] <;> rfl) | (simp [*, errW_none, errW_some] <;> rfl), by repeat (first | (with_reducible first | exact HB.out | apply below_alloc | apply pw_below_drewN | apply below_drew1 | refine below_set ?_ GE326.out) | exact HB.out)⟩
           ·rw [if_neg c47] at H
            exact absurd H (by simp)
          ·rw [if_neg c45] at H
           have c45b0 : (a0 == 111) = false := beq_eq_false_iff_ne.mpr c45
           have c45b1 : (a0 != 111) = true := bne_iff_ne.mpr c45
           by_cases c49 : a0 = 98
           ·rw [if_pos c49] at H
            have c49b0 : (a0 == 98) = true := beq_iff_eq.mpr c49
            have c49b1 : (a0 != 98) = false := bne_eq_false_iff_eq.mpr c49
            clear c49
            replace H := Option.bind_eq_some_iff.mp H
            obtain ⟨t336, A500, H⟩ := H
            replace H : (if 1 + t336.size ≤ 9223372036854775807 then (some ((⟨#[36]⟩ : ByteArray) ++ t336)) else (none)) = some r := H
            have A50 := Aside0.mk A500
            clear A500
            by_cases c51 : 1 + t336.size ≤ 9223372036854775807
            ·rw [if_pos c51] at H
             have c51b0 := eq_true c51
             have c51b1 : decide (1 + t336.size ≤ 9223372036854775807) = true := decide_eq_true c51
             try have c51b2 : (9223372036854775807 < 1 + t336.size) = False := eq_false (Nat.not_lt.2 c51)
             obtain rfl := Option.some.inj H
             go_enter Tryd.func29, Tryd.ntmps29
             go_wp2_with (first | ((with_reducible refine gate_dst (N := 6) rfl ?_); refine box_event ?hg (N := 6) ?hd (cs := #[.int .i64 a1_0, .int .i64 a1_1, .int .i64 a1_2, .int .i64 a1_3, .int .i64 a1_4, .int .i64 a1_5]) (t := 46) ?hr ?_; (case hd => rfl); (case hg => rfl); (case hr => first | (go_simp; done) | (go_simp; rfl)); intro gb326 hg w52 hbox hb; have n0_ := Aside0.mk (below_step (by repeat (first | (with_reducible first | exact HB.out | apply below_alloc | apply pw_below_drewN | apply below_drew1) | exact HB.out)) hb); have n1_ := Aside0.mk (hbox); have n2_ := Aside0.mk ((by rw [hg]; exact (below_size (by repeat (first | (with_reducible first | exact HB.out | apply below_alloc | apply pw_below_drewN | apply below_drew1) | exact HB.out))) : w.heap.size ≤ gb326)); have n3_ := Aside0.mk ((by rw [hg]; exact (below_size (by repeat (first | (with_reducible first | exact HB.out | apply below_alloc | apply pw_below_drewN | apply below_drew1) | exact HB.out))) : w.heap.size ≤ gb326)); clear HB; have HB := n0_; have BK326 := n1_; have GW326 := n2_; have GE326 := n3_; clear n0_ n1_ n2_ n3_; clear hb hbox hg) | ((with_reducible refine gate_callee (f := 32) rfl ?_); refine goesL_ (some 73) rfl rfl Tryd.func32 (by kernel_rfl) rfl #[.int .u8 a3] rfl (by (try simp only [List.map_toArray, List.map_cons, List.map_nil]); first | done | rfl | (simp only [List.length_drop, List.length_take]; rfl)) ?_; (with_reducible refine (whirligigref01_Hex8.calls a3 t336 _ A50.out).mono ?_); rintro e w' ⟨rfl, ⟨nd, rfl⟩⟩; refine ⟨_, rfl, ?_⟩))
             go_ret
             exact ⟨by first | rfl | (simp [errW_none, errW_some] <;> rfl) | (simp [*, errW_none, errW_some] <;> rfl), by repeat (first | (with_reducible first | exact HB.out | apply below_alloc | apply pw_below_drewN | apply below_drew1 | refine below_set ?_ GE326.out) | exact HB.out)⟩
            ·rw [if_neg c51] at H
             exact absurd H (by simp)
           ·rw [if_neg c49] at H
            have c49b0 : (a0 == 98) = false := beq_eq_false_iff_ne.mpr c49
            have c49b1 : (a0 != 98) = true := bne_iff_ne.mpr c49
            replace H := Option.bind_eq_some_iff.mp H
            obtain ⟨t337, A530, H⟩ := H
            replace H : ((whirligigref01_Hex16.f t337).bind fun t338 => (if 1 + t338.size ≤ 9223372036854775807 then (some ((⟨#[36]⟩ : ByteArray) ++ t338)) else (none))) = some r := H
            have A53 := Aside0.mk A530
            clear A530
            replace H := Option.bind_eq_some_iff.mp H
            obtain ⟨t338, A540, H⟩ := H
            replace H : (if 1 + t338.size ≤ 9223372036854775807 then (some ((⟨#[36]⟩ : ByteArray) ++ t338)) else (none)) = some r := H
            have A54 := Aside0.mk A540
            clear A540
            by_cases c55 : 1 + t338.size ≤ 9223372036854775807
            ·rw [if_pos c55] at H
             have c55b0 := eq_true c55
             have c55b1 : decide (1 + t338.size ≤ 9223372036854775807) = true := decide_eq_true c55
             try have c55b2 : (9223372036854775807 < 1 + t338.size) = False := eq_false (Nat.not_lt.2 c55)
             obtain rfl := Option.some.inj H
             go_enter Tryd.func29, Tryd.ntmps29
             go_wp2_with (first | ((with_reducible refine gate_dst (N := 6) rfl ?_); refine box_event ?hg (N := 6) ?hd (cs := #[.int .i64 a1_0, .int .i64 a1_1, .int .i64 a1_2, .int .i64 a1_3, .int .i64 a1_4, .int .i64 a1_5]) (t := 46) ?hr ?_; (case hd => rfl); (case hg => rfl); (case hr => first | (go_simp; done) | (go_simp; rfl)); intro gb326 hg w56 hbox hb; have n0_ := Aside0.mk (below_step (by repeat (first | (with_reducible first | exact HB.out | apply below_alloc | apply pw_below_drewN | apply below_drew1) | exact HB.out)) hb); have n1_ := Aside0.mk (hbox); have n2_ := Aside0.mk ((by rw [hg]; exact (below_size (by repeat (first | (with_reducible first | exact HB.out | apply below_alloc | apply pw_below_drewN | apply below_drew1) | exact HB.out))) : w.heap.size ≤ gb326)); have n3_ := Aside0.mk ((by rw [hg]; exact (below_size (by repeat (first | (with_reducible first | exact HB.out | apply below_alloc | apply pw_below_drewN | apply below_drew1) | exact HB.out))) : w.heap.size ≤ gb326)); clear HB; have HB := n0_; have BK326 := n1_; have GW326 := n2_; have GE326 := n3_; clear n0_ n1_ n2_ n3_; clear hb hbox hg) | ((with_reducible refine gate_callee (f := 52) rfl ?_); refine goesL_ (some 77) rfl rfl Tryd.func52 (by kernel_rfl) rfl #[.int .u8 a4, .int .u8 a3] rfl (by (try simp only [List.map_toArray, List.map_cons, List.map_nil]); first | done | rfl | (simp only [List.length_drop, List.length_take]; rfl)) ?_; (with_reducible refine (whirligigref01_Join.calls a4 a3 t337 _ A53.out).mono ?_); rintro e w' ⟨rfl, ⟨nd, rfl⟩⟩; refine ⟨_, rfl, ?_⟩) | ((with_reducible refine gate_callee (f := 51) rfl ?_); refine goesL_ (some 78) rfl rfl Tryd.func51 (by kernel_rfl) rfl #[.int .u16 t337] rfl (by (try simp only [List.map_toArray, List.map_cons, List.map_nil]); first | done | rfl | (simp only [List.length_drop, List.length_take]; rfl)) ?_; (with_reducible refine (whirligigref01_Hex16.calls t337 t338 _ A54.out).mono ?_); rintro e w' ⟨rfl, ⟨nd, rfl⟩⟩; refine ⟨_, rfl, ?_⟩))
             go_ret
             exact ⟨by first | rfl | (simp [errW_none, errW_some] <;> rfl) | (simp [*, errW_none, errW_some] <;> rfl), by repeat (first | (with_reducible first | exact HB.out | apply below_alloc | apply pw_below_drewN | apply below_drew1 | refine below_set ?_ GE326.out) | exact HB.out)⟩
            ·rw [if_neg c55] at H
             exact absurd H (by simp)

end Go.Proofs.YtpjbfpheenamiaaDoor.PF
