/- Texts of this claim, put together: PF54, PF55, GOpcE, GOpcM, GOpcL. -/
import Derived.Test.YtpjbfpheenamiaaDoorB1
import Derived.WalkKit
import Derived.WalkSpells
import Derived.WalkLawsBesides
-- PRINTED by print.py (a twelfth state) out of the translation. Not trusted: Lean checks it.
namespace Go.Proofs.YtpjbfpheenamiaaDoor.PF
open Go.RowKit Go.Proofs.YtpjbfpheenamiaaDoorW.PrintWords Go.Proofs.YtpjbfpheenamiaaDoorW.PrintLast Go.Proofs.YtpjbfpheenamiaaDoorW.PrintMore
attribute [local go_sem] max2_int min2_int max_two min_two max_three min_three max_four min_four   -- for this text's walks alone
set_option linter.unusedVariables false
set_option linter.unusedSimpArgs false

/-! ### opcode_form: function 54 -/
def opcode_form.f (a0 : Int) (a1 : Int) (a2 : Int) (a3 : Int) (a4 : Int) : Option (Int × Int × Int × Int × Int × Int) := some (a0, a1, a2, a3, a4, a4)
set_option maxHeartbeats 8000000 in
set_option maxRecDepth 100000 in
theorem opcode_form.calls (a0 : Int) (a1 : Int) (a2 : Int) (a3 : Int) (a4 : Int) (r1 : Int) (r2 : Int) (r3 : Int) (r4 : Int) (r5 : Int) (r6 : Int) (w : World) (h : opcode_form.f a0 a1 a2 a3 a4 = some (r1, r2, r3, r4, r5, r6)) :
  Calls Tryd.prog 54 #[.int .i64 a0, .int .i64 a1, .int .i64 a2, .int .i64 a3, .int .i64 a4] w fun e w' => e = .returned (.agg #[.int .i64 r1, .int .i64 r2, .int .i64 r3, .int .i64 r4, .int .i64 r5, .int .i64 r6]) ∧ Below w.heap.size w w' := by
 have hu46 := Tryd.underlying46
 have HB := Aside0.mk (Below.refl w.heap.size w)
 have H : (some (a0, a1, a2, a3, a4, a4)) = some (r1, r2, r3, r4, r5, r6) := h
 clear h
 simp only [Option.some.injEq, Prod.mk.injEq] at H
 obtain ⟨rfl, rfl, rfl, rfl, rfl, rfl⟩ := H
 go_enter Tryd.func54, Tryd.ntmps54
 go_wp2_with (first | ((with_reducible refine gate_dst (N := 10) rfl ?_); refine box_event ?hg (N := 10) ?hd (cs := #[.int .i64 0, .int .i64 0, .int .i64 0, .int .i64 0, .int .i64 0, .int .i64 0]) (t := 46) ?hr ?_; (case hd => rfl); (case hg => rfl); (case hr => first | (go_simp; done) | (go_simp; rfl)); intro gb141 hg w6 hbox hb; have n0_ := Aside0.mk (below_step (by repeat (first | (with_reducible first | exact HB.out | apply below_alloc | apply pw_below_drewN | apply below_drew1) | exact HB.out)) hb); have n1_ := Aside0.mk (hbox); have n2_ := Aside0.mk ((by rw [hg]; exact (below_size (by repeat (first | (with_reducible first | exact HB.out | apply below_alloc | apply pw_below_drewN | apply below_drew1) | exact HB.out))) : w.heap.size ≤ gb141)); have n3_ := Aside0.mk ((by rw [hg]; exact (below_size (by repeat (first | (with_reducible first | exact HB.out | apply below_alloc | apply pw_below_drewN | apply below_drew1) | exact HB.out))) : w.heap.size ≤ gb141)); clear HB; have HB := n0_; have BK141 := n1_; have GW141 := n2_; have GE141 := n3_; clear n0_ n1_ n2_ n3_; clear hb hbox hg; obtain ⟨hcz7_0, hcz7_1, hcz7_2, hcz7_3, hcz7_4, hcz7_5, hfz7_0, hfz7_1, hfz7_2, hfz7_3, hfz7_4, hfz7_5⟩ := blk6 BK141.out))
 refine bodyPost_ret (results_cell_row rfl _ _ gb141 46 #[.int .i64 a0, .int .i64 a1, .int .i64 a2, .int .i64 a3, .int .i64 a4, .int .i64 a4] (0, 0) _ rfl (by (with_reducible repeat (first | refine blk_drewN ?_ _ | refine blk_drew ?_ | refine blk_alloc ?_ _)); refine blk_put (cs := #[.int .i64 a0, .int .i64 a1, .int .i64 a2, .int .i64 a3, .int .i64 a4, .int .i64 0]) ?_ 5 _ rfl; refine blk_put (cs := #[.int .i64 a0, .int .i64 a1, .int .i64 a2, .int .i64 a3, .int .i64 0, .int .i64 0]) ?_ 4 _ rfl; refine blk_put (cs := #[.int .i64 a0, .int .i64 a1, .int .i64 a2, .int .i64 0, .int .i64 0, .int .i64 0]) ?_ 3 _ rfl; refine blk_put (cs := #[.int .i64 a0, .int .i64 a1, .int .i64 0, .int .i64 0, .int .i64 0, .int .i64 0]) ?_ 2 _ rfl; refine blk_put (cs := #[.int .i64 a0, .int .i64 0, .int .i64 0, .int .i64 0, .int .i64 0, .int .i64 0]) ?_ 1 _ rfl; refine blk_put (cs := #[.int .i64 0, .int .i64 0, .int .i64 0, .int .i64 0, .int .i64 0, .int .i64 0]) ?_ 0 _ rfl; (with_reducible repeat (first | refine blk_drewN ?_ _ | refine blk_drew ?_ | refine blk_alloc ?_ _)); exact BK141.out) Tryd.underlying46 rfl (by kernel_rfl)) rfl ?_
 exact ⟨by first | rfl | (simp [errW_none, errW_some] <;> rfl) | (simp [*, errW_none, errW_some] <;> rfl), by repeat (first | (with_reducible first | exact HB.out | apply below_alloc | apply pw_below_drewN | apply below_drew1 | refine below_set ?_ GE141.out) | exact HB.out)⟩

end Go.Proofs.YtpjbfpheenamiaaDoor.PF
-- PRINTED by print.py (a twelfth state) out of the translation. Not trusted: Lean checks it.
namespace Go.Proofs.YtpjbfpheenamiaaDoor.PF
open Go.RowKit Go.Proofs.YtpjbfpheenamiaaDoorW.PrintWords Go.Proofs.YtpjbfpheenamiaaDoorW.PrintLast Go.Proofs.YtpjbfpheenamiaaDoorW.PrintMore
attribute [local go_sem] max2_int min2_int max_two min_two max_three min_three max_four min_four   -- for this text's walks alone
set_option linter.unusedVariables false
set_option linter.unusedSimpArgs false

/-! ### opcode_if6: function 55 -/
def opcode_if6.f (a0 : Int) (a1 : Int) (a2 : Int) : Option (Int) := if a0 = 6 then (some a1) else (some a2)
set_option maxHeartbeats 8000000 in
set_option maxRecDepth 100000 in
theorem opcode_if6.calls (a0 : Int) (a1 : Int) (a2 : Int) (r : Int) (w : World) (h : opcode_if6.f a0 a1 a2 = some r) :
  Calls Tryd.prog 55 #[.int .i64 a0, .int .i64 a1, .int .i64 a2] w fun e w' => e = .returned (.int .i64 r) ∧ Drawn0 w w' := by
 have H : (if a0 = 6 then (some a1) else (some a2)) = some r := h
 clear h
 by_cases c4 : a0 = 6
 ·rw [if_pos c4] at H
  have c4b0 : (a0 == 6) = true := beq_iff_eq.mpr c4
  have c4b1 : (a0 != 6) = false := bne_eq_false_iff_eq.mpr c4
  clear c4
  obtain rfl := Option.some.inj H
  go_enter Tryd.func55, Tryd.ntmps55
  go_wp2
  go_ret
  exact ⟨by first | rfl | (simp; done) | (simp [*]; done), by repeat (first | exact Drawn0.refl _ | apply Drawn0.step)⟩
 ·rw [if_neg c4] at H
  have c4b0 : (a0 == 6) = false := beq_eq_false_iff_ne.mpr c4
  have c4b1 : (a0 != 6) = true := bne_iff_ne.mpr c4
  obtain rfl := Option.some.inj H
  go_enter Tryd.func55, Tryd.ntmps55
  go_wp2
  go_ret
  exact ⟨by first | rfl | (simp; done) | (simp [*]; done), by repeat (first | exact Drawn0.refl _ | apply Drawn0.step)⟩

end Go.Proofs.YtpjbfpheenamiaaDoor.PF
/- opcode.form, opcode.on and the closure of opcode.mixed, each with the very world that it leaves. No condition. -/
namespace Go.Proofs.YtpjbfpheenamiaaDoor.PF
open Go.RowKit Go.Proofs.YtpjbfpheenamiaaDoorW.PrintWords
set_option linter.unusedVariables false
set_option linter.unusedSimpArgs false
set_option maxHeartbeats 1000000 in
theorem form_exact (a b c d e : Int) (w : World) : Calls Tryd.prog 54 #[.int .i64 a, .int .i64 b, .int .i64 c, .int .i64 d, .int .i64 e] w fun x w' => x = .returned (.agg #[.int .i64 a, .int .i64 b, .int .i64 c, .int .i64 d, .int .i64 e, .int .i64 e]) ∧ w.alloc (.cells #[.int .i64 a, .int .i64 b, .int .i64 c, .int .i64 d, .int .i64 e, .int .i64 e] 46) = w' := by
  go_enter Tryd.func54, Tryd.ntmps54
  go_wp2
  exact bodyPost_ret (v := .agg #[.int .i64 a, .int .i64 b, .int .i64 c, .int .i64 d, .int .i64 e, .int .i64 e]) (by simp [results, Tryd.results54, go_sem]) rfl ⟨rfl, rfl⟩
set_option maxHeartbeats 1000000 in
theorem on_exact (a b c d e : Int) (w : World) : Calls Tryd.prog 74 #[.int .i64 a, .int .i64 b, .int .i64 c, .int .i64 d, .int .i64 e] w fun x w' => x = .returned (.agg #[.int .i64 a, .int .i64 b, .int .i64 0, .int .i64 c, .int .i64 d, .int .i64 e]) ∧ w.alloc (.cells #[.int .i64 a, .int .i64 b, .int .i64 0, .int .i64 c, .int .i64 d, .int .i64 e] 46) = w' := by
  go_enter Tryd.func74, Tryd.ntmps74
  go_wp2
  exact bodyPost_ret (v := .agg #[.int .i64 a, .int .i64 b, .int .i64 0, .int .i64 c, .int .i64 d, .int .i64 e]) (by simp [results, Tryd.results74, go_sem]) rfl ⟨rfl, rfl⟩
theorem if6_six (b a : Int) (w : World) : Calls Tryd.prog 55 #[.int .i64 6, .int .i64 b, .int .i64 a] w fun x w' => x = .returned (.int .i64 b) ∧ w = w' := by
  go_enter Tryd.func55, Tryd.ntmps55
  go_wp2
  go_ret
  exact ⟨rfl, rfl⟩
theorem if6_other (n b a : Int) (w : World) (h : (n == 6) = false) : Calls Tryd.prog 55 #[.int .i64 n, .int .i64 b, .int .i64 a] w fun x w' => x = .returned (.int .i64 a) ∧ w = w' := by
  go_enter Tryd.func55, Tryd.ntmps55
  go_wp2
  go_ret
  exact ⟨rfl, rfl⟩
theorem stack_three (w : World) : Calls Tryd.prog 75 #[.int .i64 3] w fun x w' => x = .returned (.int .i64 4) ∧ w = w' := by
  go_enter Tryd.func75, Tryd.ntmps75
  go_wp2
  go_ret
  exact ⟨rfl, rfl⟩
theorem stack_other (p : Int) (w : World) (h : (p == 3) = false) : Calls Tryd.prog 75 #[.int .i64 p] w fun x w' => x = .returned (.int .i64 p) ∧ w = w' := by
  go_enter Tryd.func75, Tryd.ntmps75
  go_wp2
  go_ret
  exact ⟨rfl, rfl⟩
set_option maxHeartbeats 1000000 in
theorem pick_even (a b c d p : Int) (q1 q2 : Nat) (w : World) (h1 : w.cell? ⟨q1, 0, none⟩ = some (.bool false)) (h2 : w.cell? ⟨q2, 0, none⟩ = some (.int .i64 p)) (l1 : q1 < w.heap.size) (l2 : q2 < w.heap.size) :
    Calls Tryd.prog 73 #[.int .i64 a, .int .i64 b, .int .i64 c, .int .i64 d, .pointer (some ⟨q1, 0, none⟩), .pointer (some ⟨q2, 0, none⟩)] w fun x w' => x = .returned (.agg #[.int .i64 a, .int .i64 p, .int .i64 0, .int .i64 c, .int .i64 d, .int .i64 d]) ∧
      (w.alloc (.cells #[.int .i64 a, .int .i64 p, .int .i64 0, .int .i64 c, .int .i64 d, .int .i64 d] 46)).alloc (.cells #[.int .i64 a, .int .i64 p, .int .i64 0, .int .i64 c, .int .i64 d, .int .i64 d] 46) = w' := by
  go_enter Tryd.func73, Tryd.ntmps73
  go_wp2_with (go_at_call 54; refine (form_exact _ _ _ _ _ _).mono ?_; rintro e w' ⟨rfl, rfl⟩)
  exact bodyPost_ret (v := .agg #[.int .i64 a, .int .i64 p, .int .i64 0, .int .i64 c, .int .i64 d, .int .i64 d]) (by simp [results, Tryd.results73, go_sem]) rfl ⟨rfl, rfl⟩
set_option maxHeartbeats 1000000 in
theorem pick_odd (a b c d p : Int) (q1 q2 : Nat) (w : World) (h1 : w.cell? ⟨q1, 0, none⟩ = some (.bool true)) (h2 : w.cell? ⟨q2, 0, none⟩ = some (.int .i64 p)) (l1 : q1 < w.heap.size) (l2 : q2 < w.heap.size) :
    Calls Tryd.prog 73 #[.int .i64 a, .int .i64 b, .int .i64 c, .int .i64 d, .pointer (some ⟨q1, 0, none⟩), .pointer (some ⟨q2, 0, none⟩)] w fun x w' => x = .returned (.agg #[.int .i64 b, .int .i64 p, .int .i64 0, .int .i64 1, .int .i64 2, .int .i64 2]) ∧
      (w.alloc (.cells #[.int .i64 b, .int .i64 p, .int .i64 0, .int .i64 1, .int .i64 2, .int .i64 2] 46)).alloc (.cells #[.int .i64 b, .int .i64 p, .int .i64 0, .int .i64 1, .int .i64 2, .int .i64 2] 46) = w' := by
  go_enter Tryd.func73, Tryd.ntmps73
  go_wp2_with (go_at_call 54; refine (form_exact _ _ _ _ _ _).mono ?_; rintro e w' ⟨rfl, rfl⟩)
  exact bodyPost_ret (v := .agg #[.int .i64 b, .int .i64 p, .int .i64 0, .int .i64 1, .int .i64 2, .int .i64 2]) (by simp [results, Tryd.results73, go_sem]) rfl ⟨rfl, rfl⟩
end Go.Proofs.YtpjbfpheenamiaaDoor.PF
/- The walks of opcode.mixed at given numbers: each answers its form. No condition. -/
namespace Go.Proofs.YtpjbfpheenamiaaDoor.PF
open Go.RowKit Go.Proofs.YtpjbfpheenamiaaDoorW.PrintWords
set_option linter.unusedVariables false
set_option linter.unusedSimpArgs false
set_option maxRecDepth 100000
set_option maxHeartbeats 4000000
def MixedIs (y z : Int) (w : World) (r1 r2 r3 r4 r5 r6 : Int) : Prop := Calls Tryd.prog 53 #[.int .i64 y, .int .i64 z] w fun e w' => e = .returned (.agg #[.int .i64 r1, .int .i64 r2, .int .i64 r3, .int .i64 r4, .int .i64 r5, .int .i64 r6]) ∧ Below w.heap.size w w'
theorem mixed_row0 (w : World) : MixedIs 0 0 w 0 0 0 1 1 1 ∧ MixedIs 0 1 w 17 0 0 3 3 3 ∧ MixedIs 0 2 w 10 0 0 1 2 2 ∧ MixedIs 0 3 w 27 0 0 1 2 2 ∧ MixedIs 0 4 w 25 0 0 1 1 1 ∧ MixedIs 0 5 w 26 0 0 1 1 1 ∧ MixedIs 0 6 w 8 0 0 2 2 2 ∧ MixedIs 0 7 w 31 0 0 1 1 1 := by
  have hi0 : ∀ w, (Instr.index 88 (.agg #[.int .i64 0, .int .i64 0, .int .i64 0, .int .i64 1, .int .i64 1, .int .i64 1, .int .i64 18, .int .i64 0, .int .i64 0, .int .i64 3, .int .i64 5, .int .i64 5, .int .i64 1, .int .i64 0, .int .i64 0, .int .i64 2, .int .i64 2, .int .i64 2, .int .i64 36, .int .i64 4, .int .i64 0, .int .i64 2, .int .i64 3, .int .i64 3]) (.int .i64 0)).run Tryd.prog w = .ok (.agg #[.int .i64 0, .int .i64 0, .int .i64 0, .int .i64 1, .int .i64 1, .int .i64 1]) w := fun w => by kernel_rfl
  refine ⟨?_, ?_, ?_, ?_, ?_, ?_, ?_, ?_⟩
  all_goals
    unfold MixedIs
    go_enter Tryd.func53, Tryd.ntmps53
    go_wp2_with (first | (go_at_call 54; refine (form_exact _ _ _ _ _ _).mono ?_; rintro e w' ⟨rfl, rfl⟩) | (go_at_call 74; refine (on_exact _ _ _ _ _ _).mono ?_; rintro e w' ⟨rfl, rfl⟩) | (go_at_call 73; refine (pick_even _ _ _ _ 0 _ _ _ ?h1 ?h2 ?h3 ?h4).mono ?_; (case h1 => rw [World.cell?_alloc_at _ _ _ _ (by simp)]; rfl); (case h2 => rw [World.cell?_alloc_past _ _ _ (by simp), World.cell?_alloc_at _ _ _ _ (by simp)]; rfl); (case h3 => simp); (case h4 => simp); rintro e w' ⟨rfl, rfl⟩) | (go_at_call 55; refine (if6_other 0 _ _ _ (by decide)).mono ?_; rintro e w' ⟨rfl, rfl⟩))
    (try simp only [Exit.inBlock, Exit.then])
    refine bodyPost_ret ?_ rfl ⟨rfl, ?_⟩
    · simp [results, Tryd.results53, go_sem]
    · repeat (first | exact Below.refl _ _ | refine below_alloc ?_ _ | refine pw_below_drewN ?_ _ | refine below_drew ?_)
theorem mixed_row1 (w : World) : MixedIs 1 0 w 18 0 0 3 5 5 ∧ MixedIs 1 1 w 29 0 0 1 2 2 ∧ MixedIs 1 2 w 9 0 0 1 2 2 ∧ MixedIs 1 3 w 28 0 0 1 2 2 ∧ MixedIs 1 4 w 25 1 0 1 1 1 ∧ MixedIs 1 5 w 26 1 0 1 1 1 ∧ MixedIs 1 6 w 8 1 0 2 2 2 ∧ MixedIs 1 7 w 31 1 0 1 1 1 := by
  have hi0 : ∀ w, (Instr.index 88 (.agg #[.int .i64 0, .int .i64 0, .int .i64 0, .int .i64 1, .int .i64 1, .int .i64 1, .int .i64 18, .int .i64 0, .int .i64 0, .int .i64 3, .int .i64 5, .int .i64 5, .int .i64 1, .int .i64 0, .int .i64 0, .int .i64 2, .int .i64 2, .int .i64 2, .int .i64 36, .int .i64 4, .int .i64 0, .int .i64 2, .int .i64 3, .int .i64 3]) (.int .i64 1)).run Tryd.prog w = .ok (.agg #[.int .i64 18, .int .i64 0, .int .i64 0, .int .i64 3, .int .i64 5, .int .i64 5]) w := fun w => by kernel_rfl
  refine ⟨?_, ?_, ?_, ?_, ?_, ?_, ?_, ?_⟩
  all_goals
    unfold MixedIs
    go_enter Tryd.func53, Tryd.ntmps53
    go_wp2_with (first | (go_at_call 54; refine (form_exact _ _ _ _ _ _).mono ?_; rintro e w' ⟨rfl, rfl⟩) | (go_at_call 74; refine (on_exact _ _ _ _ _ _).mono ?_; rintro e w' ⟨rfl, rfl⟩) | (go_at_call 73; refine (pick_odd _ _ _ _ 0 _ _ _ ?h1 ?h2 ?h3 ?h4).mono ?_; (case h1 => rw [World.cell?_alloc_at _ _ _ _ (by simp)]; rfl); (case h2 => rw [World.cell?_alloc_past _ _ _ (by simp), World.cell?_alloc_at _ _ _ _ (by simp)]; rfl); (case h3 => simp); (case h4 => simp); rintro e w' ⟨rfl, rfl⟩) | (go_at_call 55; refine (if6_other 1 _ _ _ (by decide)).mono ?_; rintro e w' ⟨rfl, rfl⟩))
    (try simp only [Exit.inBlock, Exit.then])
    refine bodyPost_ret ?_ rfl ⟨rfl, ?_⟩
    · simp [results, Tryd.results53, go_sem]
    · repeat (first | exact Below.refl _ _ | refine below_alloc ?_ _ | refine pw_below_drewN ?_ _ | refine below_drew ?_)
theorem mixed_row2 (w : World) : MixedIs 2 0 w 1 0 0 2 2 2 ∧ MixedIs 2 1 w 17 1 0 3 3 3 ∧ MixedIs 2 2 w 10 1 0 1 2 2 ∧ MixedIs 2 3 w 27 1 0 1 2 2 ∧ MixedIs 2 4 w 25 2 0 1 1 1 ∧ MixedIs 2 5 w 26 2 0 1 1 1 ∧ MixedIs 2 6 w 8 2 0 2 2 2 ∧ MixedIs 2 7 w 31 2 0 1 1 1 := by
  have hi0 : ∀ w, (Instr.index 88 (.agg #[.int .i64 0, .int .i64 0, .int .i64 0, .int .i64 1, .int .i64 1, .int .i64 1, .int .i64 18, .int .i64 0, .int .i64 0, .int .i64 3, .int .i64 5, .int .i64 5, .int .i64 1, .int .i64 0, .int .i64 0, .int .i64 2, .int .i64 2, .int .i64 2, .int .i64 36, .int .i64 4, .int .i64 0, .int .i64 2, .int .i64 3, .int .i64 3]) (.int .i64 2)).run Tryd.prog w = .ok (.agg #[.int .i64 1, .int .i64 0, .int .i64 0, .int .i64 2, .int .i64 2, .int .i64 2]) w := fun w => by kernel_rfl
  refine ⟨?_, ?_, ?_, ?_, ?_, ?_, ?_, ?_⟩
  all_goals
    unfold MixedIs
    go_enter Tryd.func53, Tryd.ntmps53
    go_wp2_with (first | (go_at_call 54; refine (form_exact _ _ _ _ _ _).mono ?_; rintro e w' ⟨rfl, rfl⟩) | (go_at_call 74; refine (on_exact _ _ _ _ _ _).mono ?_; rintro e w' ⟨rfl, rfl⟩) | (go_at_call 73; refine (pick_even _ _ _ _ 1 _ _ _ ?h1 ?h2 ?h3 ?h4).mono ?_; (case h1 => rw [World.cell?_alloc_at _ _ _ _ (by simp)]; rfl); (case h2 => rw [World.cell?_alloc_past _ _ _ (by simp), World.cell?_alloc_at _ _ _ _ (by simp)]; rfl); (case h3 => simp); (case h4 => simp); rintro e w' ⟨rfl, rfl⟩) | (go_at_call 55; refine (if6_other 2 _ _ _ (by decide)).mono ?_; rintro e w' ⟨rfl, rfl⟩))
    (try simp only [Exit.inBlock, Exit.then])
    refine bodyPost_ret ?_ rfl ⟨rfl, ?_⟩
    · simp [results, Tryd.results53, go_sem]
    · repeat (first | exact Below.refl _ _ | refine below_alloc ?_ _ | refine pw_below_drewN ?_ _ | refine below_drew ?_)
theorem mixed_row3 (w : World) : MixedIs 3 0 w 36 4 0 2 3 3 ∧ MixedIs 3 1 w 29 1 0 1 2 2 ∧ MixedIs 3 2 w 9 1 0 1 2 2 ∧ MixedIs 3 3 w 28 1 0 1 2 2 ∧ MixedIs 3 4 w 25 3 0 1 1 1 ∧ MixedIs 3 5 w 26 3 0 1 1 1 ∧ MixedIs 3 6 w 8 3 0 2 2 2 ∧ MixedIs 3 7 w 31 3 0 1 1 1 := by
  have hi0 : ∀ w, (Instr.index 88 (.agg #[.int .i64 0, .int .i64 0, .int .i64 0, .int .i64 1, .int .i64 1, .int .i64 1, .int .i64 18, .int .i64 0, .int .i64 0, .int .i64 3, .int .i64 5, .int .i64 5, .int .i64 1, .int .i64 0, .int .i64 0, .int .i64 2, .int .i64 2, .int .i64 2, .int .i64 36, .int .i64 4, .int .i64 0, .int .i64 2, .int .i64 3, .int .i64 3]) (.int .i64 3)).run Tryd.prog w = .ok (.agg #[.int .i64 36, .int .i64 4, .int .i64 0, .int .i64 2, .int .i64 3, .int .i64 3]) w := fun w => by kernel_rfl
  refine ⟨?_, ?_, ?_, ?_, ?_, ?_, ?_, ?_⟩
  all_goals
    unfold MixedIs
    go_enter Tryd.func53, Tryd.ntmps53
    go_wp2_with (first | (go_at_call 54; refine (form_exact _ _ _ _ _ _).mono ?_; rintro e w' ⟨rfl, rfl⟩) | (go_at_call 74; refine (on_exact _ _ _ _ _ _).mono ?_; rintro e w' ⟨rfl, rfl⟩) | (go_at_call 73; refine (pick_odd _ _ _ _ 1 _ _ _ ?h1 ?h2 ?h3 ?h4).mono ?_; (case h1 => rw [World.cell?_alloc_at _ _ _ _ (by simp)]; rfl); (case h2 => rw [World.cell?_alloc_past _ _ _ (by simp), World.cell?_alloc_at _ _ _ _ (by simp)]; rfl); (case h3 => simp); (case h4 => simp); rintro e w' ⟨rfl, rfl⟩) | (go_at_call 55; refine (if6_other 3 _ _ _ (by decide)).mono ?_; rintro e w' ⟨rfl, rfl⟩))
    (try simp only [Exit.inBlock, Exit.then])
    refine bodyPost_ret ?_ rfl ⟨rfl, ?_⟩
    · simp [results, Tryd.results53, go_sem]
    · repeat (first | exact Below.refl _ _ | refine below_alloc ?_ _ | refine pw_below_drewN ?_ _ | refine below_drew ?_)
theorem mixed_row4 (w : World) : MixedIs 4 0 w 36 0 0 2 2 3 ∧ MixedIs 4 1 w 17 2 0 3 3 3 ∧ MixedIs 4 2 w 10 2 0 1 2 2 ∧ MixedIs 4 3 w 27 2 0 1 2 2 ∧ MixedIs 4 4 w 25 4 0 1 1 1 ∧ MixedIs 4 5 w 26 4 0 1 1 1 ∧ MixedIs 4 6 w 8 4 0 2 2 2 ∧ MixedIs 4 7 w 32 0 0 1 1 1 := by
  refine ⟨?_, ?_, ?_, ?_, ?_, ?_, ?_, ?_⟩
  all_goals
    unfold MixedIs
    go_enter Tryd.func53, Tryd.ntmps53
    go_wp2_with (first | (go_at_call 54; refine (form_exact _ _ _ _ _ _).mono ?_; rintro e w' ⟨rfl, rfl⟩) | (go_at_call 74; refine (on_exact _ _ _ _ _ _).mono ?_; rintro e w' ⟨rfl, rfl⟩) | (go_at_call 73; refine (pick_even _ _ _ _ 2 _ _ _ ?h1 ?h2 ?h3 ?h4).mono ?_; (case h1 => rw [World.cell?_alloc_at _ _ _ _ (by simp)]; rfl); (case h2 => rw [World.cell?_alloc_past _ _ _ (by simp), World.cell?_alloc_at _ _ _ _ (by simp)]; rfl); (case h3 => simp); (case h4 => simp); rintro e w' ⟨rfl, rfl⟩) | (go_at_call 55; refine (if6_other 4 _ _ _ (by decide)).mono ?_; rintro e w' ⟨rfl, rfl⟩))
    (try simp only [Exit.inBlock, Exit.then])
    refine bodyPost_ret ?_ rfl ⟨rfl, ?_⟩
    · simp [results, Tryd.results53, go_sem]
    · repeat (first | exact Below.refl _ _ | refine below_alloc ?_ _ | refine pw_below_drewN ?_ _ | refine below_drew ?_)
theorem mixed_row5 (w : World) : MixedIs 5 0 w 36 1 0 2 2 3 ∧ MixedIs 5 1 w 29 2 0 1 2 2 ∧ MixedIs 5 2 w 9 2 0 1 2 2 ∧ MixedIs 5 3 w 28 2 0 1 2 2 ∧ MixedIs 5 4 w 25 5 0 1 1 1 ∧ MixedIs 5 5 w 26 5 0 1 1 1 ∧ MixedIs 5 6 w 8 5 0 2 2 2 ∧ MixedIs 5 7 w 33 0 0 1 1 1 := by
  refine ⟨?_, ?_, ?_, ?_, ?_, ?_, ?_, ?_⟩
  all_goals
    unfold MixedIs
    go_enter Tryd.func53, Tryd.ntmps53
    go_wp2_with (first | (go_at_call 54; refine (form_exact _ _ _ _ _ _).mono ?_; rintro e w' ⟨rfl, rfl⟩) | (go_at_call 74; refine (on_exact _ _ _ _ _ _).mono ?_; rintro e w' ⟨rfl, rfl⟩) | (go_at_call 73; refine (pick_odd _ _ _ _ 2 _ _ _ ?h1 ?h2 ?h3 ?h4).mono ?_; (case h1 => rw [World.cell?_alloc_at _ _ _ _ (by simp)]; rfl); (case h2 => rw [World.cell?_alloc_past _ _ _ (by simp), World.cell?_alloc_at _ _ _ _ (by simp)]; rfl); (case h3 => simp); (case h4 => simp); rintro e w' ⟨rfl, rfl⟩) | (go_at_call 55; refine (if6_other 5 _ _ _ (by decide)).mono ?_; rintro e w' ⟨rfl, rfl⟩))
    (try simp only [Exit.inBlock, Exit.then])
    refine bodyPost_ret ?_ rfl ⟨rfl, ?_⟩
    · simp [results, Tryd.results53, go_sem]
    · repeat (first | exact Below.refl _ _ | refine below_alloc ?_ _ | refine pw_below_drewN ?_ _ | refine below_drew ?_)
theorem mixed_row6 (w : World) : MixedIs 6 0 w 36 2 0 2 2 3 ∧ MixedIs 6 1 w 17 3 0 3 3 3 ∧ MixedIs 6 2 w 10 3 0 1 2 2 ∧ MixedIs 6 3 w 27 3 0 1 2 2 ∧ MixedIs 6 4 w 25 6 0 1 3 3 ∧ MixedIs 6 5 w 26 6 0 1 3 3 ∧ MixedIs 6 6 w 8 6 0 2 3 3 ∧ MixedIs 6 7 w 34 0 0 1 1 1 := by
  refine ⟨?_, ?_, ?_, ?_, ?_, ?_, ?_, ?_⟩
  all_goals
    unfold MixedIs
    go_enter Tryd.func53, Tryd.ntmps53
    go_wp2_with (first | (go_at_call 54; refine (form_exact _ _ _ _ _ _).mono ?_; rintro e w' ⟨rfl, rfl⟩) | (go_at_call 74; refine (on_exact _ _ _ _ _ _).mono ?_; rintro e w' ⟨rfl, rfl⟩) | (go_at_call 73; refine (pick_even _ _ _ _ 3 _ _ _ ?h1 ?h2 ?h3 ?h4).mono ?_; (case h1 => rw [World.cell?_alloc_at _ _ _ _ (by simp)]; rfl); (case h2 => rw [World.cell?_alloc_past _ _ _ (by simp), World.cell?_alloc_at _ _ _ _ (by simp)]; rfl); (case h3 => simp); (case h4 => simp); rintro e w' ⟨rfl, rfl⟩) | (go_at_call 55; refine (if6_six _ _ _).mono ?_; rintro e w' ⟨rfl, rfl⟩))
    (try simp only [Exit.inBlock, Exit.then])
    refine bodyPost_ret ?_ rfl ⟨rfl, ?_⟩
    · simp [results, Tryd.results53, go_sem]
    · repeat (first | exact Below.refl _ _ | refine below_alloc ?_ _ | refine pw_below_drewN ?_ _ | refine below_drew ?_)
theorem mixed_row7 (w : World) : MixedIs 7 0 w 36 3 0 2 2 3 ∧ MixedIs 7 1 w 29 3 0 1 2 2 ∧ MixedIs 7 2 w 9 3 0 1 2 2 ∧ MixedIs 7 3 w 28 3 0 1 2 2 ∧ MixedIs 7 4 w 25 7 0 1 1 1 ∧ MixedIs 7 5 w 26 7 0 1 1 1 ∧ MixedIs 7 6 w 8 7 0 2 2 2 ∧ MixedIs 7 7 w 35 0 0 1 1 1 := by
  refine ⟨?_, ?_, ?_, ?_, ?_, ?_, ?_, ?_⟩
  all_goals
    unfold MixedIs
    go_enter Tryd.func53, Tryd.ntmps53
    go_wp2_with (first | (go_at_call 54; refine (form_exact _ _ _ _ _ _).mono ?_; rintro e w' ⟨rfl, rfl⟩) | (go_at_call 74; refine (on_exact _ _ _ _ _ _).mono ?_; rintro e w' ⟨rfl, rfl⟩) | (go_at_call 73; refine (pick_odd _ _ _ _ 3 _ _ _ ?h1 ?h2 ?h3 ?h4).mono ?_; (case h1 => rw [World.cell?_alloc_at _ _ _ _ (by simp)]; rfl); (case h2 => rw [World.cell?_alloc_past _ _ _ (by simp), World.cell?_alloc_at _ _ _ _ (by simp)]; rfl); (case h3 => simp); (case h4 => simp); rintro e w' ⟨rfl, rfl⟩) | (go_at_call 55; refine (if6_other 7 _ _ _ (by decide)).mono ?_; rintro e w' ⟨rfl, rfl⟩))
    (try simp only [Exit.inBlock, Exit.then])
    refine bodyPost_ret ?_ rfl ⟨rfl, ?_⟩
    · simp [results, Tryd.results53, go_sem]
    · repeat (first | exact Below.refl _ _ | refine below_alloc ?_ _ | refine pw_below_drewN ?_ _ | refine below_drew ?_)
end Go.Proofs.YtpjbfpheenamiaaDoor.PF
/- The walks of opcode.last at given numbers: each answers its form. No condition. -/
namespace Go.Proofs.YtpjbfpheenamiaaDoor.PF
open Go.RowKit Go.Proofs.YtpjbfpheenamiaaDoorW.PrintWords
set_option linter.unusedVariables false
set_option linter.unusedSimpArgs false
set_option maxRecDepth 100000
set_option maxHeartbeats 4000000
def LastIs (y z : Int) (w : World) (r1 r2 r3 r4 r5 r6 : Int) : Prop := Calls Tryd.prog 56 #[.int .i64 y, .int .i64 z] w fun e w' => e = .returned (.agg #[.int .i64 r1, .int .i64 r2, .int .i64 r3, .int .i64 r4, .int .i64 r5, .int .i64 r6]) ∧ Below w.heap.size w w'
theorem last_row0 (w : World) : LastIs 0 0 w 40 0 0 1 2 5 ∧ LastIs 0 1 w 22 0 0 1 3 3 ∧ LastIs 0 2 w 37 0 0 3 3 4 ∧ LastIs 0 4 w 39 0 0 3 3 6 ∧ LastIs 0 5 w 21 0 0 1 4 4 ∧ LastIs 0 6 w 24 0 0 2 2 2 ∧ LastIs 0 7 w 42 0 0 1 4 4 := by
  refine ⟨?_, ?_, ?_, ?_, ?_, ?_, ?_⟩
  all_goals
    unfold LastIs
    go_enter Tryd.func56, Tryd.ntmps56
    go_wp2_with (first | (go_at_call 54; refine (form_exact _ _ _ _ _ _).mono ?_; rintro e w' ⟨rfl, rfl⟩) | (go_at_call 74; refine (on_exact _ _ _ _ _ _).mono ?_; rintro e w' ⟨rfl, rfl⟩) | (go_at_call 75; refine (stack_other 0 _ (by decide)).mono ?_; rintro e w' ⟨rfl, rfl⟩))
    (try simp only [Exit.inBlock, Exit.then])
    refine bodyPost_ret ?_ rfl ⟨rfl, ?_⟩
    · simp [results, Tryd.results56, go_sem]
    · repeat (first | exact Below.refl _ _ | refine below_alloc ?_ _ | refine pw_below_drewN ?_ _ | refine below_drew ?_)
theorem last_row1 (w : World) : LastIs 1 0 w 40 1 0 1 2 5 ∧ LastIs 1 1 w 40 4 0 1 4 4 ∧ LastIs 1 2 w 37 1 0 3 3 4 ∧ LastIs 1 4 w 39 1 0 3 3 6 ∧ LastIs 1 5 w 39 4 0 3 6 6 ∧ LastIs 1 6 w 24 1 0 2 2 2 ∧ LastIs 1 7 w 42 1 0 1 4 4 := by
  have hi1 : ∀ w, (Instr.index 88 (.agg #[.int .i64 40, .int .i64 4, .int .i64 0, .int .i64 1, .int .i64 4, .int .i64 4, .int .i64 41, .int .i64 0, .int .i64 0, .int .i64 1, .int .i64 4, .int .i64 4, .int .i64 38, .int .i64 0, .int .i64 0, .int .i64 1, .int .i64 1, .int .i64 1, .int .i64 19, .int .i64 0, .int .i64 0, .int .i64 1, .int .i64 2, .int .i64 2]) (.int .i64 0)).run Tryd.prog w = .ok (.agg #[.int .i64 40, .int .i64 4, .int .i64 0, .int .i64 1, .int .i64 4, .int .i64 4]) w := fun w => by kernel_rfl
  refine ⟨?_, ?_, ?_, ?_, ?_, ?_, ?_⟩
  all_goals
    unfold LastIs
    go_enter Tryd.func56, Tryd.ntmps56
    go_wp2_with (first | (go_at_call 54; refine (form_exact _ _ _ _ _ _).mono ?_; rintro e w' ⟨rfl, rfl⟩) | (go_at_call 74; refine (on_exact _ _ _ _ _ _).mono ?_; rintro e w' ⟨rfl, rfl⟩) | (go_at_call 75; refine (stack_other 0 _ (by decide)).mono ?_; rintro e w' ⟨rfl, rfl⟩))
    (try simp only [Exit.inBlock, Exit.then])
    refine bodyPost_ret ?_ rfl ⟨rfl, ?_⟩
    · simp [results, Tryd.results56, go_sem]
    · repeat (first | exact Below.refl _ _ | refine below_alloc ?_ _ | refine pw_below_drewN ?_ _ | refine below_drew ?_)
theorem last_row2 (w : World) : LastIs 2 0 w 40 2 0 1 2 5 ∧ LastIs 2 1 w 22 1 0 1 3 3 ∧ LastIs 2 2 w 37 2 0 3 3 4 ∧ LastIs 2 4 w 39 2 0 3 3 6 ∧ LastIs 2 5 w 21 1 0 1 4 4 ∧ LastIs 2 6 w 24 2 0 2 2 2 ∧ LastIs 2 7 w 42 2 0 1 4 4 := by
  refine ⟨?_, ?_, ?_, ?_, ?_, ?_, ?_⟩
  all_goals
    unfold LastIs
    go_enter Tryd.func56, Tryd.ntmps56
    go_wp2_with (first | (go_at_call 54; refine (form_exact _ _ _ _ _ _).mono ?_; rintro e w' ⟨rfl, rfl⟩) | (go_at_call 74; refine (on_exact _ _ _ _ _ _).mono ?_; rintro e w' ⟨rfl, rfl⟩) | (go_at_call 75; refine (stack_other 1 _ (by decide)).mono ?_; rintro e w' ⟨rfl, rfl⟩))
    (try simp only [Exit.inBlock, Exit.then])
    refine bodyPost_ret ?_ rfl ⟨rfl, ?_⟩
    · simp [results, Tryd.results56, go_sem]
    · repeat (first | exact Below.refl _ _ | refine below_alloc ?_ _ | refine pw_below_drewN ?_ _ | refine below_drew ?_)
theorem last_row3 (w : World) : LastIs 3 0 w 40 3 0 1 2 5 ∧ LastIs 3 1 w 41 0 0 1 4 4 ∧ LastIs 3 2 w 37 3 0 3 3 4 ∧ LastIs 3 4 w 39 3 0 3 3 6 ∧ LastIs 3 5 w 5 0 0 1 1 1 ∧ LastIs 3 6 w 24 3 0 2 2 2 ∧ LastIs 3 7 w 42 3 0 1 4 4 := by
  have hi1 : ∀ w, (Instr.index 88 (.agg #[.int .i64 40, .int .i64 4, .int .i64 0, .int .i64 1, .int .i64 4, .int .i64 4, .int .i64 41, .int .i64 0, .int .i64 0, .int .i64 1, .int .i64 4, .int .i64 4, .int .i64 38, .int .i64 0, .int .i64 0, .int .i64 1, .int .i64 1, .int .i64 1, .int .i64 19, .int .i64 0, .int .i64 0, .int .i64 1, .int .i64 2, .int .i64 2]) (.int .i64 1)).run Tryd.prog w = .ok (.agg #[.int .i64 41, .int .i64 0, .int .i64 0, .int .i64 1, .int .i64 4, .int .i64 4]) w := fun w => by kernel_rfl
  refine ⟨?_, ?_, ?_, ?_, ?_, ?_, ?_⟩
  all_goals
    unfold LastIs
    go_enter Tryd.func56, Tryd.ntmps56
    go_wp2_with (first | (go_at_call 54; refine (form_exact _ _ _ _ _ _).mono ?_; rintro e w' ⟨rfl, rfl⟩) | (go_at_call 74; refine (on_exact _ _ _ _ _ _).mono ?_; rintro e w' ⟨rfl, rfl⟩) | (go_at_call 75; refine (stack_other 1 _ (by decide)).mono ?_; rintro e w' ⟨rfl, rfl⟩))
    (try simp only [Exit.inBlock, Exit.then])
    refine bodyPost_ret ?_ rfl ⟨rfl, ?_⟩
    · simp [results, Tryd.results56, go_sem]
    · repeat (first | exact Below.refl _ _ | refine below_alloc ?_ _ | refine pw_below_drewN ?_ _ | refine below_drew ?_)
theorem last_row4 (w : World) : LastIs 4 0 w 12 0 0 2 3 3 ∧ LastIs 4 1 w 22 2 0 1 3 3 ∧ LastIs 4 2 w 14 0 0 1 2 2 ∧ LastIs 4 4 w 5 0 0 1 1 1 ∧ LastIs 4 5 w 21 2 0 1 4 4 ∧ LastIs 4 6 w 24 4 0 2 2 2 ∧ LastIs 4 7 w 42 4 0 1 4 4 := by
  have hi0 : ∀ w, (Instr.index 88 (.agg #[.int .i64 12, .int .i64 0, .int .i64 0, .int .i64 2, .int .i64 3, .int .i64 3, .int .i64 30, .int .i64 0, .int .i64 0, .int .i64 2, .int .i64 4, .int .i64 4, .int .i64 11, .int .i64 0, .int .i64 0, .int .i64 2, .int .i64 3, .int .i64 3, .int .i64 20, .int .i64 0, .int .i64 0, .int .i64 2, .int .i64 3, .int .i64 3]) (.int .i64 0)).run Tryd.prog w = .ok (.agg #[.int .i64 12, .int .i64 0, .int .i64 0, .int .i64 2, .int .i64 3, .int .i64 3]) w := fun w => by kernel_rfl
  have hi2 : ∀ w, (Instr.index 88 (.agg #[.int .i64 14, .int .i64 0, .int .i64 0, .int .i64 1, .int .i64 2, .int .i64 2, .int .i64 16, .int .i64 0, .int .i64 0, .int .i64 3, .int .i64 4, .int .i64 4, .int .i64 13, .int .i64 0, .int .i64 0, .int .i64 1, .int .i64 2, .int .i64 2, .int .i64 15, .int .i64 0, .int .i64 0, .int .i64 3, .int .i64 4, .int .i64 4]) (.int .i64 0)).run Tryd.prog w = .ok (.agg #[.int .i64 14, .int .i64 0, .int .i64 0, .int .i64 1, .int .i64 2, .int .i64 2]) w := fun w => by kernel_rfl
  refine ⟨?_, ?_, ?_, ?_, ?_, ?_, ?_⟩
  all_goals
    unfold LastIs
    go_enter Tryd.func56, Tryd.ntmps56
    go_wp2_with (first | (go_at_call 54; refine (form_exact _ _ _ _ _ _).mono ?_; rintro e w' ⟨rfl, rfl⟩) | (go_at_call 74; refine (on_exact _ _ _ _ _ _).mono ?_; rintro e w' ⟨rfl, rfl⟩) | (go_at_call 75; refine (stack_other 2 _ (by decide)).mono ?_; rintro e w' ⟨rfl, rfl⟩))
    (try simp only [Exit.inBlock, Exit.then])
    refine bodyPost_ret ?_ rfl ⟨rfl, ?_⟩
    · simp [results, Tryd.results56, go_sem]
    · repeat (first | exact Below.refl _ _ | refine below_alloc ?_ _ | refine pw_below_drewN ?_ _ | refine below_drew ?_)
theorem last_row5 (w : World) : LastIs 5 0 w 30 0 0 2 4 4 ∧ LastIs 5 1 w 38 0 0 1 1 1 ∧ LastIs 5 2 w 16 0 0 3 4 4 ∧ LastIs 5 4 w 5 0 0 1 1 1 ∧ LastIs 5 5 w 5 0 0 1 1 1 ∧ LastIs 5 6 w 24 5 0 2 2 2 ∧ LastIs 5 7 w 42 5 0 1 4 4 := by
  have hi0 : ∀ w, (Instr.index 88 (.agg #[.int .i64 12, .int .i64 0, .int .i64 0, .int .i64 2, .int .i64 3, .int .i64 3, .int .i64 30, .int .i64 0, .int .i64 0, .int .i64 2, .int .i64 4, .int .i64 4, .int .i64 11, .int .i64 0, .int .i64 0, .int .i64 2, .int .i64 3, .int .i64 3, .int .i64 20, .int .i64 0, .int .i64 0, .int .i64 2, .int .i64 3, .int .i64 3]) (.int .i64 1)).run Tryd.prog w = .ok (.agg #[.int .i64 30, .int .i64 0, .int .i64 0, .int .i64 2, .int .i64 4, .int .i64 4]) w := fun w => by kernel_rfl
  have hi1 : ∀ w, (Instr.index 88 (.agg #[.int .i64 40, .int .i64 4, .int .i64 0, .int .i64 1, .int .i64 4, .int .i64 4, .int .i64 41, .int .i64 0, .int .i64 0, .int .i64 1, .int .i64 4, .int .i64 4, .int .i64 38, .int .i64 0, .int .i64 0, .int .i64 1, .int .i64 1, .int .i64 1, .int .i64 19, .int .i64 0, .int .i64 0, .int .i64 1, .int .i64 2, .int .i64 2]) (.int .i64 2)).run Tryd.prog w = .ok (.agg #[.int .i64 38, .int .i64 0, .int .i64 0, .int .i64 1, .int .i64 1, .int .i64 1]) w := fun w => by kernel_rfl
  have hi2 : ∀ w, (Instr.index 88 (.agg #[.int .i64 14, .int .i64 0, .int .i64 0, .int .i64 1, .int .i64 2, .int .i64 2, .int .i64 16, .int .i64 0, .int .i64 0, .int .i64 3, .int .i64 4, .int .i64 4, .int .i64 13, .int .i64 0, .int .i64 0, .int .i64 1, .int .i64 2, .int .i64 2, .int .i64 15, .int .i64 0, .int .i64 0, .int .i64 3, .int .i64 4, .int .i64 4]) (.int .i64 1)).run Tryd.prog w = .ok (.agg #[.int .i64 16, .int .i64 0, .int .i64 0, .int .i64 3, .int .i64 4, .int .i64 4]) w := fun w => by kernel_rfl
  refine ⟨?_, ?_, ?_, ?_, ?_, ?_, ?_⟩
  all_goals
    unfold LastIs
    go_enter Tryd.func56, Tryd.ntmps56
    go_wp2_with (first | (go_at_call 54; refine (form_exact _ _ _ _ _ _).mono ?_; rintro e w' ⟨rfl, rfl⟩) | (go_at_call 74; refine (on_exact _ _ _ _ _ _).mono ?_; rintro e w' ⟨rfl, rfl⟩) | (go_at_call 75; refine (stack_other 2 _ (by decide)).mono ?_; rintro e w' ⟨rfl, rfl⟩))
    (try simp only [Exit.inBlock, Exit.then])
    refine bodyPost_ret ?_ rfl ⟨rfl, ?_⟩
    · simp [results, Tryd.results56, go_sem]
    · repeat (first | exact Below.refl _ _ | refine below_alloc ?_ _ | refine pw_below_drewN ?_ _ | refine below_drew ?_)
theorem last_row6 (w : World) : LastIs 6 0 w 11 0 0 2 3 3 ∧ LastIs 6 1 w 22 4 0 1 3 3 ∧ LastIs 6 2 w 13 0 0 1 2 2 ∧ LastIs 6 4 w 5 0 0 1 1 1 ∧ LastIs 6 5 w 21 4 0 1 4 4 ∧ LastIs 6 6 w 24 6 0 2 2 2 ∧ LastIs 6 7 w 42 6 0 1 4 4 := by
  have hi0 : ∀ w, (Instr.index 88 (.agg #[.int .i64 12, .int .i64 0, .int .i64 0, .int .i64 2, .int .i64 3, .int .i64 3, .int .i64 30, .int .i64 0, .int .i64 0, .int .i64 2, .int .i64 4, .int .i64 4, .int .i64 11, .int .i64 0, .int .i64 0, .int .i64 2, .int .i64 3, .int .i64 3, .int .i64 20, .int .i64 0, .int .i64 0, .int .i64 2, .int .i64 3, .int .i64 3]) (.int .i64 2)).run Tryd.prog w = .ok (.agg #[.int .i64 11, .int .i64 0, .int .i64 0, .int .i64 2, .int .i64 3, .int .i64 3]) w := fun w => by kernel_rfl
  have hi2 : ∀ w, (Instr.index 88 (.agg #[.int .i64 14, .int .i64 0, .int .i64 0, .int .i64 1, .int .i64 2, .int .i64 2, .int .i64 16, .int .i64 0, .int .i64 0, .int .i64 3, .int .i64 4, .int .i64 4, .int .i64 13, .int .i64 0, .int .i64 0, .int .i64 1, .int .i64 2, .int .i64 2, .int .i64 15, .int .i64 0, .int .i64 0, .int .i64 3, .int .i64 4, .int .i64 4]) (.int .i64 2)).run Tryd.prog w = .ok (.agg #[.int .i64 13, .int .i64 0, .int .i64 0, .int .i64 1, .int .i64 2, .int .i64 2]) w := fun w => by kernel_rfl
  refine ⟨?_, ?_, ?_, ?_, ?_, ?_, ?_⟩
  all_goals
    unfold LastIs
    go_enter Tryd.func56, Tryd.ntmps56
    go_wp2_with (first | (go_at_call 54; refine (form_exact _ _ _ _ _ _).mono ?_; rintro e w' ⟨rfl, rfl⟩) | (go_at_call 74; refine (on_exact _ _ _ _ _ _).mono ?_; rintro e w' ⟨rfl, rfl⟩) | (go_at_call 75; refine (stack_three _).mono ?_; rintro e w' ⟨rfl, rfl⟩))
    (try simp only [Exit.inBlock, Exit.then])
    refine bodyPost_ret ?_ rfl ⟨rfl, ?_⟩
    · simp [results, Tryd.results56, go_sem]
    · repeat (first | exact Below.refl _ _ | refine below_alloc ?_ _ | refine pw_below_drewN ?_ _ | refine below_drew ?_)
theorem last_row7 (w : World) : LastIs 7 0 w 20 0 0 2 3 3 ∧ LastIs 7 1 w 19 0 0 1 2 2 ∧ LastIs 7 2 w 15 0 0 3 4 4 ∧ LastIs 7 4 w 5 0 0 1 1 1 ∧ LastIs 7 5 w 5 0 0 1 1 1 ∧ LastIs 7 6 w 24 7 0 2 2 2 ∧ LastIs 7 7 w 42 7 0 1 4 4 := by
  have hi0 : ∀ w, (Instr.index 88 (.agg #[.int .i64 12, .int .i64 0, .int .i64 0, .int .i64 2, .int .i64 3, .int .i64 3, .int .i64 30, .int .i64 0, .int .i64 0, .int .i64 2, .int .i64 4, .int .i64 4, .int .i64 11, .int .i64 0, .int .i64 0, .int .i64 2, .int .i64 3, .int .i64 3, .int .i64 20, .int .i64 0, .int .i64 0, .int .i64 2, .int .i64 3, .int .i64 3]) (.int .i64 3)).run Tryd.prog w = .ok (.agg #[.int .i64 20, .int .i64 0, .int .i64 0, .int .i64 2, .int .i64 3, .int .i64 3]) w := fun w => by kernel_rfl
  have hi1 : ∀ w, (Instr.index 88 (.agg #[.int .i64 40, .int .i64 4, .int .i64 0, .int .i64 1, .int .i64 4, .int .i64 4, .int .i64 41, .int .i64 0, .int .i64 0, .int .i64 1, .int .i64 4, .int .i64 4, .int .i64 38, .int .i64 0, .int .i64 0, .int .i64 1, .int .i64 1, .int .i64 1, .int .i64 19, .int .i64 0, .int .i64 0, .int .i64 1, .int .i64 2, .int .i64 2]) (.int .i64 3)).run Tryd.prog w = .ok (.agg #[.int .i64 19, .int .i64 0, .int .i64 0, .int .i64 1, .int .i64 2, .int .i64 2]) w := fun w => by kernel_rfl
  have hi2 : ∀ w, (Instr.index 88 (.agg #[.int .i64 14, .int .i64 0, .int .i64 0, .int .i64 1, .int .i64 2, .int .i64 2, .int .i64 16, .int .i64 0, .int .i64 0, .int .i64 3, .int .i64 4, .int .i64 4, .int .i64 13, .int .i64 0, .int .i64 0, .int .i64 1, .int .i64 2, .int .i64 2, .int .i64 15, .int .i64 0, .int .i64 0, .int .i64 3, .int .i64 4, .int .i64 4]) (.int .i64 3)).run Tryd.prog w = .ok (.agg #[.int .i64 15, .int .i64 0, .int .i64 0, .int .i64 3, .int .i64 4, .int .i64 4]) w := fun w => by kernel_rfl
  refine ⟨?_, ?_, ?_, ?_, ?_, ?_, ?_⟩
  all_goals
    unfold LastIs
    go_enter Tryd.func56, Tryd.ntmps56
    go_wp2_with (first | (go_at_call 54; refine (form_exact _ _ _ _ _ _).mono ?_; rintro e w' ⟨rfl, rfl⟩) | (go_at_call 74; refine (on_exact _ _ _ _ _ _).mono ?_; rintro e w' ⟨rfl, rfl⟩) | (go_at_call 75; refine (stack_three _).mono ?_; rintro e w' ⟨rfl, rfl⟩))
    (try simp only [Exit.inBlock, Exit.then])
    refine bodyPost_ret ?_ rfl ⟨rfl, ?_⟩
    · simp [results, Tryd.results56, go_sem]
    · repeat (first | exact Below.refl _ _ | refine below_alloc ?_ _ | refine pw_below_drewN ?_ _ | refine below_drew ?_)
end Go.Proofs.YtpjbfpheenamiaaDoor.PF
