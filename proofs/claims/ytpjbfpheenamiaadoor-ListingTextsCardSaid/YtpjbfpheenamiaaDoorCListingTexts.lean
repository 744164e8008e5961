/- Texts of this claim, put together: PF3, GPureTexts. -/
import Derived.Test.YtpjbfpheenamiaaDoorB1
import Derived.Test.YtpjbfpheenamiaaDoorB28
import Derived.Test.YtpjbfpheenamiaaDoorB26
import Derived.Test.YtpjbfpheenamiaaDoorB25
import Derived.Test.YtpjbfpheenamiaaDoorB15
-- PRINTED by print.py (a twelfth state) out of the translation. Not trusted: Lean checks it.
namespace Go.Proofs.YtpjbfpheenamiaaDoor.PF
open Go.RowKit Go.Proofs.YtpjbfpheenamiaaDoorW.PrintWords Go.Proofs.YtpjbfpheenamiaaDoorW.PrintLast Go.Proofs.YtpjbfpheenamiaaDoorW.PrintMore
attribute [local go_sem] max2_int min2_int max_two min_two max_three min_three max_four min_four   -- for this text's walks alone
set_option linter.unusedVariables false
set_option linter.unusedSimpArgs false

/-! ### whirligiglaw06_ListingTexts: function 3 -/
def whirligiglaw06_ListingTexts.f (k : Nat) (a0 : Int) (a1 : Bool) (a2 : Int) : Option (Bool) := (whirligiglaw06_shown.f k).bind fun t348 => (if t348 = true then ((listing_Text.f k a0 a1 ((a2) % 256) ((a2 / 256) % 256)).bind fun t349 => ((whirligigref06_Text.f k a0 a1 ((a2) % 256) ((a2 / 256) % 256)).bind fun t350 => (some (t349.toList == t350.toList)))) else (some false))
theorem whirligiglaw06_ListingTexts.mono : ∀ a0 a1 a2 k, LeO (whirligiglaw06_ListingTexts.f k a0 a1 a2) (whirligiglaw06_ListingTexts.f (k + 1) a0 a1 a2) := by
 intro a0 a1 a2 k
 unfold whirligiglaw06_ListingTexts.f
 repeat' first
   | (with_reducible exact listing_Text.mono _ _ _ _ _)
   | (with_reducible exact whirligiglaw06_shown.mono _)
   | (with_reducible exact whirligigref06_Text.mono _ _ _ _ _)
   | (with_reducible exact LeO.refl _)
   | (with_reducible exact LeO.none _)
   | (with_reducible refine LeO.ite ?_ ?_)
   | (with_reducible refine LeO.bind ?_ (fun _ => ?_))
   | exact listing_Text.mono _ _ _ _ _
   | exact whirligiglaw06_shown.mono _
   | exact whirligigref06_Text.mono _ _ _ _ _
   | exact LeO.none _
   | refine LeO.ite ?_ ?_
   | refine LeO.bind ?_ (fun _ => ?_)
set_option maxHeartbeats 8000000 in
set_option maxRecDepth 100000 in
theorem whirligiglaw06_ListingTexts.calls (k : Nat) (a0 : Int) (a1 : Bool) (a2 : Int) (r : Bool) (w : World) (h : whirligiglaw06_ListingTexts.f k a0 a1 a2 = some r) :
  Calls Tryd.prog 3 #[.int .u8 a0, .bool a1, .int .u16 a2] w fun e w' => e = .returned (.bool r) ∧ Below w.heap.size w w' := by
 have HB := Aside0.mk (Below.refl w.heap.size w)
 have H : ((whirligiglaw06_shown.f k).bind fun t348 => (if t348 = true then ((listing_Text.f k a0 a1 ((a2) % 256) ((a2 / 256) % 256)).bind fun t349 => ((whirligigref06_Text.f k a0 a1 ((a2) % 256) ((a2 / 256) % 256)).bind fun t350 => (some (t349.toList == t350.toList)))) else (some false))) = some r := h
 clear h
 replace H := Option.bind_eq_some_iff.mp H
 obtain ⟨t348, A40, H⟩ := H
 replace H : (if t348 = true then ((listing_Text.f k a0 a1 ((a2) % 256) ((a2 / 256) % 256)).bind fun t349 => ((whirligigref06_Text.f k a0 a1 ((a2) % 256) ((a2 / 256) % 256)).bind fun t350 => (some (t349.toList == t350.toList)))) else (some false)) = some r := H
 have A4 := Aside0.mk A40
 clear A40
 by_cases c5 : t348 = true
 ·subst c5
  rw [if_pos rfl] at H
  replace H := Option.bind_eq_some_iff.mp H
  obtain ⟨t349, A60, H⟩ := H
  replace H : ((whirligigref06_Text.f k a0 a1 ((a2) % 256) ((a2 / 256) % 256)).bind fun t350 => (some (t349.toList == t350.toList))) = some r := H
  have A6 := Aside0.mk A60
  clear A60
  replace H := Option.bind_eq_some_iff.mp H
  obtain ⟨t350, A70, H⟩ := H
  replace H : (some (t349.toList == t350.toList)) = some r := H
  have A7 := Aside0.mk A70
  clear A70
  obtain rfl := Option.some.inj H
  go_enter Tryd.func3, Tryd.ntmps3
  go_wp2_with (first | ((with_reducible refine gate_callee (f := 10) rfl ?_); refine goesL_ (some 10) rfl rfl Tryd.func10 (by kernel_rfl) rfl #[] rfl (by (try simp only [List.map_toArray, List.map_cons, List.map_nil]); first | done | rfl | (simp only [List.length_drop, List.length_take]; rfl)) ?_; (with_reducible refine (whirligiglaw06_shown.calls k  true _ A4.out).mono ?_); rintro e w8 ⟨rfl, hb⟩; refine ⟨_, rfl, ?_⟩; have n0_ := Aside0.mk (below_step (by repeat (first | (with_reducible first | exact HB.out | apply below_alloc | apply pw_below_drewN | apply below_drew1) | exact HB.out)) hb); clear HB; have HB := n0_; clear n0_; (try clear hb)) | (go_at_call 11; (with_reducible refine (listing_Text.calls k a0 a1 ((a2) % 256) ((a2 / 256) % 256) t349 _ A6.out).mono ?_); rintro e w9 ⟨rfl, hb⟩; have n0_ := Aside0.mk (below_step (by repeat (first | (with_reducible first | exact HB.out | apply below_alloc | apply pw_below_drewN | apply below_drew1) | exact HB.out)) hb); clear HB; have HB := n0_; clear n0_; (try clear hb)) | (go_at_call 12; (with_reducible refine (whirligigref06_Text.calls k a0 a1 ((a2) % 256) ((a2 / 256) % 256) t350 _ A7.out).mono ?_); rintro e w10 ⟨rfl, hb⟩; have n0_ := Aside0.mk (below_step (by repeat (first | (with_reducible first | exact HB.out | apply below_alloc | apply pw_below_drewN | apply below_drew1) | exact HB.out)) hb); clear HB; have HB := n0_; clear n0_; (try clear hb)))
  go_ret
  exact ⟨by first | rfl | (simp [errW_none, errW_some] <;> rfl) | (simp [*, errW_none, errW_some] <;> rfl), by repeat (first | (with_reducible first | exact HB.out | apply below_alloc | apply pw_below_drewN | apply below_drew1) | exact HB.out)⟩
 ·replace c5 := Bool.eq_false_iff.mpr c5
  subst c5
  have H1 : (some false) = some r := by rw [if_neg (show ¬ (false = true) by decide)] at H; exact H
  clear H
  have H := H1
  clear H1
  obtain rfl := Option.some.inj H
  go_enter Tryd.func3, Tryd.ntmps3
  go_wp2_with (first | ((with_reducible refine gate_callee (f := 10) rfl ?_); refine goesL_ (some 10) rfl rfl Tryd.func10 (by kernel_rfl) rfl #[] rfl (by (try simp only [List.map_toArray, List.map_cons, List.map_nil]); first | done | rfl | (simp only [List.length_drop, List.length_take]; rfl)) ?_; (with_reducible refine (whirligiglaw06_shown.calls k  false _ A4.out).mono ?_); rintro e w11 ⟨rfl, hb⟩; refine ⟨_, rfl, ?_⟩; have n0_ := Aside0.mk (below_step (by repeat (first | (with_reducible first | exact HB.out | apply below_alloc | apply pw_below_drewN | apply below_drew1) | exact HB.out)) hb); clear HB; have HB := n0_; clear n0_; (try clear hb)))
  go_ret
  exact ⟨by first | rfl | (simp [errW_none, errW_some] <;> rfl) | (simp [*, errW_none, errW_some] <;> rfl), by repeat (first | (with_reducible first | exact HB.out | apply below_alloc | apply pw_below_drewN | apply below_drew1) | exact HB.out)⟩

/-- THE ONE PURE STATEMENT of whirligiglaw06_ListingTexts: yours. -/
def whirligiglaw06_ListingTexts.Pure : Prop := ∀ (a0 : Int) (a1 : Bool) (a2 : Int), (Lit.int .u8 a0).wf = true → (Lit.int .u16 a2).wf = true → ∃ k, whirligiglaw06_ListingTexts.f k a0 a1 a2 = some true
theorem whirligiglaw06_ListingTexts.walk (P : whirligiglaw06_ListingTexts.Pure) (a0 : Int) (a1 : Bool) (a2 : Int) (w : World) (w0 : (Lit.int .u8 a0).wf = true) (w2 : (Lit.int .u16 a2).wf = true) :
  Calls Tryd.prog 3 #[.int .u8 a0, .bool a1, .int .u16 a2] w fun e w' => e = .returned (.bool true) ∧ Below w.heap.size w w' := by
 obtain ⟨k, h⟩ := P a0 a1 a2 w0 w2
 refine (whirligiglaw06_ListingTexts.calls k a0 a1 a2 true w h).mono ?_
 rintro e w' ⟨rfl, hd⟩
 exact ⟨rfl, hd⟩

end Go.Proofs.YtpjbfpheenamiaaDoor.PF
/- The plain law of ListingTexts: for every opcode, prefixed or not, and every word; no condition. -/
namespace Go.Proofs.YtpjbfpheenamiaaDoor.PF
open Go.RowKit Go.Proofs.YtpjbfpheenamiaaDoorW.PrintWords
set_option linter.unusedVariables false
set_option maxRecDepth 100000 in
theorem shown_ok : whirligiglaw06_shown.f 100 = some true := by kernel_rfl
theorem u8_nat {x : Int} (h : (Lit.int .u8 x).wf = true) : ∃ n : Nat, n < 256 ∧ x = n := by
  simp [Lit.wf, IntKind.min, IntKind.max, IntKind.signed, IntKind.bits] at h
  exact ⟨x.toNat, by omega, by omega⟩
theorem op_of (x : Nat) (b : Bool) (h : x < 256) : ∃ op : Nat, op < 512 ∧ (x : Int) = (op : Int) % 256 ∧ b = decide (255 < (op : Int)) ∧ op = if b = true then x + 256 else x := by
  cases b with
  | false => exact ⟨x, by omega, by omega, by rw [decide_eq_false (by omega)], rfl⟩
  | true => exact ⟨x + 256, by omega, by omega, by rw [decide_eq_true (by omega)], rfl⟩
theorem text_prog_k {k : Nat} (hk : 9 ≤ k) (op lo hi : Nat) (h : op < 512) (hl : lo < 256) (hh : hi < 256) : listing_Text.f k ((op : Int) % 256) (decide (255 < (op : Int))) (lo : Int) (hi : Int) = some ⟨(lineL op lo hi).toArray⟩ :=
  at_rounds (g := fun k => listing_Text.f k ((op : Int) % 256) (decide (255 < (op : Int))) (lo : Int) (hi : Int)) (listing_Text.mono _ _ _ _) hk (text_prog op lo hi h hl hh)
theorem text_ref_k {k : Nat} (hk : 100 ≤ k) (op lo hi : Nat) (h : op < 512) (hl : lo < 256) (hh : hi < 256) : whirligigref06_Text.f k ((op : Int) % 256) (decide (255 < (op : Int))) (lo : Int) (hi : Int) = some ⟨(lineL op lo hi).toArray⟩ :=
  at_rounds (g := fun k => whirligigref06_Text.f k ((op : Int) % 256) (decide (255 < (op : Int))) (lo : Int) (hi : Int)) (whirligigref06_Text.mono _ _ _ _) hk (text_ref op lo hi h hl hh)
theorem listingTexts_pure : whirligiglaw06_ListingTexts.Pure := by
  intro a0 a1 a2 h0 h2
  obtain ⟨x, hx, rfl⟩ := u8_nat h0
  simp [Lit.wf, IntKind.min, IntKind.max, IntKind.signed, IntKind.bits] at h2
  obtain ⟨lo, hlo, elo⟩ : ∃ n : Nat, n < 256 ∧ a2 % 256 = n := ⟨(a2 % 256).toNat, by omega, by omega⟩
  obtain ⟨hi, hhi, ehi⟩ : ∃ n : Nat, n < 256 ∧ a2 / 256 % 256 = n := ⟨(a2 / 256 % 256).toNat, by omega, by omega⟩
  obtain ⟨op, hop, e1, e2, _⟩ := op_of x a1 hx
  refine ⟨100, ?_⟩
  unfold whirligiglaw06_ListingTexts.f
  rw [shown_ok, bind_some', if_pos rfl, elo, ehi, e1, e2, text_prog_k (by omega) op lo hi hop hlo hhi, bind_some', text_ref_k (by omega) op lo hi hop hlo hhi, bind_some', beq_self_eq_true]
end Go.Proofs.YtpjbfpheenamiaaDoor.PF
