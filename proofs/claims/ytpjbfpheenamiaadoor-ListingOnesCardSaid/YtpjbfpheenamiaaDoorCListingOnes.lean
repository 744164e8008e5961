/- Texts of this claim, put together: PF3, GPureTexts, PF14, PF4, GPureOnes. -/
import Derived.Test.YtpjbfpheenamiaaDoorB1
import Derived.Test.YtpjbfpheenamiaaDoorB28
import Derived.Test.YtpjbfpheenamiaaDoorB26
import Derived.Test.YtpjbfpheenamiaaDoorB25
import Derived.Test.YtpjbfpheenamiaaDoorB15
import Derived.Test.YtpjbfpheenamiaaDoorB21
import Derived.Test.YtpjbfpheenamiaaDoorB22
import Derived.Test.YtpjbfpheenamiaaDoorB27
-- PRINTED by print.py (a twelfth state) out of the translation. Not trusted: Lean checks it.
namespace Go.Proofs.YtpjbfpheenamiaaDoor.PF
open Go.RowKit Go.Proofs.YtpjbfpheenamiaaDoorW.PrintWords Go.Proofs.YtpjbfpheenamiaaDoorW.PrintLast Go.Proofs.YtpjbfpheenamiaaDoorW.PrintMore
attribute [local go_sem] max2_int min2_int max_two min_two max_three min_three max_four min_four   -- for this text's walks alone
set_option linter.unusedVariables false
set_option linter.unusedSimpArgs false

/-! ### whirligiglaw06_ListingTexts: function 3 -/
def whirligiglaw06_ListingTexts.f (k : Nat) (a0 : Int) (a1 : Bool) (a2 : Int) : Option (Bool) := (whirligiglaw06_shown.f k).bind fun t348 => (if t348 = true then ((listing_Text.f k a0 a1 ((a2) % 256) ((a2 / 256) % 256)).bind fun t349 => ((whirligigref06_Text.f k a0 a1 ((a2) % 256) ((a2 / 256) % 256)).bind fun t350 => (some (t349.toList == t350.toList)))) else (some false))
theorem whirligiglaw06_ListingTexts.mono : ∀ a0 a1 a2 k, LeO (whirligiglaw06_ListingTexts.f k a0 a1 a2) (whirligiglaw06_ListingTexts.f (k + 1) a0 a1 a2) := by
 intro a0 a1 a2 k
 unfold whirligiglaw06_ListingTexts.f
 repeat' first
   | (with_reducible exact listing_Text.mono _ _ _ _ _)
   | (with_reducible exact whirligiglaw06_shown.mono _)
   | (with_reducible exact whirligigref06_Text.mono _ _ _ _ _)
   | (with_reducible exact LeO.refl _)
   | (with_reducible exact LeO.none _)
   | (with_reducible refine LeO.ite ?_ ?_)
   | (with_reducible refine LeO.bind ?_ (fun _ => ?_))
   | exact listing_Text.mono _ _ _ _ _
   | exact whirligiglaw06_shown.mono _
   | exact whirligigref06_Text.mono _ _ _ _ _
   | exact LeO.none _
   | refine LeO.ite ?_ ?_
   | refine LeO.bind ?_ (fun _ => ?_)
set_option maxHeartbeats 8000000 in
set_option maxRecDepth 100000 in
theorem whirligiglaw06_ListingTexts.calls (k : Nat) (a0 : Int) (a1 : Bool) (a2 : Int) (r : Bool) (w : World) (h : whirligiglaw06_ListingTexts.f k a0 a1 a2 = some r) :
  Calls Tryd.prog 3 #[.int .u8 a0, .bool a1, .int .u16 a2] w fun e w' => e = .returned (.bool r) ∧ Below w.heap.size w w' := by
 have HB := Aside0.mk (Below.refl w.heap.size w)
 have H : ((whirligiglaw06_shown.f k).bind fun t348 => (if t348 = true then ((listing_Text.f k a0 a1 ((a2) % 256) ((a2 / 256) % 256)).bind fun t349 => ((whirligigref06_Text.f k a0 a1 ((a2) % 256) ((a2 / 256) % 256)).bind fun t350 => (some (t349.toList == t350.toList)))) else (some false))) = some r := h
 clear h
 replace H := Option.bind_eq_some_iff.mp H
 obtain ⟨t348, A40, H⟩ := H
 replace H : (if t348 = true then ((listing_Text.f k a0 a1 ((a2) % 256) ((a2 / 256) % 256)).bind fun t349 => ((whirligigref06_Text.f k a0 a1 ((a2) % 256) ((a2 / 256) % 256)).bind fun t350 => (some (t349.toList == t350.toList)))) else (some false)) = some r := H
 have A4 := Aside0.mk A40
 clear A40
 by_cases c5 : t348 = true
 ·subst c5
  rw [if_pos rfl] at H
  replace H := Option.bind_eq_some_iff.mp H
  obtain ⟨t349, A60, H⟩ := H
  replace H : ((whirligigref06_Text.f k a0 a1 ((a2) % 256) ((a2 / 256) % 256)).bind fun t350 => (some (t349.toList == t350.toList))) = some r := H
  have A6 := Aside0.mk A60
  clear A60
  replace H := Option.bind_eq_some_iff.mp H
  obtain ⟨t350, A70, H⟩ := H
  replace H : (some (t349.toList == t350.toList)) = some r := H
  have A7 := Aside0.mk A70
  clear A70
  obtain rfl := Option.some.inj H
  go_enter Tryd.func3, Tryd.ntmps3
  go_wp2_with (first | ((with_reducible refine gate_callee (f := 10) rfl ?_); refine goesL_ (some 10) rfl rfl Tryd.func10 (by kernel_rfl) rfl #[] rfl (by (try simp only [List.map_toArray, List.map_cons, List.map_nil]); first | done | rfl | (simp only [List.length_drop, List.length_take]; rfl)) ?_; (with_reducible refine (whirligiglaw06_shown.calls k  true _ A4.out).mono ?_); rintro e w8 ⟨rfl, hb⟩; refine ⟨_, rfl, ?_⟩; have n0_ := Aside0.mk (below_step (by repeat (first | (with_reducible first | exact HB.out | apply below_alloc | apply pw_below_drewN | apply below_drew1) | exact HB.out)) hb); clear HB; have HB := n0_; clear n0_; (try clear hb)) | (go_at_call 11; (with_reducible refine (listing_Text.calls k a0 a1 ((a2) % 256) ((a2 / 256) % 256) t349 _ A6.out).mono ?_); rintro e w9 ⟨rfl, hb⟩; have n0_ := Aside0.mk (below_step (by repeat (first | (with_reducible first | exact HB.out | apply below_alloc | apply pw_below_drewN | apply below_drew1) | exact HB.out)) hb); clear HB; have HB := n0_; clear n0_; (try clear hb)) | (go_at_call 12; (with_reducible refine (whirligigref06_Text.calls k a0 a1 ((a2) % 256) ((a2 / 256) % 256) t350 _ A7.out).mono ?_); rintro e w10 ⟨rfl, hb⟩; have n0_ := Aside0.mk (below_step (by repeat (first | (with_reducible first | exact HB.out | apply below_alloc | apply pw_below_drewN | apply below_drew1) | exact HB.out)) hb); clear HB; have HB := n0_; clear n0_; (try clear hb)))
  go_ret
  exact ⟨by first | rfl | (simp [errW_none, errW_some] <;> rfl) | (simp [*, errW_none, errW_some] <;> rfl), by repeat (first | (with_reducible first | exact HB.out | apply below_alloc | apply pw_below_drewN | apply below_drew1) | exact HB.out)⟩
 ·replace c5 := Bool.eq_false_iff.mpr c5
  subst c5
  have H1 : (some false) = some r := by rw [if_neg (show ¬ (false = true) by decide)] at H; exact H
  clear H
  have H := H1
  clear H1
  obtain rfl := Option.some.inj H
  go_enter Tryd.func3, Tryd.ntmps3
  go_wp2_with (first | ((with_reducible refine gate_callee (f := 10) rfl ?_); refine goesL_ (some 10) rfl rfl Tryd.func10 (by kernel_rfl) rfl #[] rfl (by (try simp only [List.map_toArray, List.map_cons, List.map_nil]); first | done | rfl | (simp only [List.length_drop, List.length_take]; rfl)) ?_; (with_reducible refine (whirligiglaw06_shown.calls k  false _ A4.out).mono ?_); rintro e w11 ⟨rfl, hb⟩; refine ⟨_, rfl, ?_⟩; have n0_ := Aside0.mk (below_step (by repeat (first | (with_reducible first | exact HB.out | apply below_alloc | apply pw_below_drewN | apply below_drew1) | exact HB.out)) hb); clear HB; have HB := n0_; clear n0_; (try clear hb)))
  go_ret
  exact ⟨by first | rfl | (simp [errW_none, errW_some] <;> rfl) | (simp [*, errW_none, errW_some] <;> rfl), by repeat (first | (with_reducible first | exact HB.out | apply below_alloc | apply pw_below_drewN | apply below_drew1) | exact HB.out)⟩

/-- THE ONE PURE STATEMENT of whirligiglaw06_ListingTexts: yours. -/
def whirligiglaw06_ListingTexts.Pure : Prop := ∀ (a0 : Int) (a1 : Bool) (a2 : Int), (Lit.int .u8 a0).wf = true → (Lit.int .u16 a2).wf = true → ∃ k, whirligiglaw06_ListingTexts.f k a0 a1 a2 = some true
theorem whirligiglaw06_ListingTexts.walk (P : whirligiglaw06_ListingTexts.Pure) (a0 : Int) (a1 : Bool) (a2 : Int) (w : World) (w0 : (Lit.int .u8 a0).wf = true) (w2 : (Lit.int .u16 a2).wf = true) :
  Calls Tryd.prog 3 #[.int .u8 a0, .bool a1, .int .u16 a2] w fun e w' => e = .returned (.bool true) ∧ Below w.heap.size w w' := by
 obtain ⟨k, h⟩ := P a0 a1 a2 w0 w2
 refine (whirligiglaw06_ListingTexts.calls k a0 a1 a2 true w h).mono ?_
 rintro e w' ⟨rfl, hd⟩
 exact ⟨rfl, hd⟩

end Go.Proofs.YtpjbfpheenamiaaDoor.PF
/- The plain law of ListingTexts: for every opcode, prefixed or not, and every word; no condition. -/
namespace Go.Proofs.YtpjbfpheenamiaaDoor.PF
open Go.RowKit Go.Proofs.YtpjbfpheenamiaaDoorW.PrintWords
set_option linter.unusedVariables false
set_option maxRecDepth 100000 in
theorem shown_ok : whirligiglaw06_shown.f 100 = some true := by kernel_rfl
theorem u8_nat {x : Int} (h : (Lit.int .u8 x).wf = true) : ∃ n : Nat, n < 256 ∧ x = n := by
  simp [Lit.wf, IntKind.min, IntKind.max, IntKind.signed, IntKind.bits] at h
  exact ⟨x.toNat, by omega, by omega⟩
theorem op_of (x : Nat) (b : Bool) (h : x < 256) : ∃ op : Nat, op < 512 ∧ (x : Int) = (op : Int) % 256 ∧ b = decide (255 < (op : Int)) ∧ op = if b = true then x + 256 else x := by
  cases b with
  | false => exact ⟨x, by omega, by omega, by rw [decide_eq_false (by omega)], rfl⟩
  | true => exact ⟨x + 256, by omega, by omega, by rw [decide_eq_true (by omega)], rfl⟩
theorem text_prog_k {k : Nat} (hk : 9 ≤ k) (op lo hi : Nat) (h : op < 512) (hl : lo < 256) (hh : hi < 256) : listing_Text.f k ((op : Int) % 256) (decide (255 < (op : Int))) (lo : Int) (hi : Int) = some ⟨(lineL op lo hi).toArray⟩ :=
  at_rounds (g := fun k => listing_Text.f k ((op : Int) % 256) (decide (255 < (op : Int))) (lo : Int) (hi : Int)) (listing_Text.mono _ _ _ _) hk (text_prog op lo hi h hl hh)
theorem text_ref_k {k : Nat} (hk : 100 ≤ k) (op lo hi : Nat) (h : op < 512) (hl : lo < 256) (hh : hi < 256) : whirligigref06_Text.f k ((op : Int) % 256) (decide (255 < (op : Int))) (lo : Int) (hi : Int) = some ⟨(lineL op lo hi).toArray⟩ :=
  at_rounds (g := fun k => whirligigref06_Text.f k ((op : Int) % 256) (decide (255 < (op : Int))) (lo : Int) (hi : Int)) (whirligigref06_Text.mono _ _ _ _) hk (text_ref op lo hi h hl hh)
theorem listingTexts_pure : whirligiglaw06_ListingTexts.Pure := by
  intro a0 a1 a2 h0 h2
  obtain ⟨x, hx, rfl⟩ := u8_nat h0
  simp [Lit.wf, IntKind.min, IntKind.max, IntKind.signed, IntKind.bits] at h2
  obtain ⟨lo, hlo, elo⟩ : ∃ n : Nat, n < 256 ∧ a2 % 256 = n := ⟨(a2 % 256).toNat, by omega, by omega⟩
  obtain ⟨hi, hhi, ehi⟩ : ∃ n : Nat, n < 256 ∧ a2 / 256 % 256 = n := ⟨(a2 / 256 % 256).toNat, by omega, by omega⟩
  obtain ⟨op, hop, e1, e2, _⟩ := op_of x a1 hx
  refine ⟨100, ?_⟩
  unfold whirligiglaw06_ListingTexts.f
  rw [shown_ok, bind_some', if_pos rfl, elo, ehi, e1, e2, text_prog_k (by omega) op lo hi hop hlo hhi, bind_some', text_ref_k (by omega) op lo hi hop hlo hhi, bind_some', beq_self_eq_true]
end Go.Proofs.YtpjbfpheenamiaaDoor.PF
-- PRINTED by print.py (a twelfth state) out of the translation. Not trusted: Lean checks it.
namespace Go.Proofs.YtpjbfpheenamiaaDoor.PF
open Go.RowKit Go.Proofs.YtpjbfpheenamiaaDoorW.PrintWords Go.Proofs.YtpjbfpheenamiaaDoorW.PrintLast Go.Proofs.YtpjbfpheenamiaaDoorW.PrintMore
attribute [local go_sem] max2_int min2_int max_two min_two max_three min_three max_four min_four   -- for this text's walks alone
set_option linter.unusedVariables false
set_option linter.unusedSimpArgs false

/-! ### whirligigref06_One: function 14 -/
mutual
def whirligigref06_One.j0 : Nat → List Int → Bool → Int → Int → Int → Int → Int → Int → Option (ByteArray × Int)
 | 0, _, _, _, _, _, _, _, _ => none
 | k + 1, x0, x19, x359000, x359001, x359002, x359003, x359004, x359005 => if x19 = true then (if 1 < (x0.length : Int) then ((whirligigref06_Text.f k (rd x0 1) true 0 0).bind fun t360 => (some (t360, 2))) else (none)) else (if (x0.length : Int) < x359003 then (whirligigref06_One.j1 k x0 true x359000 x359001 x359002 x359003 x359004 x359005) else (whirligigref06_One.j1 k x0 (x359000 == 6) x359000 x359001 x359002 x359003 x359004 x359005))
def whirligigref06_One.j1 : Nat → List Int → Bool → Int → Int → Int → Int → Int → Int → Option (ByteArray × Int)
 | 0, _, _, _, _, _, _, _, _ => none
 | k + 1, x0, x33, x359000, x359001, x359002, x359003, x359004, x359005 => if x33 = true then (if 0 < (x0.length : Int) then ((whirligigref01_Hex8.f (rd x0 0)).bind fun t362 => (if 4 + t362.size ≤ 9223372036854775807 then (some ((⟨#[68, 66, 32, 36]⟩ : ByteArray) ++ t362, 1)) else (none))) else (none)) else (if x359003 = 2 then (if 0 < (x0.length : Int) then (if 1 < (x0.length : Int) then ((whirligigref06_Text.f k (rd x0 0) false (rd x0 1) 0).bind fun t365 => (some (t365, 2))) else (none)) else (none)) else (if x359003 = 3 then (if 0 < (x0.length : Int) then (if 1 < (x0.length : Int) then (if 2 < (x0.length : Int) then ((whirligigref06_Text.f k (rd x0 0) false (rd x0 1) (rd x0 2)).bind fun t369 => (some (t369, 3))) else (none)) else (none)) else (none)) else (if 0 < (x0.length : Int) then ((whirligigref06_Text.f k (rd x0 0) false 0 0).bind fun t371 => (some (t371, 1))) else (none))))
end
def whirligigref06_One.f (k : Nat) (l0 : List Int) : Option (ByteArray × Int) := if (l0.length : Int) = 0 then (some ((⟨#[]⟩ : ByteArray), 0)) else (if 0 < (l0.length : Int) then ((whirligigref06_form.f k (rd l0 0) false).bind fun bt352 => (if bt352.1 = 6 then (whirligigref06_One.j0 k l0 (decide ((l0.length : Int) > 1)) bt352.1 bt352.2.1 bt352.2.2.1 bt352.2.2.2.1 bt352.2.2.2.2.1 bt352.2.2.2.2.2) else (whirligigref06_One.j0 k l0 false bt352.1 bt352.2.1 bt352.2.2.1 bt352.2.2.2.1 bt352.2.2.2.2.1 bt352.2.2.2.2.2))) else (none))
theorem whirligigref06_One.mono_l : ∀ k, (∀ y0 y1 y2 y3 y4 y5 y6 y7, LeO (whirligigref06_One.j0 k y0 y1 y2 y3 y4 y5 y6 y7) (whirligigref06_One.j0 (k + 1) y0 y1 y2 y3 y4 y5 y6 y7)) ∧ (∀ y0 y1 y2 y3 y4 y5 y6 y7, LeO (whirligigref06_One.j1 k y0 y1 y2 y3 y4 y5 y6 y7) (whirligigref06_One.j1 (k + 1) y0 y1 y2 y3 y4 y5 y6 y7))
 | 0 => ⟨fun _ _ _ _ _ _ _ _ r h => by simp [whirligigref06_One.j0] at h, fun _ _ _ _ _ _ _ _ r h => by simp [whirligigref06_One.j1] at h⟩
 | k + 1 => by
  obtain ⟨ih0, ih1⟩ := whirligigref06_One.mono_l k
  refine ⟨?_, ?_⟩
  ·intro y0 y1 y2 y3 y4 y5 y6 y7
   unfold whirligigref06_One.j0
   repeat' first
   | (with_reducible exact ih0 _ _ _ _ _ _ _ _)
   | (with_reducible exact ih1 _ _ _ _ _ _ _ _)
   | (with_reducible exact whirligigref06_Text.mono _ _ _ _ _)
   | (with_reducible exact whirligigref06_form.mono _ _ _)
   | (with_reducible exact LeO.refl _)
   | (with_reducible exact LeO.none _)
   | (with_reducible refine LeO.ite ?_ ?_)
   | (with_reducible refine LeO.bind ?_ (fun _ => ?_))
   | exact ih0 _ _ _ _ _ _ _ _
   | exact ih1 _ _ _ _ _ _ _ _
   | exact whirligigref06_Text.mono _ _ _ _ _
   | exact whirligigref06_form.mono _ _ _
   | exact LeO.none _
   | refine LeO.ite ?_ ?_
   | refine LeO.bind ?_ (fun _ => ?_)
  ·intro y0 y1 y2 y3 y4 y5 y6 y7
   unfold whirligigref06_One.j1
   repeat' first
   | (with_reducible exact ih0 _ _ _ _ _ _ _ _)
   | (with_reducible exact ih1 _ _ _ _ _ _ _ _)
   | (with_reducible exact whirligigref06_Text.mono _ _ _ _ _)
   | (with_reducible exact whirligigref06_form.mono _ _ _)
   | (with_reducible exact LeO.refl _)
   | (with_reducible exact LeO.none _)
   | (with_reducible refine LeO.ite ?_ ?_)
   | (with_reducible refine LeO.bind ?_ (fun _ => ?_))
   | exact ih0 _ _ _ _ _ _ _ _
   | exact ih1 _ _ _ _ _ _ _ _
   | exact whirligigref06_Text.mono _ _ _ _ _
   | exact whirligigref06_form.mono _ _ _
   | exact LeO.none _
   | refine LeO.ite ?_ ?_
   | refine LeO.bind ?_ (fun _ => ?_)
theorem whirligigref06_One.mono : ∀ a0 k, LeO (whirligigref06_One.f k a0) (whirligigref06_One.f (k + 1) a0) := by
 intro a0 k
 obtain ⟨ih0, ih1⟩ := whirligigref06_One.mono_l k
 unfold whirligigref06_One.f
 repeat' first
   | (with_reducible exact ih0 _ _ _ _ _ _ _ _)
   | (with_reducible exact ih1 _ _ _ _ _ _ _ _)
   | (with_reducible exact whirligigref06_Text.mono _ _ _ _ _)
   | (with_reducible exact whirligigref06_form.mono _ _ _)
   | (with_reducible exact LeO.refl _)
   | (with_reducible exact LeO.none _)
   | (with_reducible refine LeO.ite ?_ ?_)
   | (with_reducible refine LeO.bind ?_ (fun _ => ?_))
   | exact ih0 _ _ _ _ _ _ _ _
   | exact ih1 _ _ _ _ _ _ _ _
   | exact whirligigref06_Text.mono _ _ _ _ _
   | exact whirligigref06_form.mono _ _ _
   | exact LeO.none _
   | refine LeO.ite ?_ ?_
   | refine LeO.bind ?_ (fun _ => ?_)
def whirligigref06_One.T10 : Bool × List (List Nat × List Nat) := (true, [([], []), ([0], [0]), ([1], [1]), ([], []), ([3], [3]), ([4], [4]), ([2, 5], [2, 5]), ([6, 6, 0, 1, 2, 3, 4, 5, 6], [6]), ([7, 0, 1, 2, 3, 4, 5, 6, 7], [])])
def whirligigref06_One.B10 : List Nat := [0, 1, 3, 0, 8, 24, 63, 127, 255]
theorem whirligigref06_One.tab10 : rtab .any (opsOf Tryd.f14 10) = whirligigref06_One.T10 := by kernel_rfl
theorem whirligigref06_One.bits10 : waitsOk whirligigref06_One.T10.2 whirligigref06_One.B10 = true := by kernel_rfl
def whirligigref06_One.T12 : Bool × List (List Nat × List Nat) := (true, [([], []), ([0], [0]), ([1], [1]), ([], []), ([3], [3]), ([4], [4]), ([], []), ([6], [6]), ([7], [7]), ([2, 5, 8], [2, 5, 8]), ([9, 9, 0, 1, 2, 3, 4, 5, 6, 7, 8, 9], [9]), ([10, 0, 1, 2, 3, 4, 5, 6, 7, 8, 9, 10], [])])
def whirligigref06_One.B12 : List Nat := [0, 1, 3, 0, 8, 24, 0, 64, 192, 511, 1023, 2047]
theorem whirligigref06_One.tab12 : rtab .any (opsOf Tryd.f14 12) = whirligigref06_One.T12 := by kernel_rfl
theorem whirligigref06_One.bits12 : waitsOk whirligigref06_One.T12.2 whirligigref06_One.B12 = true := by kernel_rfl
set_option maxHeartbeats 8000000 in
set_option maxRecDepth 100000 in
theorem whirligigref06_One.calls (k : Nat) (A0 : Option Addr) (c0 : Nat) (l0 : List Int) (r1 : ByteArray) (r2 : Int) (w : World) (hr0 : Kd.C (Kd.int .u8) w A0 l0.length l0) (hc0 : l0.length ≤ c0) (h : whirligigref06_One.f k l0 = some (r1, r2)) :
  Calls Tryd.prog 14 #[.slice A0 l0.length c0] w fun e w' => e = .returned (.tuple #[.string r1, .int .i64 r2]) ∧ Below w.heap.size w w' := by
 have hu46 := Tryd.underlying46
 have HR0 := Aside0.mk hr0
 have HC0 := Aside0.mk hc0
 clear hr0 hc0
 have HB := Aside0.mk (Below.refl w.heap.size w)
 have H : (if (l0.length : Int) = 0 then (some ((⟨#[]⟩ : ByteArray), 0)) else (if 0 < (l0.length : Int) then ((whirligigref06_form.f k (rd l0 0) false).bind fun bt352 => (if bt352.1 = 6 then (whirligigref06_One.j0 k l0 (decide ((l0.length : Int) > 1)) bt352.1 bt352.2.1 bt352.2.2.1 bt352.2.2.2.1 bt352.2.2.2.2.1 bt352.2.2.2.2.2) else (whirligigref06_One.j0 k l0 false bt352.1 bt352.2.1 bt352.2.2.1 bt352.2.2.2.1 bt352.2.2.2.2.1 bt352.2.2.2.2.2))) else (none))) = some (r1, r2) := h
 clear h
 by_cases c2 : (l0.length : Int) = 0
 ·rw [if_pos c2] at H
  have c2b0 : ((l0.length : Int) == 0) = true := beq_iff_eq.mpr c2
  have c2b1 : ((l0.length : Int) != 0) = false := bne_eq_false_iff_eq.mpr c2
  clear c2
  simp only [Option.some.injEq, Prod.mk.injEq] at H
  obtain ⟨rfl, rfl⟩ := H
  go_enter Tryd.func14, Tryd.ntmps14
  go_wp2
  go_ret2
  exact ⟨by first | rfl | (simp [errW_none, errW_some] <;> rfl) | (simp [*, errW_none, errW_some] <;> rfl), by repeat (first | (with_reducible first | exact HB.out | apply below_alloc | apply pw_below_drewN | apply below_drew1) | exact HB.out)⟩
 ·rw [if_neg c2] at H
  have c2b0 : ((l0.length : Int) == 0) = false := beq_eq_false_iff_ne.mpr c2
  have c2b1 : ((l0.length : Int) != 0) = true := bne_iff_ne.mpr c2
  have c2b2 : ¬ (l0 = []) := fun h_ => c2 (by rw [h_]; rfl)
  by_cases c3 : 0 < (l0.length : Int)
  ·rw [if_pos c3] at H
   have c3b0 : decide (0 < (l0.length : Int)) = true := decide_eq_true c3
   have c3b1 : decide (0 < l0.length) = true := decide_eq_true (by omega)
   clear c3
   replace H := Option.bind_eq_some_iff.mp H
   obtain ⟨⟨t352, t353, t354, t355, t356, t357⟩, A40, H⟩ := H
   replace H : (if t352 = 6 then (whirligigref06_One.j0 k l0 (decide ((l0.length : Int) > 1)) t352 t353 t354 t355 t356 t357) else (whirligigref06_One.j0 k l0 false t352 t353 t354 t355 t356 t357)) = some (r1, r2) := H
   have A4 := Aside0.mk A40
   clear A40
   have HC5 := Aside0.mk H
   clear H
   have p351 : 0 ≤ (0 : Int) := (by omega)
   have q351 : 0 < (l0.length : Int) := of_decide_eq_true (by first | (with_reducible assumption) | assumption)
   obtain ⟨ad351, e351, hx351_0⟩ := Kd.at_int HR0.out 0 p351 q351
   cases e351
   have qi351 : (0 < l0.length) = True := eq_true (by omega)
   (try rw [show ((0 : Int)).toNat = 0 from rfl] at hx351_0)
   (try rw [Addr.add_zero'] at hx351_0)
   replace p351 := eq_true p351
   replace q351 := eq_true q351
   go_enter Tryd.func14, Tryd.ntmps14
   go_upto_region 4 with (first | ((with_reducible refine gate_callee (f := 27) rfl ?_); refine goesL_ (some 11) rfl rfl Tryd.func27 (by kernel_rfl) rfl #[.int .u8 (rd l0 0), .bool false] rfl (by (try simp only [List.map_toArray, List.map_cons, List.map_nil]); first | done | rfl | (simp only [List.length_drop, List.length_take]; rfl)) ?_; (with_reducible refine (whirligigref06_form.calls k (rd l0 0) false t352 t353 t354 t355 t356 t357 _ A4.out).mono ?_); rintro e w6 ⟨rfl, hb⟩; refine ⟨_, rfl, ?_⟩; have n0_ := Aside0.mk (below_step (by repeat (first | (with_reducible first | exact HB.out | apply below_alloc | apply pw_below_drewN | apply below_drew1) | exact HB.out)) hb); clear HB; have HB := n0_; clear n0_; (try clear hb)) | ((with_reducible refine gate_dst (N := 4) rfl ?_); (try (refine gate_guard (by rfl) ?_; dsimp only)); refine box_event ?hg (N := 4) ?hd (cs := #[.int .i64 0, .int .i64 0, .int .i64 0, .int .i64 0, .int .i64 0, .int .i64 0]) (t := 46) ?hr ?_; (case hd => rfl); (case hg => rfl); (case hr => first | (go_simp; done) | (go_simp; rfl)); intro gb358 hg w7 hbox hb; have n0_ := Aside0.mk (below_step (by repeat (first | (with_reducible first | exact HB.out | apply below_alloc | apply pw_below_drewN | apply below_drew1) | exact HB.out)) hb); have n1_ := Aside0.mk (hbox); have n2_ := Aside0.mk ((by rw [hg]; exact (below_size (by repeat (first | (with_reducible first | exact HB.out | apply below_alloc | apply pw_below_drewN | apply below_drew1) | exact HB.out))) : w.heap.size ≤ gb358)); have n3_ := Aside0.mk ((by rw [hg]; exact (below_size (by repeat (first | (with_reducible first | exact HB.out | apply below_alloc | apply pw_below_drewN | apply below_drew1) | exact HB.out))) : w.heap.size ≤ gb358)); clear HB; have HB := n0_; have BK358 := n1_; have GW358 := n2_; have GE358 := n3_; clear n0_ n1_ n2_ n3_; clear hb hbox hg; obtain ⟨hcz8_0, hcz8_1, hcz8_2, hcz8_3, hcz8_4, hcz8_5, hfz8_0, hfz8_1, hfz8_2, hfz8_3, hfz8_4, hfz8_5⟩ := blk6 BK358.out))
   (try simp only [Act.put, List.setIfInBounds_toArray, List.set_cons_zero, List.set_cons_succ])
   go_cut [19] (fun v19 wc => ∃ (kq : Nat) (x19_4 : Bool), v19 = .bool x19_4 ∧ Aside0 (whirligigref06_One.j0 kq l0 x19_4 t352 t353 t354 t355 t356 t357 = some (r1, r2)) ∧ Aside0 (kq ≤ k) ∧ Aside0 (wc.heap[gb358]? = some (.cells #[.int .i64 t352, .int .i64 t353, .int .i64 t354, .int .i64 t355, .int .i64 t356, .int .i64 t357] 46 (0, 0))) ∧ Aside0 (Below w.heap.size w wc))
   case first =>
    have H := HC5.out
    clear HC5
    by_cases c9 : t352 = 6
    ·rw [if_pos c9] at H
     have c9b0 : (t352 == 6) = true := beq_iff_eq.mpr c9
     have c9b1 : (t352 != 6) = false := bne_eq_false_iff_eq.mpr c9
     clear c9
     (first | rw [c9b0] | (simp only [i64_w, i32_w]; rw [c9b0]) | skip)
     have H' := Aside0.mk H
     clear H
     obtain ⟨hcz10_0, hcz10_1, hcz10_2, hcz10_3, hcz10_4, hcz10_5, hfz10_0, hfz10_1, hfz10_2, hfz10_3, hfz10_4, hfz10_5⟩ := blk6 BK358.out
     go_wp2
     go_meet
     case rel => exact ⟨_, (decide ((l0.length : Int) > 1)), (by first | rfl | (simp; done) | (simp [*]; done)), H', ⟨by first | omega | exact Nat.le_refl _⟩, ⟨by (with_reducible repeat (first | refine blk_drewN ?_ _ | refine blk_drew ?_ | refine blk_alloc ?_ _)); refine blk_put (cs := #[.int .i64 t352, .int .i64 t353, .int .i64 t354, .int .i64 t355, .int .i64 t356, .int .i64 0]) ?_ 5 _ rfl; refine blk_put (cs := #[.int .i64 t352, .int .i64 t353, .int .i64 t354, .int .i64 t355, .int .i64 0, .int .i64 0]) ?_ 4 _ rfl; refine blk_put (cs := #[.int .i64 t352, .int .i64 t353, .int .i64 t354, .int .i64 0, .int .i64 0, .int .i64 0]) ?_ 3 _ rfl; refine blk_put (cs := #[.int .i64 t352, .int .i64 t353, .int .i64 0, .int .i64 0, .int .i64 0, .int .i64 0]) ?_ 2 _ rfl; refine blk_put (cs := #[.int .i64 t352, .int .i64 0, .int .i64 0, .int .i64 0, .int .i64 0, .int .i64 0]) ?_ 1 _ rfl; refine blk_put (cs := #[.int .i64 0, .int .i64 0, .int .i64 0, .int .i64 0, .int .i64 0, .int .i64 0]) ?_ 0 _ rfl; (with_reducible repeat (first | refine blk_drewN ?_ _ | refine blk_drew ?_ | refine blk_alloc ?_ _)); exact BK358.out⟩, ⟨by repeat (first | (with_reducible first | exact HB.out | apply below_alloc | apply pw_below_drewN | apply below_drew1 | refine below_set ?_ GE358.out) | exact HB.out)⟩⟩
    ·rw [if_neg c9] at H
     have c9b0 : (t352 == 6) = false := beq_eq_false_iff_ne.mpr c9
     have c9b1 : (t352 != 6) = true := bne_iff_ne.mpr c9
     (first | rw [c9b0] | (simp only [i64_w, i32_w]; rw [c9b0]) | skip)
     have H' := Aside0.mk H
     clear H
     obtain ⟨hcz11_0, hcz11_1, hcz11_2, hcz11_3, hcz11_4, hcz11_5, hfz11_0, hfz11_1, hfz11_2, hfz11_3, hfz11_4, hfz11_5⟩ := blk6 BK358.out
     go_wp2
     go_meet
     case rel => exact ⟨_, (false), (by first | rfl | (simp; done) | (simp [*]; done)), H', ⟨by first | omega | exact Nat.le_refl _⟩, ⟨by (with_reducible repeat (first | refine blk_drewN ?_ _ | refine blk_drew ?_ | refine blk_alloc ?_ _)); refine blk_put (cs := #[.int .i64 t352, .int .i64 t353, .int .i64 t354, .int .i64 t355, .int .i64 t356, .int .i64 0]) ?_ 5 _ rfl; refine blk_put (cs := #[.int .i64 t352, .int .i64 t353, .int .i64 t354, .int .i64 t355, .int .i64 0, .int .i64 0]) ?_ 4 _ rfl; refine blk_put (cs := #[.int .i64 t352, .int .i64 t353, .int .i64 t354, .int .i64 0, .int .i64 0, .int .i64 0]) ?_ 3 _ rfl; refine blk_put (cs := #[.int .i64 t352, .int .i64 t353, .int .i64 0, .int .i64 0, .int .i64 0, .int .i64 0]) ?_ 2 _ rfl; refine blk_put (cs := #[.int .i64 t352, .int .i64 0, .int .i64 0, .int .i64 0, .int .i64 0, .int .i64 0]) ?_ 1 _ rfl; refine blk_put (cs := #[.int .i64 0, .int .i64 0, .int .i64 0, .int .i64 0, .int .i64 0, .int .i64 0]) ?_ 0 _ rfl; (with_reducible repeat (first | refine blk_drewN ?_ _ | refine blk_drew ?_ | refine blk_alloc ?_ _)); exact BK358.out⟩, ⟨by repeat (first | (with_reducible first | exact HB.out | apply below_alloc | apply pw_below_drewN | apply below_drew1 | refine below_set ?_ GE358.out) | exact HB.out)⟩⟩
   case rest =>
    clear HC5
    try clear c2
    try clear c2b0
    try clear c2b1
    try clear c2b2
    try clear c3
    try clear c3b0
    try clear c3b1
    try clear hcz8_0
    try clear hcz8_1
    try clear hcz8_2
    try clear hcz8_3
    try clear hcz8_4
    try clear hcz8_5
    try clear hfz8_0
    try clear hfz8_1
    try clear hfz8_2
    try clear hfz8_3
    try clear hfz8_4
    try clear hfz8_5
    try clear hx351_0
    try clear p351
    try clear q351
    obtain ⟨kq, x19_4, rfl, HA, HJ4, BK358, HB⟩ := hcut
    cases kq with
    | zero => exact absurd HA.out (by simp [whirligigref06_One.j0])
    | succ kj4 =>
     have H := HA.out
     clear HA
     simp only [whirligigref06_One.j0] at H
     by_cases c12 : x19_4 = true
     ·subst c12
      rw [if_pos rfl] at H
      by_cases c13 : 1 < (l0.length : Int)
      ·rw [if_pos c13] at H
       have c13b0 : decide (1 < (l0.length : Int)) = true := decide_eq_true c13
       have c13b1 : decide (1 < l0.length) = true := decide_eq_true (by omega)
       clear c13
       replace H := Option.bind_eq_some_iff.mp H
       obtain ⟨t360, A140, H⟩ := H
       replace H : (some (t360, 2)) = some (r1, r2) := H
       have A14 := Aside0.mk A140
       clear A140
       simp only [Option.some.injEq, Prod.mk.injEq] at H
       obtain ⟨rfl, rfl⟩ := H
       have p359 : 0 ≤ (1 : Int) := (by omega)
       have q359 : 1 < (l0.length : Int) := of_decide_eq_true (by first | (with_reducible assumption) | assumption)
       obtain ⟨ad359, e359, hx359_0⟩ := Kd.at_int HR0.out 1 p359 q359
       obtain rfl : ad351 = ad359 := (by injection e359)
       (try simp only [show (1 : Int).toNat = 1 from rfl, Nat.reduceMul, Nat.reduceEqDiff, Go.Addr.add, ↓reduceIte] at hx359_0)
       have qi359 : (1 < l0.length) = True := eq_true (by omega)
       (try rw [show ((1 : Int)).toNat = 1 from rfl] at hx359_0)
       replace hx359_0 := (HB.out.cell (World.block_lt_of_cell? w _ hx359_0)).trans hx359_0
       replace p359 := eq_true p359
       replace q359 := eq_true q359
       go_wp2_with (first | ((with_reducible refine gate_callee (f := 12) rfl ?_); refine goesL_ (some 23) rfl rfl Tryd.func12 (by kernel_rfl) rfl #[.int .u8 (rd l0 1), .bool true, .int .u8 0, .int .u8 0] rfl (by (try simp only [List.map_toArray, List.map_cons, List.map_nil]); first | done | rfl | (simp only [List.length_drop, List.length_take]; rfl)) ?_; (with_reducible refine (whirligigref06_Text.calls kj4 (rd l0 1) true 0 0 t360 _ A14.out).mono ?_); rintro e w15 ⟨rfl, hb⟩; refine ⟨_, rfl, ?_⟩; have n0_ := Aside0.mk (blk_below (g := gb358) (o := .cells #[.int .i64 t352, .int .i64 t353, .int .i64 t354, .int .i64 t355, .int .i64 t356, .int .i64 t357] 46 (0, 0)) (by (with_reducible repeat (first | refine blk_drewN ?_ _ | refine blk_drew ?_ | refine blk_alloc ?_ _)); exact BK358.out) hb); have n1_ := Aside0.mk (below_step (by repeat (first | (with_reducible first | exact HB.out | apply below_alloc | apply pw_below_drewN | apply below_drew1 | refine below_set ?_ GE358.out) | exact HB.out)) hb); clear BK358; clear HB; have BK358 := n0_; have HB := n1_; clear n0_ n1_; (try clear hb)))
       go_ret2
       exact ⟨by first | rfl | (simp [errW_none, errW_some] <;> rfl) | (simp [*, errW_none, errW_some] <;> rfl), by repeat (first | (with_reducible first | exact HB.out | apply below_alloc | apply pw_below_drewN | apply below_drew1 | refine below_set ?_ GE358.out) | exact HB.out)⟩
      ·rw [if_neg c13] at H
       exact absurd H (by simp)
     ·replace c12 := Bool.eq_false_iff.mpr c12
      subst c12
      have H1 : (if (l0.length : Int) < t355 then (whirligigref06_One.j1 kj4 l0 true t352 t353 t354 t355 t356 t357) else (whirligigref06_One.j1 kj4 l0 (t352 == 6) t352 t353 t354 t355 t356 t357)) = some (r1, r2) := by rw [if_neg (show ¬ (false = true) by decide)] at H; exact H
      clear H
      have H := H1
      clear H1
      have HC16 := Aside0.mk H
      clear H
      go_upto_region 6 with (fail)
      go_cut [33] (fun v33 wc => ∃ (kq : Nat) (x33_15 : Bool), v33 = .bool x33_15 ∧ Aside0 (whirligigref06_One.j1 kq l0 x33_15 t352 t353 t354 t355 t356 t357 = some (r1, r2)) ∧ Aside0 (kq ≤ kj4) ∧ Aside0 (wc.heap[gb358]? = some (.cells #[.int .i64 t352, .int .i64 t353, .int .i64 t354, .int .i64 t355, .int .i64 t356, .int .i64 t357] 46 (0, 0))) ∧ Aside0 (Below w.heap.size w wc))
      case first =>
       have H := HC16.out
       clear HC16
       by_cases c17 : (l0.length : Int) < t355
       ·rw [if_pos c17] at H
        have c17b0 : decide ((l0.length : Int) < t355) = true := decide_eq_true c17
        clear c17
        (first | rw [c17b0] | (simp only [i64_w, i32_w]; rw [c17b0]) | skip)
        have H' := Aside0.mk H
        clear H
        obtain ⟨hcz18_0, hcz18_1, hcz18_2, hcz18_3, hcz18_4, hcz18_5, hfz18_0, hfz18_1, hfz18_2, hfz18_3, hfz18_4, hfz18_5⟩ := blk6 BK358.out
        go_wp2
        go_meet
        case rel => exact ⟨_, (true), (by first | rfl | (simp; done) | (simp [*]; done)), H', ⟨by have := HJ4.out; first | omega | exact Nat.le_refl _⟩, ⟨by (with_reducible repeat (first | refine blk_drewN ?_ _ | refine blk_drew ?_ | refine blk_alloc ?_ _)); exact BK358.out⟩, ⟨by repeat (first | (with_reducible first | exact HB.out | apply below_alloc | apply pw_below_drewN | apply below_drew1 | refine below_set ?_ GE358.out) | exact HB.out)⟩⟩
       ·rw [if_neg c17] at H
        have c17b0 : decide ((l0.length : Int) < t355) = false := decide_eq_false c17
        clear c17
        (first | rw [c17b0] | (simp only [i64_w, i32_w]; rw [c17b0]) | skip)
        have H' := Aside0.mk H
        clear H
        obtain ⟨hcz19_0, hcz19_1, hcz19_2, hcz19_3, hcz19_4, hcz19_5, hfz19_0, hfz19_1, hfz19_2, hfz19_3, hfz19_4, hfz19_5⟩ := blk6 BK358.out
        go_wp2
        go_meet
        case rel => exact ⟨_, ((t352 == 6)), (by first | rfl | (simp; done) | (simp [*]; done)), H', ⟨by have := HJ4.out; first | omega | exact Nat.le_refl _⟩, ⟨by (with_reducible repeat (first | refine blk_drewN ?_ _ | refine blk_drew ?_ | refine blk_alloc ?_ _)); exact BK358.out⟩, ⟨by repeat (first | (with_reducible first | exact HB.out | apply below_alloc | apply pw_below_drewN | apply below_drew1 | refine below_set ?_ GE358.out) | exact HB.out)⟩⟩
      case rest =>
       clear HC16
       try clear c2
       try clear c2b0
       try clear c2b1
       try clear c2b2
       try clear c3
       try clear c3b0
       try clear c3b1
       try clear c12
       try clear hcz8_0
       try clear hcz8_1
       try clear hcz8_2
       try clear hcz8_3
       try clear hcz8_4
       try clear hcz8_5
       try clear hfz8_0
       try clear hfz8_1
       try clear hfz8_2
       try clear hfz8_3
       try clear hfz8_4
       try clear hfz8_5
       try clear hx351_0
       try clear p351
       try clear q351
       obtain ⟨kq, x33_15, rfl, HA, HJ15, BK358, HB⟩ := hcut
       cases kq with
       | zero => exact absurd HA.out (by simp [whirligigref06_One.j1])
       | succ kj15 =>
        have H := HA.out
        clear HA
        simp only [whirligigref06_One.j1] at H
        by_cases c20 : x33_15 = true
        ·subst c20
         rw [if_pos rfl] at H
         by_cases c21 : 0 < (l0.length : Int)
         ·rw [if_pos c21] at H
          have c21b0 : decide (0 < (l0.length : Int)) = true := decide_eq_true c21
          have c21b1 : decide (0 < l0.length) = true := decide_eq_true (by omega)
          clear c21
          replace H := Option.bind_eq_some_iff.mp H
          obtain ⟨t362, A220, H⟩ := H
          replace H : (if 4 + t362.size ≤ 9223372036854775807 then (some ((⟨#[68, 66, 32, 36]⟩ : ByteArray) ++ t362, 1)) else (none)) = some (r1, r2) := H
          have A22 := Aside0.mk A220
          clear A220
          by_cases c23 : 4 + t362.size ≤ 9223372036854775807
          ·rw [if_pos c23] at H
           have c23b0 := eq_true c23
           have c23b1 : decide (4 + t362.size ≤ 9223372036854775807) = true := decide_eq_true c23
           try have c23b2 : (9223372036854775807 < 4 + t362.size) = False := eq_false (Nat.not_lt.2 c23)
           simp only [Option.some.injEq, Prod.mk.injEq] at H
           obtain ⟨rfl, rfl⟩ := H
           have p361 : 0 ≤ (0 : Int) := (by omega)
           have q361 : 0 < (l0.length : Int) := of_decide_eq_true (by first | (with_reducible assumption) | assumption)
           obtain ⟨ad361, e361, hx361_0⟩ := Kd.at_int HR0.out 0 p361 q361
           obtain rfl : ad351 = ad361 := (by injection e361)
           have qi361 : (0 < l0.length) = True := eq_true (by omega)
           (try rw [show ((0 : Int)).toNat = 0 from rfl] at hx361_0)
           (try rw [Addr.add_zero'] at hx361_0)
           replace hx361_0 := (HB.out.cell (World.block_lt_of_cell? w _ hx361_0)).trans hx361_0
           replace p361 := eq_true p361
           replace q361 := eq_true q361
           go_wp2_with (first | ((with_reducible refine gate_callee (f := 32) rfl ?_); refine goesL_ (some 37) rfl rfl Tryd.func32 (by kernel_rfl) rfl #[.int .u8 (rd l0 0)] rfl (by (try simp only [List.map_toArray, List.map_cons, List.map_nil]); first | done | rfl | (simp only [List.length_drop, List.length_take]; rfl)) ?_; (with_reducible refine (whirligigref01_Hex8.calls (rd l0 0) t362 _ A22.out).mono ?_); rintro e w' ⟨rfl, ⟨nd, rfl⟩⟩; refine ⟨_, rfl, ?_⟩))
           go_ret2
           exact ⟨by first | rfl | (simp [errW_none, errW_some] <;> rfl) | (simp [*, errW_none, errW_some] <;> rfl), by repeat (first | (with_reducible first | exact HB.out | apply below_alloc | apply pw_below_drewN | apply below_drew1 | refine below_set ?_ GE358.out) | exact HB.out)⟩
          ·rw [if_neg c23] at H
           exact absurd H (by simp)
         ·rw [if_neg c21] at H
          exact absurd H (by simp)
        ·replace c20 := Bool.eq_false_iff.mpr c20
         subst c20
         have H1 : (if t355 = 2 then (if 0 < (l0.length : Int) then (if 1 < (l0.length : Int) then ((whirligigref06_Text.f kj15 (rd l0 0) false (rd l0 1) 0).bind fun t365 => (some (t365, 2))) else (none)) else (none)) else (if t355 = 3 then (if 0 < (l0.length : Int) then (if 1 < (l0.length : Int) then (if 2 < (l0.length : Int) then ((whirligigref06_Text.f kj15 (rd l0 0) false (rd l0 1) (rd l0 2)).bind fun t369 => (some (t369, 3))) else (none)) else (none)) else (none)) else (if 0 < (l0.length : Int) then ((whirligigref06_Text.f kj15 (rd l0 0) false 0 0).bind fun t371 => (some (t371, 1))) else (none)))) = some (r1, r2) := by rw [if_neg (show ¬ (false = true) by decide)] at H; exact H
         clear H
         have H := H1
         clear H1
         by_cases c24 : t355 = 2
         ·rw [if_pos c24] at H
          have c24b0 : (t355 == 2) = true := beq_iff_eq.mpr c24
          have c24b1 : (t355 != 2) = false := bne_eq_false_iff_eq.mpr c24
          clear c24
          by_cases c25 : 0 < (l0.length : Int)
          ·rw [if_pos c25] at H
           have c25b0 : decide (0 < (l0.length : Int)) = true := decide_eq_true c25
           have c25b1 : decide (0 < l0.length) = true := decide_eq_true (by omega)
           clear c25
           by_cases c26 : 1 < (l0.length : Int)
           ·rw [if_pos c26] at H
            have c26b0 : decide (1 < (l0.length : Int)) = true := decide_eq_true c26
            have c26b1 : decide (1 < l0.length) = true := decide_eq_true (by omega)
            clear c26
            replace H := Option.bind_eq_some_iff.mp H
            obtain ⟨t365, A270, H⟩ := H
            replace H : (some (t365, 2)) = some (r1, r2) := H
            have A27 := Aside0.mk A270
            clear A270
            simp only [Option.some.injEq, Prod.mk.injEq] at H
            obtain ⟨rfl, rfl⟩ := H
            obtain ⟨hcz28_0, hcz28_1, hcz28_2, hcz28_3, hcz28_4, hcz28_5, hfz28_0, hfz28_1, hfz28_2, hfz28_3, hfz28_4, hfz28_5⟩ := blk6 BK358.out
            try go_wp2
            have n0_ := Aside0.mk (blk_drew BK358.out)
            have n1_ := Aside0.mk (below_drew1 HB.out)
            clear BK358
            clear HB
            have BK358 := n0_
            have HB := n1_
            clear n0_ n1_
            have p363 : 0 ≤ (0 : Int) := (by omega)
            have q363 : 0 < (l0.length : Int) := of_decide_eq_true (by first | (with_reducible assumption) | assumption)
            obtain ⟨ad363, e363, hx363_0⟩ := Kd.at_int HR0.out 0 p363 q363
            have hw363_0 := hx363_0
            (try rw [show ((0 : Int)).toNat = 0 from rfl] at hw363_0)
            (try rw [show 0 * 1 = 0 from rfl] at hw363_0)
            (try rw [Addr.add_zero'] at hw363_0)
            obtain rfl : ad351 = ad363 := (by injection e363)
            have qi363 : (0 < l0.length) = True := eq_true (by omega)
            (try rw [show ((0 : Int)).toNat = 0 from rfl] at hx363_0)
            (try rw [Addr.add_zero'] at hx363_0)
            replace hx363_0 := (HB.out.cell (World.block_lt_of_cell? w _ hx363_0)).trans hx363_0
            replace p363 := eq_true p363
            replace q363 := eq_true q363
            have p364 : 0 ≤ (1 : Int) := (by omega)
            have q364 : 1 < (l0.length : Int) := of_decide_eq_true (by first | (with_reducible assumption) | assumption)
            obtain ⟨ad364, e364, hx364_0⟩ := Kd.at_int HR0.out 1 p364 q364
            have hw364_0 := hx364_0
            (try rw [show ((1 : Int)).toNat = 1 from rfl] at hw364_0)
            (try rw [show 1 * 1 = 1 from rfl] at hw364_0)
            (try simp only [Nat.reduceMul, Nat.reduceEqDiff, Go.Addr.add, ↓reduceIte] at hw364_0)
            obtain rfl : ad351 = ad364 := (by injection e364)
            (try simp only [show (1 : Int).toNat = 1 from rfl, Nat.reduceMul, Nat.reduceEqDiff, Go.Addr.add, ↓reduceIte] at hx364_0)
            have qi364 : (1 < l0.length) = True := eq_true (by omega)
            (try rw [show ((1 : Int)).toNat = 1 from rfl] at hx364_0)
            replace hx364_0 := (HB.out.cell (World.block_lt_of_cell? w _ hx364_0)).trans hx364_0
            replace p364 := eq_true p364
            replace q364 := eq_true q364
            refine start_ (n := 9) (S := fun w' => w'.cell? ad351 = some (.int .u8 (rd l0 0)) ∧ w'.cell? ⟨ad351.block, ad351.off + 1, none⟩ = some (.int .u8 (rd l0 1))) (ds := []) #[false, false, false, false, false, false, false, false, false] (by kernel_rfl) rfl rfl ⟨((HB.out.cell (World.block_lt_of_cell? w _ hw363_0)).trans hw363_0), ((HB.out.cell (World.block_lt_of_cell? w _ hw364_0)).trans hw364_0)⟩ (fun hHeld => ?_); refine with_tabW whirligigref06_One.tab10 whirligigref06_One.bits10 (fun HT_ HW_ => ?_)
            generalize wc.drew = w29 at BK358 HB hx363_0 hx364_0 hHeld ⊢
            refine pure_ (i := 0) (N := some 43) (v := ?_) (a' := ?_) #[true, false, false, false, false, false, false, false, false] rfl rfl (any_of HT_.out (by kernel_rfl)) (fun _ _ _ h => h) (Or.inl ⟨by rfl, ?_⟩) ?_ ?_
            rotate_left
            ·intro w'
             go_simp
             with_reducible rfl
            rotate_left
            ·simp only [Act.put, List.setIfInBounds_toArray, List.set_cons_zero, List.set_cons_succ, i64_w, i32_w]
             rfl
            refine pure_ (i := 1) (N := some 44) (v := ?_) (a' := ?_) #[true, true, false, false, false, false, false, false, false] rfl rfl (any_of HT_.out (by kernel_rfl)) (fun _ _ _ h => h) (Or.inl ⟨by rfl, ?_⟩) ?_ ?_
            rotate_left
            ·intro w'
             go_simp
             with_reducible rfl
            rotate_left
            ·simp only [Act.put, List.setIfInBounds_toArray, List.set_cons_zero, List.set_cons_succ, i64_w, i32_w]
             rfl
            refine pure_ (i := 3) (N := some 46) (v := ?_) (a' := ?_) #[true, true, false, true, false, false, false, false, false] rfl rfl (any_of HT_.out (by kernel_rfl)) (fun _ _ _ h => h) (Or.inl ⟨by rfl, ?_⟩) ?_ ?_
            rotate_left
            ·intro w'
             go_simp
             with_reducible rfl
            rotate_left
            ·simp only [Act.put, List.setIfInBounds_toArray, List.set_cons_zero, List.set_cons_succ, i64_w, i32_w]
             rfl
            refine pure_ (i := 4) (N := some 47) (v := ?_) (a' := ?_) #[true, true, false, true, true, false, false, false, false] rfl rfl (any_of HT_.out (by kernel_rfl)) (fun _ _ _ h => h) (Or.inl ⟨by rfl, ?_⟩) ?_ ?_
            rotate_left
            ·intro w'
             go_simp
             with_reducible rfl
            rotate_left
            ·simp only [Act.put, List.setIfInBounds_toArray, List.set_cons_zero, List.set_cons_succ, i64_w, i32_w]
             rfl
            refine take_ (i := 2) (N := some 45) (v := ?_) (a' := ?_) #[true, true, true, true, true, false, false, false, false] rfl rfl (take_ofW HT_.out HW_.out (by kernel_rfl)) (fun _ _ _ h => h) (Or.inl ⟨by rfl, ?_⟩) hHeld ?_ ?_
            rotate_left
            ·rintro w' ⟨s0, s1⟩
             go_simp
             with_reducible rfl
            rotate_left
            ·simp only [Act.put, List.setIfInBounds_toArray, List.set_cons_zero, List.set_cons_succ, i64_w, i32_w]
             rfl
            refine take_ (i := 5) (N := some 48) (v := ?_) (a' := ?_) #[true, true, true, true, true, true, false, false, false] rfl rfl (take_ofW HT_.out HW_.out (by kernel_rfl)) (fun _ _ _ h => h) (Or.inl ⟨by rfl, ?_⟩) hHeld ?_ ?_
            rotate_left
            ·rintro w' ⟨s0, s1⟩
             go_simp
             with_reducible rfl
            rotate_left
            ·simp only [Act.put, List.setIfInBounds_toArray, List.set_cons_zero, List.set_cons_succ, i64_w, i32_w]
             rfl
            refine one_ (i := 6) (N := some 49) #[true, true, true, true, true, true, true, false, false] rfl rfl (one_of HT_.out (by kernel_rfl)) (by decide) (fun K hK => ?_)
            refine goes_ Tryd.func12 (by kernel_rfl) rfl #[.int .u8 (rd l0 0), .bool false, .int .u8 (rd l0 1), .int .u8 0] (by rfl) rfl rfl (by (try simp only [List.map_toArray, List.map_cons, List.map_nil]); first | done | rfl | (simp only [List.length_drop, List.length_take]; rfl)) ?_
            with_reducible refine (whirligigref06_Text.calls kj15 (rd l0 0) false (rd l0 1) 0 t365 _ A27.out).mono ?_
            rintro e w30 ⟨rfl, hb⟩
            refine ⟨_, rfl, ?_⟩
            have n0_ := Aside0.mk (blk_below (g := gb358) (o := .cells #[.int .i64 t352, .int .i64 t353, .int .i64 t354, .int .i64 t355, .int .i64 t356, .int .i64 t357] 46 (0, 0)) (by (with_reducible repeat (first | refine blk_drewN ?_ _ | refine blk_drew ?_ | refine blk_alloc ?_ _)); exact BK358.out) hb)
            have n1_ := Aside0.mk (below_step (by repeat (first | (with_reducible first | exact HB.out | apply below_alloc | apply pw_below_drewN | apply below_drew1 | refine below_set ?_ GE358.out) | exact HB.out)) hb)
            clear BK358
            clear HB
            have BK358 := n0_
            have HB := n1_
            clear n0_ n1_
            (try clear hb)
            (try clear hb2)
            (try clear hk)
            (try clear hi)
            refine hK.out _ _ ⟨((HB.out.cell (World.block_lt_of_cell? w _ hw363_0)).trans hw363_0), ((HB.out.cell (World.block_lt_of_cell? w _ hw364_0)).trans hw364_0)⟩ (fun hHeld => ?_)
            clear hK K
            refine norm_ (a' := ?_) ?_ ?_
            rotate_left
            ·show Act.put _ (some 49) _ = _
             simp only [Act.put, List.setIfInBounds_toArray, List.set_cons_zero, List.set_cons_succ, i64_w, i32_w]
             rfl
            refine pure_ (i := 7) (N := some 2) (v := ?_) (a' := ?_) #[true, true, true, true, true, true, true, true, false] rfl rfl (any_of HT_.out (by kernel_rfl)) (fun _ _ _ h => h) (Or.inl ⟨by rfl, ?_⟩) ?_ ?_
            rotate_left
            ·intro w'
             go_simp
             with_reducible rfl
            rotate_left
            ·simp only [Act.put, List.setIfInBounds_toArray, List.set_cons_zero, List.set_cons_succ, i64_w, i32_w]
             rfl
            refine pure_ (i := 8) (N := some 3) (v := ?_) (a' := ?_) #[true, true, true, true, true, true, true, true, true] rfl rfl (any_of HT_.out (by kernel_rfl)) (fun _ _ _ h => h) (Or.inl ⟨by rfl, ?_⟩) ?_ ?_
            rotate_left
            ·intro w'
             go_simp
             with_reducible rfl
            rotate_left
            ·simp only [Act.put, List.setIfInBounds_toArray, List.set_cons_zero, List.set_cons_succ, i64_w, i32_w]
             rfl
            refine done_ (done_of HT_.out (by kernel_rfl)) ?_
            try go_wp2
            go_ret2
            exact ⟨by first | rfl | (simp [errW_none, errW_some] <;> rfl) | (simp [*, errW_none, errW_some] <;> rfl), by repeat (first | (with_reducible first | exact HB.out | apply below_alloc | apply pw_below_drewN | apply below_drew1 | refine below_set ?_ GE358.out) | exact HB.out)⟩
           ·rw [if_neg c26] at H
            exact absurd H (by simp)
          ·rw [if_neg c25] at H
           exact absurd H (by simp)
         ·rw [if_neg c24] at H
          have c24b0 : (t355 == 2) = false := beq_eq_false_iff_ne.mpr c24
          have c24b1 : (t355 != 2) = true := bne_iff_ne.mpr c24
          by_cases c31 : t355 = 3
          ·rw [if_pos c31] at H
           have c31b0 : (t355 == 3) = true := beq_iff_eq.mpr c31
           have c31b1 : (t355 != 3) = false := bne_eq_false_iff_eq.mpr c31
           clear c31
           by_cases c32 : 0 < (l0.length : Int)
           ·rw [if_pos c32] at H
            have c32b0 : decide (0 < (l0.length : Int)) = true := decide_eq_true c32
            have c32b1 : decide (0 < l0.length) = true := decide_eq_true (by omega)
            clear c32
            by_cases c33 : 1 < (l0.length : Int)
            ·rw [if_pos c33] at H
             have c33b0 : decide (1 < (l0.length : Int)) = true := decide_eq_true c33
             have c33b1 : decide (1 < l0.length) = true := decide_eq_true (by omega)
             clear c33
             by_cases c34 : 2 < (l0.length : Int)
             ·rw [if_pos c34] at H
              have c34b0 : decide (2 < (l0.length : Int)) = true := decide_eq_true c34
              have c34b1 : decide (2 < l0.length) = true := decide_eq_true (by omega)
              clear c34
              replace H := Option.bind_eq_some_iff.mp H
              obtain ⟨t369, A350, H⟩ := H
              replace H : (some (t369, 3)) = some (r1, r2) := H
              have A35 := Aside0.mk A350
              clear A350
              simp only [Option.some.injEq, Prod.mk.injEq] at H
              obtain ⟨rfl, rfl⟩ := H
              obtain ⟨hcz36_0, hcz36_1, hcz36_2, hcz36_3, hcz36_4, hcz36_5, hfz36_0, hfz36_1, hfz36_2, hfz36_3, hfz36_4, hfz36_5⟩ := blk6 BK358.out
              try go_wp2
              have n0_ := Aside0.mk (blk_drew BK358.out)
              have n1_ := Aside0.mk (below_drew1 HB.out)
              clear BK358
              clear HB
              have BK358 := n0_
              have HB := n1_
              clear n0_ n1_
              have p366 : 0 ≤ (0 : Int) := (by omega)
              have q366 : 0 < (l0.length : Int) := of_decide_eq_true (by first | (with_reducible assumption) | assumption)
              obtain ⟨ad366, e366, hx366_0⟩ := Kd.at_int HR0.out 0 p366 q366
              have hw366_0 := hx366_0
              (try rw [show ((0 : Int)).toNat = 0 from rfl] at hw366_0)
              (try rw [show 0 * 1 = 0 from rfl] at hw366_0)
              (try rw [Addr.add_zero'] at hw366_0)
              obtain rfl : ad351 = ad366 := (by injection e366)
              have qi366 : (0 < l0.length) = True := eq_true (by omega)
              (try rw [show ((0 : Int)).toNat = 0 from rfl] at hx366_0)
              (try rw [Addr.add_zero'] at hx366_0)
              replace hx366_0 := (HB.out.cell (World.block_lt_of_cell? w _ hx366_0)).trans hx366_0
              replace p366 := eq_true p366
              replace q366 := eq_true q366
              have p367 : 0 ≤ (1 : Int) := (by omega)
              have q367 : 1 < (l0.length : Int) := of_decide_eq_true (by first | (with_reducible assumption) | assumption)
              obtain ⟨ad367, e367, hx367_0⟩ := Kd.at_int HR0.out 1 p367 q367
              have hw367_0 := hx367_0
              (try rw [show ((1 : Int)).toNat = 1 from rfl] at hw367_0)
              (try rw [show 1 * 1 = 1 from rfl] at hw367_0)
              (try simp only [Nat.reduceMul, Nat.reduceEqDiff, Go.Addr.add, ↓reduceIte] at hw367_0)
              obtain rfl : ad351 = ad367 := (by injection e367)
              (try simp only [show (1 : Int).toNat = 1 from rfl, Nat.reduceMul, Nat.reduceEqDiff, Go.Addr.add, ↓reduceIte] at hx367_0)
              have qi367 : (1 < l0.length) = True := eq_true (by omega)
              (try rw [show ((1 : Int)).toNat = 1 from rfl] at hx367_0)
              replace hx367_0 := (HB.out.cell (World.block_lt_of_cell? w _ hx367_0)).trans hx367_0
              replace p367 := eq_true p367
              replace q367 := eq_true q367
              have p368 : 0 ≤ (2 : Int) := (by omega)
              have q368 : 2 < (l0.length : Int) := of_decide_eq_true (by first | (with_reducible assumption) | assumption)
              obtain ⟨ad368, e368, hx368_0⟩ := Kd.at_int HR0.out 2 p368 q368
              have hw368_0 := hx368_0
              (try rw [show ((2 : Int)).toNat = 2 from rfl] at hw368_0)
              (try rw [show 2 * 1 = 2 from rfl] at hw368_0)
              (try simp only [Nat.reduceMul, Nat.reduceEqDiff, Go.Addr.add, ↓reduceIte] at hw368_0)
              obtain rfl : ad351 = ad368 := (by injection e368)
              (try simp only [show (2 : Int).toNat = 2 from rfl, Nat.reduceMul, Nat.reduceEqDiff, Go.Addr.add, ↓reduceIte] at hx368_0)
              have qi368 : (2 < l0.length) = True := eq_true (by omega)
              (try rw [show ((2 : Int)).toNat = 2 from rfl] at hx368_0)
              replace hx368_0 := (HB.out.cell (World.block_lt_of_cell? w _ hx368_0)).trans hx368_0
              replace p368 := eq_true p368
              replace q368 := eq_true q368
              refine start_ (n := 12) (S := fun w' => w'.cell? ad351 = some (.int .u8 (rd l0 0)) ∧ w'.cell? ⟨ad351.block, ad351.off + 1, none⟩ = some (.int .u8 (rd l0 1)) ∧ w'.cell? ⟨ad351.block, ad351.off + 2, none⟩ = some (.int .u8 (rd l0 2))) (ds := []) #[false, false, false, false, false, false, false, false, false, false, false, false] (by kernel_rfl) rfl rfl ⟨((HB.out.cell (World.block_lt_of_cell? w _ hw366_0)).trans hw366_0), ((HB.out.cell (World.block_lt_of_cell? w _ hw367_0)).trans hw367_0), ((HB.out.cell (World.block_lt_of_cell? w _ hw368_0)).trans hw368_0)⟩ (fun hHeld => ?_); refine with_tabW whirligigref06_One.tab12 whirligigref06_One.bits12 (fun HT_ HW_ => ?_)
              generalize wc.drew = w37 at BK358 HB hx366_0 hx367_0 hx368_0 hHeld ⊢
              refine pure_ (i := 0) (N := some 52) (v := ?_) (a' := ?_) #[true, false, false, false, false, false, false, false, false, false, false, false] rfl rfl (any_of HT_.out (by kernel_rfl)) (fun _ _ _ h => h) (Or.inl ⟨by rfl, ?_⟩) ?_ ?_
              rotate_left
              ·intro w'
               go_simp
               with_reducible rfl
              rotate_left
              ·simp only [Act.put, List.setIfInBounds_toArray, List.set_cons_zero, List.set_cons_succ, i64_w, i32_w]
               rfl
              refine pure_ (i := 1) (N := some 53) (v := ?_) (a' := ?_) #[true, true, false, false, false, false, false, false, false, false, false, false] rfl rfl (any_of HT_.out (by kernel_rfl)) (fun _ _ _ h => h) (Or.inl ⟨by rfl, ?_⟩) ?_ ?_
              rotate_left
              ·intro w'
               go_simp
               with_reducible rfl
              rotate_left
              ·simp only [Act.put, List.setIfInBounds_toArray, List.set_cons_zero, List.set_cons_succ, i64_w, i32_w]
               rfl
              refine pure_ (i := 3) (N := some 55) (v := ?_) (a' := ?_) #[true, true, false, true, false, false, false, false, false, false, false, false] rfl rfl (any_of HT_.out (by kernel_rfl)) (fun _ _ _ h => h) (Or.inl ⟨by rfl, ?_⟩) ?_ ?_
              rotate_left
              ·intro w'
               go_simp
               with_reducible rfl
              rotate_left
              ·simp only [Act.put, List.setIfInBounds_toArray, List.set_cons_zero, List.set_cons_succ, i64_w, i32_w]
               rfl
              refine pure_ (i := 4) (N := some 56) (v := ?_) (a' := ?_) #[true, true, false, true, true, false, false, false, false, false, false, false] rfl rfl (any_of HT_.out (by kernel_rfl)) (fun _ _ _ h => h) (Or.inl ⟨by rfl, ?_⟩) ?_ ?_
              rotate_left
              ·intro w'
               go_simp
               with_reducible rfl
              rotate_left
              ·simp only [Act.put, List.setIfInBounds_toArray, List.set_cons_zero, List.set_cons_succ, i64_w, i32_w]
               rfl
              refine pure_ (i := 6) (N := some 58) (v := ?_) (a' := ?_) #[true, true, false, true, true, false, true, false, false, false, false, false] rfl rfl (any_of HT_.out (by kernel_rfl)) (fun _ _ _ h => h) (Or.inl ⟨by rfl, ?_⟩) ?_ ?_
              rotate_left
              ·intro w'
               go_simp
               with_reducible rfl
              rotate_left
              ·simp only [Act.put, List.setIfInBounds_toArray, List.set_cons_zero, List.set_cons_succ, i64_w, i32_w]
               rfl
              refine pure_ (i := 7) (N := some 59) (v := ?_) (a' := ?_) #[true, true, false, true, true, false, true, true, false, false, false, false] rfl rfl (any_of HT_.out (by kernel_rfl)) (fun _ _ _ h => h) (Or.inl ⟨by rfl, ?_⟩) ?_ ?_
              rotate_left
              ·intro w'
               go_simp
               with_reducible rfl
              rotate_left
              ·simp only [Act.put, List.setIfInBounds_toArray, List.set_cons_zero, List.set_cons_succ, i64_w, i32_w]
               rfl
              refine take_ (i := 2) (N := some 54) (v := ?_) (a' := ?_) #[true, true, true, true, true, false, true, true, false, false, false, false] rfl rfl (take_ofW HT_.out HW_.out (by kernel_rfl)) (fun _ _ _ h => h) (Or.inl ⟨by rfl, ?_⟩) hHeld ?_ ?_
              rotate_left
              ·rintro w' ⟨s0, s1, s2⟩
               go_simp
               with_reducible rfl
              rotate_left
              ·simp only [Act.put, List.setIfInBounds_toArray, List.set_cons_zero, List.set_cons_succ, i64_w, i32_w]
               rfl
              refine take_ (i := 5) (N := some 57) (v := ?_) (a' := ?_) #[true, true, true, true, true, true, true, true, false, false, false, false] rfl rfl (take_ofW HT_.out HW_.out (by kernel_rfl)) (fun _ _ _ h => h) (Or.inl ⟨by rfl, ?_⟩) hHeld ?_ ?_
              rotate_left
              ·rintro w' ⟨s0, s1, s2⟩
               go_simp
               with_reducible rfl
              rotate_left
              ·simp only [Act.put, List.setIfInBounds_toArray, List.set_cons_zero, List.set_cons_succ, i64_w, i32_w]
               rfl
              refine take_ (i := 8) (N := some 60) (v := ?_) (a' := ?_) #[true, true, true, true, true, true, true, true, true, false, false, false] rfl rfl (take_ofW HT_.out HW_.out (by kernel_rfl)) (fun _ _ _ h => h) (Or.inl ⟨by rfl, ?_⟩) hHeld ?_ ?_
              rotate_left
              ·rintro w' ⟨s0, s1, s2⟩
               go_simp
               with_reducible rfl
              rotate_left
              ·simp only [Act.put, List.setIfInBounds_toArray, List.set_cons_zero, List.set_cons_succ, i64_w, i32_w]
               rfl
              refine one_ (i := 9) (N := some 61) #[true, true, true, true, true, true, true, true, true, true, false, false] rfl rfl (one_of HT_.out (by kernel_rfl)) (by decide) (fun K hK => ?_)
              refine goes_ Tryd.func12 (by kernel_rfl) rfl #[.int .u8 (rd l0 0), .bool false, .int .u8 (rd l0 1), .int .u8 (rd l0 2)] (by rfl) rfl rfl (by (try simp only [List.map_toArray, List.map_cons, List.map_nil]); first | done | rfl | (simp only [List.length_drop, List.length_take]; rfl)) ?_
              with_reducible refine (whirligigref06_Text.calls kj15 (rd l0 0) false (rd l0 1) (rd l0 2) t369 _ A35.out).mono ?_
              rintro e w38 ⟨rfl, hb⟩
              refine ⟨_, rfl, ?_⟩
              have n0_ := Aside0.mk (blk_below (g := gb358) (o := .cells #[.int .i64 t352, .int .i64 t353, .int .i64 t354, .int .i64 t355, .int .i64 t356, .int .i64 t357] 46 (0, 0)) (by (with_reducible repeat (first | refine blk_drewN ?_ _ | refine blk_drew ?_ | refine blk_alloc ?_ _)); exact BK358.out) hb)
              have n1_ := Aside0.mk (below_step (by repeat (first | (with_reducible first | exact HB.out | apply below_alloc | apply pw_below_drewN | apply below_drew1 | refine below_set ?_ GE358.out) | exact HB.out)) hb)
              clear BK358
              clear HB
              have BK358 := n0_
              have HB := n1_
              clear n0_ n1_
              (try clear hb)
              (try clear hb2)
              (try clear hk)
              (try clear hi)
              refine hK.out _ _ ⟨((HB.out.cell (World.block_lt_of_cell? w _ hw366_0)).trans hw366_0), ((HB.out.cell (World.block_lt_of_cell? w _ hw367_0)).trans hw367_0), ((HB.out.cell (World.block_lt_of_cell? w _ hw368_0)).trans hw368_0)⟩ (fun hHeld => ?_)
              clear hK K
              refine norm_ (a' := ?_) ?_ ?_
              rotate_left
              ·show Act.put _ (some 61) _ = _
               simp only [Act.put, List.setIfInBounds_toArray, List.set_cons_zero, List.set_cons_succ, i64_w, i32_w]
               rfl
              refine pure_ (i := 10) (N := some 2) (v := ?_) (a' := ?_) #[true, true, true, true, true, true, true, true, true, true, true, false] rfl rfl (any_of HT_.out (by kernel_rfl)) (fun _ _ _ h => h) (Or.inl ⟨by rfl, ?_⟩) ?_ ?_
              rotate_left
              ·intro w'
               go_simp
               with_reducible rfl
              rotate_left
              ·simp only [Act.put, List.setIfInBounds_toArray, List.set_cons_zero, List.set_cons_succ, i64_w, i32_w]
               rfl
              refine pure_ (i := 11) (N := some 3) (v := ?_) (a' := ?_) #[true, true, true, true, true, true, true, true, true, true, true, true] rfl rfl (any_of HT_.out (by kernel_rfl)) (fun _ _ _ h => h) (Or.inl ⟨by rfl, ?_⟩) ?_ ?_
              rotate_left
              ·intro w'
               go_simp
               with_reducible rfl
              rotate_left
              ·simp only [Act.put, List.setIfInBounds_toArray, List.set_cons_zero, List.set_cons_succ, i64_w, i32_w]
               rfl
              refine done_ (done_of HT_.out (by kernel_rfl)) ?_
              try go_wp2
              go_ret2
              exact ⟨by first | rfl | (simp [errW_none, errW_some] <;> rfl) | (simp [*, errW_none, errW_some] <;> rfl), by repeat (first | (with_reducible first | exact HB.out | apply below_alloc | apply pw_below_drewN | apply below_drew1 | refine below_set ?_ GE358.out) | exact HB.out)⟩
             ·rw [if_neg c34] at H
              exact absurd H (by simp)
            ·rw [if_neg c33] at H
             exact absurd H (by simp)
           ·rw [if_neg c32] at H
            exact absurd H (by simp)
          ·rw [if_neg c31] at H
           have c31b0 : (t355 == 3) = false := beq_eq_false_iff_ne.mpr c31
           have c31b1 : (t355 != 3) = true := bne_iff_ne.mpr c31
           by_cases c39 : 0 < (l0.length : Int)
           ·rw [if_pos c39] at H
            have c39b0 : decide (0 < (l0.length : Int)) = true := decide_eq_true c39
            have c39b1 : decide (0 < l0.length) = true := decide_eq_true (by omega)
            clear c39
            replace H := Option.bind_eq_some_iff.mp H
            obtain ⟨t371, A400, H⟩ := H
            replace H : (some (t371, 1)) = some (r1, r2) := H
            have A40 := Aside0.mk A400
            clear A400
            simp only [Option.some.injEq, Prod.mk.injEq] at H
            obtain ⟨rfl, rfl⟩ := H
            obtain ⟨hcz41_0, hcz41_1, hcz41_2, hcz41_3, hcz41_4, hcz41_5, hfz41_0, hfz41_1, hfz41_2, hfz41_3, hfz41_4, hfz41_5⟩ := blk6 BK358.out
            have p370 : 0 ≤ (0 : Int) := (by omega)
            have q370 : 0 < (l0.length : Int) := of_decide_eq_true (by first | (with_reducible assumption) | assumption)
            obtain ⟨ad370, e370, hx370_0⟩ := Kd.at_int HR0.out 0 p370 q370
            obtain rfl : ad351 = ad370 := (by injection e370)
            have qi370 : (0 < l0.length) = True := eq_true (by omega)
            (try rw [show ((0 : Int)).toNat = 0 from rfl] at hx370_0)
            (try rw [Addr.add_zero'] at hx370_0)
            replace hx370_0 := (HB.out.cell (World.block_lt_of_cell? w _ hx370_0)).trans hx370_0
            replace p370 := eq_true p370
            replace q370 := eq_true q370
            go_wp2_with (first | ((with_reducible refine gate_callee (f := 12) rfl ?_); refine goesL_ (some 65) rfl rfl Tryd.func12 (by kernel_rfl) rfl #[.int .u8 (rd l0 0), .bool false, .int .u8 0, .int .u8 0] rfl (by (try simp only [List.map_toArray, List.map_cons, List.map_nil]); first | done | rfl | (simp only [List.length_drop, List.length_take]; rfl)) ?_; (with_reducible refine (whirligigref06_Text.calls kj15 (rd l0 0) false 0 0 t371 _ A40.out).mono ?_); rintro e w42 ⟨rfl, hb⟩; refine ⟨_, rfl, ?_⟩; have n0_ := Aside0.mk (blk_below (g := gb358) (o := .cells #[.int .i64 t352, .int .i64 t353, .int .i64 t354, .int .i64 t355, .int .i64 t356, .int .i64 t357] 46 (0, 0)) (by (with_reducible repeat (first | refine blk_drewN ?_ _ | refine blk_drew ?_ | refine blk_alloc ?_ _)); exact BK358.out) hb); have n1_ := Aside0.mk (below_step (by repeat (first | (with_reducible first | exact HB.out | apply below_alloc | apply pw_below_drewN | apply below_drew1 | refine below_set ?_ GE358.out) | exact HB.out)) hb); clear BK358; clear HB; have BK358 := n0_; have HB := n1_; clear n0_ n1_; (try clear hb)))
            go_ret2
            exact ⟨by first | rfl | (simp [errW_none, errW_some] <;> rfl) | (simp [*, errW_none, errW_some] <;> rfl), by repeat (first | (with_reducible first | exact HB.out | apply below_alloc | apply pw_below_drewN | apply below_drew1 | refine below_set ?_ GE358.out) | exact HB.out)⟩
           ·rw [if_neg c39] at H
            exact absurd H (by simp)
  ·rw [if_neg c3] at H
   exact absurd H (by simp)

end Go.Proofs.YtpjbfpheenamiaaDoor.PF
-- PRINTED by print.py (a twelfth state) out of the translation. Not trusted: Lean checks it.
namespace Go.Proofs.YtpjbfpheenamiaaDoor.PF
open Go.RowKit Go.Proofs.YtpjbfpheenamiaaDoorW.PrintWords Go.Proofs.YtpjbfpheenamiaaDoorW.PrintLast Go.Proofs.YtpjbfpheenamiaaDoorW.PrintMore
attribute [local go_sem] max2_int min2_int max_two min_two max_three min_three max_four min_four   -- for this text's walks alone
set_option linter.unusedVariables false
set_option linter.unusedSimpArgs false

/-! ### whirligiglaw06_ListingOnes: function 4 -/
def whirligiglaw06_ListingOnes.f (k : Nat) (l0 : List Int) : Option (Bool) := (whirligiglaw06_shown.f k).bind fun t372 => ((listing_One.f k l0).bind fun bt373 => ((whirligigref06_One.f k l0).bind fun bt375 => (if t372 = true then (if bt373.1.toList = bt375.1.toList then (some (bt373.2 == bt375.2)) else (some false)) else (some false))))
theorem whirligiglaw06_ListingOnes.mono : ∀ a0 k, LeO (whirligiglaw06_ListingOnes.f k a0) (whirligiglaw06_ListingOnes.f (k + 1) a0) := by
 intro a0 k
 unfold whirligiglaw06_ListingOnes.f
 repeat' first
   | (with_reducible exact listing_One.mono _ _)
   | (with_reducible exact whirligiglaw06_shown.mono _)
   | (with_reducible exact whirligigref06_One.mono _ _)
   | (with_reducible exact LeO.refl _)
   | (with_reducible exact LeO.none _)
   | (with_reducible refine LeO.ite ?_ ?_)
   | (with_reducible refine LeO.bind ?_ (fun _ => ?_))
   | exact listing_One.mono _ _
   | exact whirligiglaw06_shown.mono _
   | exact whirligigref06_One.mono _ _
   | exact LeO.none _
   | refine LeO.ite ?_ ?_
   | refine LeO.bind ?_ (fun _ => ?_)
set_option maxHeartbeats 8000000 in
set_option maxRecDepth 100000 in
theorem whirligiglaw06_ListingOnes.calls (k : Nat) (A0 : Option Addr) (c0 : Nat) (l0 : List Int) (r : Bool) (w : World) (hr0 : Kd.C (Kd.int .u8) w A0 l0.length l0) (hc0 : l0.length ≤ c0) (h : whirligiglaw06_ListingOnes.f k l0 = some r) :
  Calls Tryd.prog 4 #[.slice A0 l0.length c0] w fun e w' => e = .returned (.bool r) ∧ Below w.heap.size w w' := by
 have HR0 := Aside0.mk hr0
 have HC0 := Aside0.mk hc0
 clear hr0 hc0
 have HB := Aside0.mk (Below.refl w.heap.size w)
 have H : ((whirligiglaw06_shown.f k).bind fun t372 => ((listing_One.f k l0).bind fun bt373 => ((whirligigref06_One.f k l0).bind fun bt375 => (if t372 = true then (if bt373.1.toList = bt375.1.toList then (some (bt373.2 == bt375.2)) else (some false)) else (some false))))) = some r := h
 clear h
 replace H := Option.bind_eq_some_iff.mp H
 obtain ⟨t372, A20, H⟩ := H
 replace H : ((listing_One.f k l0).bind fun bt373 => ((whirligigref06_One.f k l0).bind fun bt375 => (if t372 = true then (if bt373.1.toList = bt375.1.toList then (some (bt373.2 == bt375.2)) else (some false)) else (some false)))) = some r := H
 have A2 := Aside0.mk A20
 clear A20
 replace H := Option.bind_eq_some_iff.mp H
 obtain ⟨⟨t373, t374⟩, A30, H⟩ := H
 replace H : ((whirligigref06_One.f k l0).bind fun bt375 => (if t372 = true then (if t373.toList = bt375.1.toList then (some (t374 == bt375.2)) else (some false)) else (some false))) = some r := H
 have A3 := Aside0.mk A30
 clear A30
 replace H := Option.bind_eq_some_iff.mp H
 obtain ⟨⟨t375, t376⟩, A40, H⟩ := H
 replace H : (if t372 = true then (if t373.toList = t375.toList then (some (t374 == t376)) else (some false)) else (some false)) = some r := H
 have A4 := Aside0.mk A40
 clear A40
 by_cases c5 : t372 = true
 ·subst c5
  rw [if_pos rfl] at H
  by_cases c6 : t373.toList = t375.toList
  ·rw [if_pos c6] at H
   have c6b0 : (t373.toList == t375.toList) = true := beq_iff_eq.mpr c6
   have c6b1 : (t373.toList != t375.toList) = false := bne_eq_false_iff_eq.mpr c6
   clear c6
   obtain rfl := Option.some.inj H
   go_enter Tryd.func4, Tryd.ntmps4
   go_wp2_with (first | ((with_reducible refine gate_callee (f := 10) rfl ?_); refine goesL_ (some 8) rfl rfl Tryd.func10 (by kernel_rfl) rfl #[] rfl (by (try simp only [List.map_toArray, List.map_cons, List.map_nil]); first | done | rfl | (simp only [List.length_drop, List.length_take]; rfl)) ?_; (with_reducible refine (whirligiglaw06_shown.calls k  true _ A2.out).mono ?_); rintro e w7 ⟨rfl, hb⟩; refine ⟨_, rfl, ?_⟩; have n0_ := Aside0.mk (below_step (by repeat (first | (with_reducible first | exact HB.out | apply below_alloc | apply pw_below_drewN | apply below_drew1) | exact HB.out)) hb); clear HB; have HB := n0_; clear n0_; (try clear hb)) | ((with_reducible refine gate_callee (f := 13) rfl ?_); refine goesL_ (some 11) rfl rfl Tryd.func13 (by kernel_rfl) rfl #[.slice A0 l0.length c0] rfl (by (try simp only [List.map_toArray, List.map_cons, List.map_nil]); first | done | rfl | (simp only [List.length_drop, List.length_take]; rfl)) ?_; (with_reducible refine (listing_One.calls k _ _ l0 t373 t374 _ ?side1 ?side2 A3.out).mono ?_); (case side1 => repeat (first | exact (Kd.C_below HR0.out HB.out) | (with_reducible refine Kd.C_alloc ?_ _) | (with_reducible refine Kd.C_drewN ?_ _) | (with_reducible refine Kd.C_drew ?_))); (case side2 => exact HC0.out); rintro e w8 ⟨rfl, hb⟩; refine ⟨_, rfl, ?_⟩; have n0_ := Aside0.mk (below_step (by repeat (first | (with_reducible first | exact HB.out | apply below_alloc | apply pw_below_drewN | apply below_drew1) | exact HB.out)) hb); clear HB; have HB := n0_; clear n0_; (try clear hb)) | ((with_reducible refine gate_callee (f := 14) rfl ?_); refine goesL_ (some 16) rfl rfl Tryd.func14 (by kernel_rfl) rfl #[.slice A0 l0.length c0] rfl (by (try simp only [List.map_toArray, List.map_cons, List.map_nil]); first | done | rfl | (simp only [List.length_drop, List.length_take]; rfl)) ?_; (with_reducible refine (whirligigref06_One.calls k _ _ l0 t375 t376 _ ?side1 ?side2 A4.out).mono ?_); (case side1 => repeat (first | exact (Kd.C_below HR0.out HB.out) | (with_reducible refine Kd.C_alloc ?_ _) | (with_reducible refine Kd.C_drewN ?_ _) | (with_reducible refine Kd.C_drew ?_))); (case side2 => exact HC0.out); rintro e w9 ⟨rfl, hb⟩; refine ⟨_, rfl, ?_⟩; have n0_ := Aside0.mk (below_step (by repeat (first | (with_reducible first | exact HB.out | apply below_alloc | apply pw_below_drewN | apply below_drew1) | exact HB.out)) hb); clear HB; have HB := n0_; clear n0_; (try clear hb)))
   go_ret
   exact ⟨by first | rfl | (simp [errW_none, errW_some] <;> rfl) | (simp [*, errW_none, errW_some] <;> rfl), by repeat (first | (with_reducible first | exact HB.out | apply below_alloc | apply pw_below_drewN | apply below_drew1) | exact HB.out)⟩
  ·rw [if_neg c6] at H
   have c6b0 : (t373.toList == t375.toList) = false := beq_eq_false_iff_ne.mpr c6
   have c6b1 : (t373.toList != t375.toList) = true := bne_iff_ne.mpr c6
   obtain rfl := Option.some.inj H
   go_enter Tryd.func4, Tryd.ntmps4
   go_wp2_with (first | ((with_reducible refine gate_callee (f := 10) rfl ?_); refine goesL_ (some 8) rfl rfl Tryd.func10 (by kernel_rfl) rfl #[] rfl (by (try simp only [List.map_toArray, List.map_cons, List.map_nil]); first | done | rfl | (simp only [List.length_drop, List.length_take]; rfl)) ?_; (with_reducible refine (whirligiglaw06_shown.calls k  true _ A2.out).mono ?_); rintro e w10 ⟨rfl, hb⟩; refine ⟨_, rfl, ?_⟩; have n0_ := Aside0.mk (below_step (by repeat (first | (with_reducible first | exact HB.out | apply below_alloc | apply pw_below_drewN | apply below_drew1) | exact HB.out)) hb); clear HB; have HB := n0_; clear n0_; (try clear hb)) | ((with_reducible refine gate_callee (f := 13) rfl ?_); refine goesL_ (some 11) rfl rfl Tryd.func13 (by kernel_rfl) rfl #[.slice A0 l0.length c0] rfl (by (try simp only [List.map_toArray, List.map_cons, List.map_nil]); first | done | rfl | (simp only [List.length_drop, List.length_take]; rfl)) ?_; (with_reducible refine (listing_One.calls k _ _ l0 t373 t374 _ ?side1 ?side2 A3.out).mono ?_); (case side1 => repeat (first | exact (Kd.C_below HR0.out HB.out) | (with_reducible refine Kd.C_alloc ?_ _) | (with_reducible refine Kd.C_drewN ?_ _) | (with_reducible refine Kd.C_drew ?_))); (case side2 => exact HC0.out); rintro e w11 ⟨rfl, hb⟩; refine ⟨_, rfl, ?_⟩; have n0_ := Aside0.mk (below_step (by repeat (first | (with_reducible first | exact HB.out | apply below_alloc | apply pw_below_drewN | apply below_drew1) | exact HB.out)) hb); clear HB; have HB := n0_; clear n0_; (try clear hb)) | ((with_reducible refine gate_callee (f := 14) rfl ?_); refine goesL_ (some 16) rfl rfl Tryd.func14 (by kernel_rfl) rfl #[.slice A0 l0.length c0] rfl (by (try simp only [List.map_toArray, List.map_cons, List.map_nil]); first | done | rfl | (simp only [List.length_drop, List.length_take]; rfl)) ?_; (with_reducible refine (whirligigref06_One.calls k _ _ l0 t375 t376 _ ?side1 ?side2 A4.out).mono ?_); (case side1 => repeat (first | exact (Kd.C_below HR0.out HB.out) | (with_reducible refine Kd.C_alloc ?_ _) | (with_reducible refine Kd.C_drewN ?_ _) | (with_reducible refine Kd.C_drew ?_))); (case side2 => exact HC0.out); rintro e w12 ⟨rfl, hb⟩; refine ⟨_, rfl, ?_⟩; have n0_ := Aside0.mk (below_step (by repeat (first | (with_reducible first | exact HB.out | apply below_alloc | apply pw_below_drewN | apply below_drew1) | exact HB.out)) hb); clear HB; have HB := n0_; clear n0_; (try clear hb)))
   go_ret
   exact ⟨by first | rfl | (simp [errW_none, errW_some] <;> rfl) | (simp [*, errW_none, errW_some] <;> rfl), by repeat (first | (with_reducible first | exact HB.out | apply below_alloc | apply pw_below_drewN | apply below_drew1) | exact HB.out)⟩
 ·replace c5 := Bool.eq_false_iff.mpr c5
  subst c5
  have H1 : (some false) = some r := by rw [if_neg (show ¬ (false = true) by decide)] at H; exact H
  clear H
  have H := H1
  clear H1
  obtain rfl := Option.some.inj H
  go_enter Tryd.func4, Tryd.ntmps4
  go_wp2_with (first | ((with_reducible refine gate_callee (f := 10) rfl ?_); refine goesL_ (some 8) rfl rfl Tryd.func10 (by kernel_rfl) rfl #[] rfl (by (try simp only [List.map_toArray, List.map_cons, List.map_nil]); first | done | rfl | (simp only [List.length_drop, List.length_take]; rfl)) ?_; (with_reducible refine (whirligiglaw06_shown.calls k  false _ A2.out).mono ?_); rintro e w13 ⟨rfl, hb⟩; refine ⟨_, rfl, ?_⟩; have n0_ := Aside0.mk (below_step (by repeat (first | (with_reducible first | exact HB.out | apply below_alloc | apply pw_below_drewN | apply below_drew1) | exact HB.out)) hb); clear HB; have HB := n0_; clear n0_; (try clear hb)) | ((with_reducible refine gate_callee (f := 13) rfl ?_); refine goesL_ (some 11) rfl rfl Tryd.func13 (by kernel_rfl) rfl #[.slice A0 l0.length c0] rfl (by (try simp only [List.map_toArray, List.map_cons, List.map_nil]); first | done | rfl | (simp only [List.length_drop, List.length_take]; rfl)) ?_; (with_reducible refine (listing_One.calls k _ _ l0 t373 t374 _ ?side1 ?side2 A3.out).mono ?_); (case side1 => repeat (first | exact (Kd.C_below HR0.out HB.out) | (with_reducible refine Kd.C_alloc ?_ _) | (with_reducible refine Kd.C_drewN ?_ _) | (with_reducible refine Kd.C_drew ?_))); (case side2 => exact HC0.out); rintro e w14 ⟨rfl, hb⟩; refine ⟨_, rfl, ?_⟩; have n0_ := Aside0.mk (below_step (by repeat (first | (with_reducible first | exact HB.out | apply below_alloc | apply pw_below_drewN | apply below_drew1) | exact HB.out)) hb); clear HB; have HB := n0_; clear n0_; (try clear hb)) | ((with_reducible refine gate_callee (f := 14) rfl ?_); refine goesL_ (some 16) rfl rfl Tryd.func14 (by kernel_rfl) rfl #[.slice A0 l0.length c0] rfl (by (try simp only [List.map_toArray, List.map_cons, List.map_nil]); first | done | rfl | (simp only [List.length_drop, List.length_take]; rfl)) ?_; (with_reducible refine (whirligigref06_One.calls k _ _ l0 t375 t376 _ ?side1 ?side2 A4.out).mono ?_); (case side1 => repeat (first | exact (Kd.C_below HR0.out HB.out) | (with_reducible refine Kd.C_alloc ?_ _) | (with_reducible refine Kd.C_drewN ?_ _) | (with_reducible refine Kd.C_drew ?_))); (case side2 => exact HC0.out); rintro e w15 ⟨rfl, hb⟩; refine ⟨_, rfl, ?_⟩; have n0_ := Aside0.mk (below_step (by repeat (first | (with_reducible first | exact HB.out | apply below_alloc | apply pw_below_drewN | apply below_drew1) | exact HB.out)) hb); clear HB; have HB := n0_; clear n0_; (try clear hb)))
  go_ret
  exact ⟨by first | rfl | (simp [errW_none, errW_some] <;> rfl) | (simp [*, errW_none, errW_some] <;> rfl), by repeat (first | (with_reducible first | exact HB.out | apply below_alloc | apply pw_below_drewN | apply below_drew1) | exact HB.out)⟩

/-- THE ONE PURE STATEMENT of whirligiglaw06_ListingOnes: yours. -/
def whirligiglaw06_ListingOnes.Pure : Prop := ∀ (l0 : List Int), l0.length ≤ maxLen → l0.length * 1 ≤ 140737488351232 → (∀ x ∈ l0, (Lit.int .u8 x).wf = true) → ∃ k, whirligiglaw06_ListingOnes.f k l0 = some true
theorem whirligiglaw06_ListingOnes.walk (P : whirligiglaw06_ListingOnes.Pure) (a0 : Option Addr) (len0 cap0 : Nat) (z0 : List Int) (w : World) (w0 : (a0 = none ∧ len0 = 0 ∧ cap0 = 0 ∧ z0 = []) ∨ ∃ x, a0 = some x ∧ len0 ≤ cap0 ∧ cap0 ≤ maxLen ∧ z0.length = cap0 ∧ (∀ i, i < z0.length → w.cell? (x.add i) = some (.int .u8 (z0.getD i 0))) ∧ ∀ n ∈ z0, (Lit.int .u8 n).wf = true) (y0 : len0 * 1 ≤ 140737488351232) :
  Calls Tryd.prog 4 #[.slice a0 len0 cap0] w fun e w' => e = .returned (.bool true) ∧ Below w.heap.size w w' := by
 obtain ⟨l0, rfl, hr0, hm0, hw0, hc0⟩ := ReadsInt.ofRowC w0
 obtain ⟨k, h⟩ := P l0 hm0 y0 hw0
 refine (whirligiglaw06_ListingOnes.calls k _ _ l0 true w (Kd.C_of_reads (d := (0 : Int)) (h1 := fun _ => rfl) hr0) hc0 h).mono ?_
 rintro e w' ⟨rfl, hd⟩
 exact ⟨rfl, hd⟩

end Go.Proofs.YtpjbfpheenamiaaDoor.PF
/- The plain law of ListingOnes: for every list of bytes both answers are the same line and the same number; no condition. -/
namespace Go.Proofs.YtpjbfpheenamiaaDoor.PF
open Go.RowKit Go.Proofs.YtpjbfpheenamiaaDoorW.PrintWords
set_option linter.unusedVariables false
set_option linter.unusedSimpArgs false
set_option maxRecDepth 100000
/-- How many bytes an opcode's instruction takes. -/
def nbT (op : Nat) : Nat := match bookForm op with
  | some f => f.2.2.2.1.toNat
  | none => 0
def formTabB (op : Nat) : Bool := match bookForm op with
  | some f => (f.2.2.2.1 == 1 || f.2.2.2.1 == 2 || f.2.2.2.1 == 3) && (decide (f.1 = 6) == decide (op = 203)) && (!decide (op = 203) || f.2.2.2.1 == 1) && decide (opcode_Decode.f 9 (op : Int) = bookForm op)
  | none => false
theorem formTab_all : ((List.range 256).all formTabB) = true := by kernel_rfl
theorem formTab (op : Nat) (h : op < 256) : ∃ f0 f1 f2 f3 f4 f5, bookForm op = some (f0, f1, f2, f3, f4, f5) ∧ opcode_Decode.f 9 (op : Int) = some (f0, f1, f2, f3, f4, f5) ∧ (f3 = 1 ∨ f3 = 2 ∨ f3 = 3) ∧ (f0 = 6 ↔ op = 203) ∧ (op = 203 → f3 = 1) ∧ ((nbT op : Nat) : Int) = f3 := by
  have hb := List.all_eq_true.1 formTab_all op (List.mem_range.2 h)
  unfold formTabB at hb
  unfold nbT
  cases hf : bookForm op with
  | none => rw [hf] at hb; cases hb
  | some f =>
    obtain ⟨f0, f1, f2, f3, f4, f5⟩ := f
    rw [hf] at hb
    simp only [Bool.and_eq_true, Bool.or_eq_true, beq_iff_eq, decide_eq_true_eq, Bool.not_eq_true', decide_eq_false_iff_not] at hb
    obtain ⟨⟨⟨h1, h2⟩, h3⟩, h4⟩ := hb
    refine ⟨f0, f1, f2, f3, f4, f5, rfl, h4, ?_, ?_, fun e => ?_, ?_⟩
    · rcases h1 with (h1 | h1) | h1 <;> simp [h1]
    · exact decide_eq_decide.1 h2
    · rcases h3 with h3 | h3
      · exact absurd e h3
      · exact h3
    · show ((f3.toNat : Nat) : Int) = f3
      rcases h1 with (h1 | h1) | h1 <;> omega
def cbTabB (op : Nat) : Bool := decide (opcode_DecodeCB.f (op : Int) = bookForm (op + 256)) && match bookForm (op + 256) with
  | some f => f.2.2.2.1 == 2
  | none => false
theorem cbTab_all : ((List.range 256).all cbTabB) = true := by kernel_rfl
theorem cbTab (op : Nat) (h : op < 256) : ∃ f0 f1 f2 f4 f5, opcode_DecodeCB.f (op : Int) = some (f0, f1, f2, 2, f4, f5) := by
  have hb := List.all_eq_true.1 cbTab_all op (List.mem_range.2 h)
  unfold cbTabB at hb
  simp only [Bool.and_eq_true, decide_eq_true_eq] at hb
  cases hf : bookForm (op + 256) with
  | none => rw [hf] at hb; cases hb.2
  | some f =>
    obtain ⟨f0, f1, f2, f3, f4, f5⟩ := f
    rw [hf] at hb
    have : f3 = 2 := by simpa using hb.2
    subst this
    exact ⟨f0, f1, f2, f4, f5, hb.1⟩
def dbB (x : Nat) : ByteArray := (⟨#[68, 66, 32, 36]⟩ : ByteArray) ++ hexB x
theorem db203 : (⟨(lineL 203 0 0).toArray⟩ : ByteArray) = dbB 203 := by kernel_rfl
/-- The line of what bytes begin with, and how many it takes. -/
def oneS : List Nat → ByteArray × Nat
  | [] => (⟨#[]⟩, 0)
  | x :: r => if x = 203 then (match r with
      | [] => (dbB x, 1)
      | y :: _ => (⟨(lineL (y + 256) 0 0).toArray⟩, 2))
    else if r.length + 1 < nbT x then (dbB x, 1)
    else (⟨(lineL x (if 1 < nbT x then r.getD 0 0 else 0) (if 2 < nbT x then r.getD 1 0 else 0)).toArray⟩, nbT x)
theorem oneS_cons (x : Nat) (r : List Nat) : oneS (x :: r) = if x = 203 then (match r with
      | [] => (dbB x, 1)
      | y :: _ => (⟨(lineL (y + 256) 0 0).toArray⟩, 2))
    else if r.length + 1 < nbT x then (dbB x, 1)
    else (⟨(lineL x (if 1 < nbT x then r.getD 0 0 else 0) (if 2 < nbT x then r.getD 1 0 else 0)).toArray⟩, nbT x) := rfl
def ints (l : List Nat) : List Int := l.map fun n : Nat => (n : Int)
theorem ints_of (l : List Int) (h : ∀ x ∈ l, (Lit.int .u8 x).wf = true) : ∃ m : List Nat, l = ints m ∧ ∀ x ∈ m, x < 256 := by
  refine ⟨l.map Int.toNat, ?_, ?_⟩
  · unfold ints
    rw [List.map_map]
    conv => lhs; rw [← List.map_id l]
    refine List.map_congr_left fun x hx => ?_
    obtain ⟨n, _, rfl⟩ := u8_nat (h x hx)
    simp
  · intro x hx
    obtain ⟨y, hy, rfl⟩ := List.mem_map.1 hx
    obtain ⟨n, hn, rfl⟩ := u8_nat (h y hy)
    simpa using hn
theorem ints_length (l : List Nat) : (ints l).length = l.length := by simp [ints]
theorem rd_ints (l : List Nat) (i : Nat) : rd (ints l) (i : Int) = ((l.getD i 0 : Nat) : Int) := by
  unfold rd ints
  rw [Int.toNat_natCast, List.getD_eq_getElem?_getD, List.getD_eq_getElem?_getD, List.getElem?_map]
  cases l[i]? <;> rfl
theorem decode_k {k : Nat} (hk : 9 ≤ k) {x : Int} {f : Int × Int × Int × Int × Int × Int} (h : opcode_Decode.f 9 x = some f) : opcode_Decode.f k x = some f :=
  at_rounds (g := fun k => opcode_Decode.f k x) (opcode_Decode.mono _) hk h
theorem text_prog0 {k : Nat} (hk : 9 ≤ k) (x lo hi : Nat) (h : x < 256) (hl : lo < 256) (hh : hi < 256) : listing_Text.f k (x : Int) false (lo : Int) (hi : Int) = some ⟨(lineL x lo hi).toArray⟩ := by
  have := text_prog_k hk x lo hi (by omega) hl hh
  rwa [show ((x : Int) % 256) = x by omega, decide_eq_false (by omega)] at this
theorem text_prog1 {k : Nat} (hk : 9 ≤ k) (x : Nat) (h : x < 256) : listing_Text.f k (x : Int) true 0 0 = some ⟨(lineL (x + 256) 0 0).toArray⟩ := by
  have := text_prog_k hk (x + 256) 0 0 (by omega) (by omega) (by omega)
  rwa [show (((x + 256 : Nat) : Int) % 256) = x by omega, decide_eq_true (by omega)] at this
theorem text_ref0 {k : Nat} (hk : 100 ≤ k) (x lo hi : Nat) (h : x < 256) (hl : lo < 256) (hh : hi < 256) : whirligigref06_Text.f k (x : Int) false (lo : Int) (hi : Int) = some ⟨(lineL x lo hi).toArray⟩ := by
  have := text_ref_k hk x lo hi (by omega) hl hh
  rwa [show ((x : Int) % 256) = x by omega, decide_eq_false (by omega)] at this
theorem text_ref1 {k : Nat} (hk : 100 ≤ k) (x : Nat) (h : x < 256) : whirligigref06_Text.f k (x : Int) true 0 0 = some ⟨(lineL (x + 256) 0 0).toArray⟩ := by
  have := text_ref_k hk (x + 256) 0 0 (by omega) (by omega) (by omega)
  rwa [show (((x + 256 : Nat) : Int) % 256) = x by omega, decide_eq_true (by omega)] at this
theorem getD_lt {l : List Nat} (h : ∀ x ∈ l, x < 256) (i : Nat) : l.getD i 0 < 256 := by
  rw [List.getD_eq_getElem?_getD]
  cases hi : l[i]? with
  | none => simp
  | some y => exact h y (List.mem_of_getElem? hi)
theorem db_some (x : Nat) (h : x < 256) : ((word_Hex8.f (x : Int)).bind fun t => (if 4 + t.size ≤ 9223372036854775807 then (some ((⟨#[68, 66, 32, 36]⟩ : ByteArray) ++ t, (1 : Int))) else (none))) = some (dbB x, 1) := by
  rw [hex8_prog x h, bind_some', if_pos (by show 4 + 2 ≤ 9223372036854775807; omega)]
  rfl
theorem db_someR (x : Nat) (h : x < 256) : ((whirligigref01_Hex8.f (x : Int)).bind fun t => (if 4 + t.size ≤ 9223372036854775807 then (some ((⟨#[68, 66, 32, 36]⟩ : ByteArray) ++ t, (1 : Int))) else (none))) = some (dbB x, 1) := by
  rw [hex8_ref x h, bind_some', if_pos (by show 4 + 2 ≤ 9223372036854775807; omega)]
  rfl
theorem one_prog {k : Nat} (hk : 20 ≤ k) (l : List Nat) (h : ∀ x ∈ l, x < 256) : listing_One.f k (ints l) = some ((oneS l).1, ((oneS l).2 : Int)) := by
  obtain ⟨m, rfl⟩ : ∃ m, k = m + 1 + 1 + 1 := ⟨k - 3, by omega⟩
  cases l with
  | nil => unfold listing_One.f; rw [if_pos (by simp [ints])]; rfl
  | cons x r =>
    have hx : x < 256 := h x (by simp)
    have hr : ∀ y ∈ r, y < 256 := fun y hy => h y (by simp [hy])
    obtain ⟨f0, f1, f2, f3, f4, f5, hf, hd, h3, h6, h1, hn⟩ := formTab x hx
    have hlen : ((ints (x :: r)).length : Int) = r.length + 1 := by rw [ints_length]; simp
    have r0 : rd (ints (x :: r)) 0 = (x : Int) := rd_ints _ 0
    have r1 : rd (ints (x :: r)) 1 = ((r.getD 0 0 : Nat) : Int) := (rd_ints (x :: r) 1).trans rfl
    have r2 : rd (ints (x :: r)) 2 = ((r.getD 1 0 : Nat) : Int) := (rd_ints (x :: r) 2).trans rfl
    unfold listing_One.f
    rw [if_neg (by omega), if_pos (by omega), r0, decode_k (by omega) hd, bind_some']
    dsimp only
    rw [oneS_cons]
    by_cases hc : x = 203
    · have e6 := h6.2 hc
      have e3 := h1 hc
      rw [if_pos e6, if_pos hc]
      cases r with
      | nil =>
        rw [decide_eq_false (by rw [hlen]; simp), listing_One.j0, if_neg (by simp), listing_One.j1, if_neg (by rw [hlen, e3]; simp), if_neg (by simp), listing_One.j2, decide_eq_false (by omega), if_neg (by simp), if_neg (by omega)]
        have t := text_prog0 (k := m) (by omega) x 0 0 hx (by omega) (by omega)
        rw [show ((0 : Nat) : Int) = 0 from rfl] at t
        rw [t, bind_some', e3, hc, db203]
        rfl
      | cons y t =>
        have hy : y < 256 := hr y (by simp)
        obtain ⟨g0, g1, g2, g4, g5, hg⟩ := cbTab y hy
        rw [decide_eq_true (by rw [hlen]; simp only [List.length_cons]; omega), listing_One.j0, if_pos rfl, if_pos (by rw [hlen]; simp only [List.length_cons]; omega), r1]
        simp only [List.getD_cons_zero]
        rw [hg, bind_some']
        dsimp only
        rw [listing_One.j1, if_neg (by rw [hlen]; simp only [List.length_cons]; omega), if_pos rfl, listing_One.j2, if_neg (by simp), if_neg (by omega), text_prog1 (by omega) y hy, bind_some']
        rfl
    · have n6 : ¬ f0 = 6 := fun e => hc (h6.1 e)
      rw [if_neg n6, if_neg hc, listing_One.j0, if_neg (by simp), listing_One.j1]
      by_cases hl : r.length + 1 < nbT x
      · rw [if_pos (by rw [hlen]; omega), if_pos hl, if_pos (by omega), r0]
        exact db_some x hx
      · rw [if_neg (by rw [hlen]; omega), if_neg hl, if_neg (by simp), listing_One.j2]
        rcases h3 with e | e | e
        · rw [decide_eq_false (by omega), if_neg (by simp), if_neg (by omega), if_neg (by omega), if_neg (by omega)]
          have t := text_prog0 (k := m) (by omega) x 0 0 hx (by omega) (by omega)
          rw [show ((0 : Nat) : Int) = 0 from rfl] at t
          rw [t, bind_some', hn]
        · rw [decide_eq_true (by omega), if_pos rfl, if_pos (by rw [hlen]; omega), if_neg (by omega), if_pos (by omega), if_neg (by omega), r1]
          have t := text_prog0 (k := m) (by omega) x (r.getD 0 0) 0 hx (getD_lt hr 0) (by omega)
          rw [show ((0 : Nat) : Int) = 0 from rfl] at t
          rw [t, bind_some', hn]
        · rw [decide_eq_true (by omega), if_pos rfl, if_pos (by rw [hlen]; omega), if_pos (by omega), if_pos (by rw [hlen]; omega), if_pos (by omega), if_pos (by omega), r1, r2, text_prog0 (by omega) x _ _ hx (getD_lt hr 0) (getD_lt hr 1), bind_some', hn]
theorem one_ref {k : Nat} (hk : 120 ≤ k) (l : List Nat) (h : ∀ x ∈ l, x < 256) : whirligigref06_One.f k (ints l) = some ((oneS l).1, ((oneS l).2 : Int)) := by
  obtain ⟨m, rfl⟩ : ∃ m, k = m + 1 + 1 := ⟨k - 2, by omega⟩
  cases l with
  | nil => unfold whirligigref06_One.f; rw [if_pos (by simp [ints])]; rfl
  | cons x r =>
    have hx : x < 256 := h x (by simp)
    have hr : ∀ y ∈ r, y < 256 := fun y hy => h y (by simp [hy])
    obtain ⟨f0, f1, f2, f3, f4, f5, hf, hd, h3, h6, h1, hn⟩ := formTab x hx
    have hlen : ((ints (x :: r)).length : Int) = r.length + 1 := by rw [ints_length]; simp
    have r0 : rd (ints (x :: r)) 0 = (x : Int) := rd_ints _ 0
    have r1 : rd (ints (x :: r)) 1 = ((r.getD 0 0 : Nat) : Int) := (rd_ints (x :: r) 1).trans rfl
    have r2 : rd (ints (x :: r)) 2 = ((r.getD 1 0 : Nat) : Int) := (rd_ints (x :: r) 2).trans rfl
    have hform : whirligigref06_form.f (m + 1 + 1) (x : Int) false = some (f0, f1, f2, f3, f4, f5) := by
      have e := form_ref x (by omega)
      rw [show ((x : Int) % 256) = x by omega, decide_eq_false (by omega), hf] at e
      exact at_rounds (g := fun k => whirligigref06_form.f k (x : Int) false) (whirligigref06_form.mono _ _) (by omega) e
    unfold whirligigref06_One.f
    rw [if_neg (by omega), if_pos (by omega), r0, hform, bind_some']
    dsimp only
    rw [oneS_cons]
    by_cases hc : x = 203
    · have e6 := h6.2 hc
      have e3 := h1 hc
      rw [if_pos e6, if_pos hc]
      cases r with
      | nil =>
        rw [decide_eq_false (by rw [hlen]; simp), whirligigref06_One.j0, if_neg (by simp), if_neg (by rw [hlen, e3]; simp), whirligigref06_One.j1, if_pos (by simpa using e6), if_pos (by omega), r0]
        exact db_someR x hx
      | cons y t =>
        have hy : y < 256 := hr y (by simp)
        rw [decide_eq_true (by rw [hlen]; simp only [List.length_cons]; omega), whirligigref06_One.j0, if_pos rfl, if_pos (by rw [hlen]; simp only [List.length_cons]; omega), r1]
        simp only [List.getD_cons_zero]
        rw [text_ref1 (by omega) y hy, bind_some']
        rfl
    · have n6 : ¬ f0 = 6 := fun e => hc (h6.1 e)
      rw [if_neg n6, if_neg hc, whirligigref06_One.j0, if_neg (by simp)]
      by_cases hl : r.length + 1 < nbT x
      · rw [if_pos (by rw [hlen]; omega), whirligigref06_One.j1, if_pos rfl, if_pos hl, if_pos (by omega), r0]
        exact db_someR x hx
      · rw [if_neg (by rw [hlen]; omega), whirligigref06_One.j1, if_neg (by simpa using n6), if_neg hl]
        rcases h3 with e | e | e
        · rw [if_neg (by omega), if_neg (by omega), if_pos (by omega), if_neg (by omega), if_neg (by omega), r0]
          have t := text_ref0 (k := m) (by omega) x 0 0 hx (by omega) (by omega)
          rw [show ((0 : Nat) : Int) = 0 from rfl] at t
          rw [t, bind_some', hn, e]
        · rw [if_pos e, if_pos (by omega), if_pos (by rw [hlen]; omega), if_pos (by omega), if_neg (by omega), r0, r1]
          have t := text_ref0 (k := m) (by omega) x (r.getD 0 0) 0 hx (getD_lt hr 0) (by omega)
          rw [show ((0 : Nat) : Int) = 0 from rfl] at t
          rw [t, bind_some', hn, e]
        · rw [if_neg (by omega), if_pos e, if_pos (by omega), if_pos (by rw [hlen]; omega), if_pos (by rw [hlen]; omega), if_pos (by omega), if_pos (by omega), r0, r1, r2, text_ref0 (by omega) x _ _ hx (getD_lt hr 0) (getD_lt hr 1), bind_some', hn, e]
theorem shown_k {k : Nat} (hk : 100 ≤ k) : whirligiglaw06_shown.f k = some true := at_rounds (g := whirligiglaw06_shown.f) whirligiglaw06_shown.mono hk shown_ok
theorem listingOnes_pure : whirligiglaw06_ListingOnes.Pure := by
  intro l0 _ _ hw
  obtain ⟨l, rfl, hl⟩ := ints_of l0 hw
  refine ⟨120, ?_⟩
  unfold whirligiglaw06_ListingOnes.f
  rw [shown_k (by omega), bind_some', one_prog (by omega) l hl, bind_some', one_ref (by omega) l hl, bind_some', if_pos rfl]
  dsimp only
  rw [if_pos rfl, beq_self_eq_true]
end Go.Proofs.YtpjbfpheenamiaaDoor.PF
