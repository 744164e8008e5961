/- Texts of this claim, put together: PF34, PF35. -/
import Derived.Test.YtpjbfpheenamiaaDoorB1
import Derived.Test.YtpjbfpheenamiaaDoorB12
-- PRINTED by print.py (a twelfth state) out of the translation. Not trusted: Lean checks it.
namespace Go.Proofs.YtpjbfpheenamiaaDoor.PF
open Go.RowKit Go.Proofs.YtpjbfpheenamiaaDoorW.PrintWords Go.Proofs.YtpjbfpheenamiaaDoorW.PrintLast Go.Proofs.YtpjbfpheenamiaaDoorW.PrintMore
attribute [local go_sem] max2_int min2_int max_two min_two max_three min_three max_four min_four   -- for this text's walks alone
set_option linter.unusedVariables false
set_option linter.unusedSimpArgs false

/-! ### listing_bare: function 34 -/
def listing_bare.j0 : Nat → ByteArray → Int → ByteArray → Int → Bool → Option (ByteArray × Int × Bool)
 | 0, _, _, _, _, _ => none
 | k + 1, x0, x1, x2, x9, x25 => if x25 = true then (some ((⟨#[]⟩ : ByteArray), 0, false)) else (if 0 ≤ (wrap64 (x9 + 1)) then (if (wrap64 (x9 + 1)) ≤ (wrap64 ((wrap64 (x9 + 1)) + x1)) then (if (wrap64 ((wrap64 (x9 + 1)) + x1)) ≤ (x0.size : Int) then ((word_Read.f (x0.extract ((wrap64 (x9 + 1)) : Int).toNat ((wrap64 ((wrap64 (x9 + 1)) + x1)) : Int).toNat) x1).bind fun bt263 => (if bt263.2 = 0 then ((strings_ToUpper.f (x0.extract ((wrap64 (x9 + 1)) : Int).toNat ((wrap64 ((wrap64 (x9 + 1)) + x1)) : Int).toNat)).bind fun t265 => (if t265.toList = (x0.extract ((wrap64 (x9 + 1)) : Int).toNat ((wrap64 ((wrap64 (x9 + 1)) + x1)) : Int).toNat).toList then (if 0 ≤ x9 then (if x9 ≤ (x0.size : Int) then (if 0 ≤ (wrap64 ((wrap64 (x9 + 1)) + x1)) then ((listing_join.f (([x0.extract 0 (x9 : Int).toNat, x2, x0.extract ((wrap64 ((wrap64 (x9 + 1)) + x1)) : Int).toNat x0.size] : List ByteArray))).bind fun t269 => (some (t269, bt263.1, true))) else (none)) else (none)) else (none)) else (some ((⟨#[]⟩ : ByteArray), 0, false)))) else (some ((⟨#[]⟩ : ByteArray), 0, false)))) else (none)) else (none)) else (none))
def listing_bare.f (k : Nat) (a0 : ByteArray) (a1 : Int) (a2 : ByteArray) : Option (ByteArray × Int × Bool) := (strings_IndexByte.f a0 36).bind fun t262 => (if t262 < 0 then (listing_bare.j0 k a0 a1 a2 t262 true) else (listing_bare.j0 k a0 a1 a2 t262 (decide ((a0.size : Int) < (wrap64 ((wrap64 (t262 + 1)) + a1))))))
theorem listing_bare.mono_l : ∀ k, (∀ y0 y1 y2 y3 y4, LeO (listing_bare.j0 k y0 y1 y2 y3 y4) (listing_bare.j0 (k + 1) y0 y1 y2 y3 y4))
 | 0 => fun _ _ _ _ _ r h => by simp [listing_bare.j0] at h
 | k + 1 => by
  have ih0 := listing_bare.mono_l k
  ·intro y0 y1 y2 y3 y4
   unfold listing_bare.j0
   repeat' first
   | (with_reducible exact ih0 _ _ _ _ _)
   | (with_reducible exact LeO.refl _)
   | (with_reducible exact LeO.none _)
   | (with_reducible refine LeO.ite ?_ ?_)
   | (with_reducible refine LeO.bind ?_ (fun _ => ?_))
   | exact ih0 _ _ _ _ _
   | exact LeO.none _
   | refine LeO.ite ?_ ?_
   | refine LeO.bind ?_ (fun _ => ?_)
theorem listing_bare.mono : ∀ a0 a1 a2 k, LeO (listing_bare.f k a0 a1 a2) (listing_bare.f (k + 1) a0 a1 a2) := by
 intro a0 a1 a2 k
 have ih0 := listing_bare.mono_l k
 unfold listing_bare.f
 repeat' first
   | (with_reducible exact ih0 _ _ _ _ _)
   | (with_reducible exact LeO.refl _)
   | (with_reducible exact LeO.none _)
   | (with_reducible refine LeO.ite ?_ ?_)
   | (with_reducible refine LeO.bind ?_ (fun _ => ?_))
   | exact ih0 _ _ _ _ _
   | exact LeO.none _
   | refine LeO.ite ?_ ?_
   | refine LeO.bind ?_ (fun _ => ?_)
def listing_bare.T8 : Bool × List (List Nat × List Nat) := (true, [([], []), ([], []), ([0, 1], [0, 1]), ([], []), ([], []), ([], []), ([5], [5]), ([], []), ([6, 7], [6, 7]), ([4, 8], [4, 8]), ([2, 3, 9], [2, 3, 9]), ([10], [10]), ([], []), ([11, 11, 0, 1, 2, 3, 4, 5, 6, 7, 8, 9, 10, 11], [11]), ([12, 13, 0, 1, 2, 3, 4, 5, 6, 7, 8, 9, 10, 11, 12, 13], [12]), ([14, 0, 1, 2, 3, 4, 5, 6, 7, 8, 9, 10, 11, 12, 13, 14], [])])
def listing_bare.B8 : List Nat := [0, 0, 3, 0, 0, 0, 32, 0, 224, 496, 1023, 2047, 0, 4095, 16383, 32767]
theorem listing_bare.tab8 : rtab .any (opsOf Tryd.f34 8) = listing_bare.T8 := by kernel_rfl
theorem listing_bare.bits8 : waitsOk listing_bare.T8.2 listing_bare.B8 = true := by kernel_rfl
set_option maxHeartbeats 8000000 in
set_option maxRecDepth 100000 in
theorem listing_bare.calls (k : Nat) (a0 : ByteArray) (a1 : Int) (a2 : ByteArray) (r1 : ByteArray) (r2 : Int) (r3 : Bool) (w : World) (h : listing_bare.f k a0 a1 a2 = some (r1, r2, r3)) :
  Calls Tryd.prog 34 #[.string a0, .int .i64 a1, .string a2] w fun e w' => e = .returned (.tuple #[.string r1, .int .u16 r2, .bool r3]) ∧ Below w.heap.size w w' := by
 have HB := Aside0.mk (Below.refl w.heap.size w)
 have H : ((strings_IndexByte.f a0 36).bind fun t262 => (if t262 < 0 then (listing_bare.j0 k a0 a1 a2 t262 true) else (listing_bare.j0 k a0 a1 a2 t262 (decide ((a0.size : Int) < (wrap64 ((wrap64 (t262 + 1)) + a1))))))) = some (r1, r2, r3) := h
 clear h
 replace H := Option.bind_eq_some_iff.mp H
 obtain ⟨t262, A40, H⟩ := H
 replace H : (if t262 < 0 then (listing_bare.j0 k a0 a1 a2 t262 true) else (listing_bare.j0 k a0 a1 a2 t262 (decide ((a0.size : Int) < (wrap64 ((wrap64 (t262 + 1)) + a1)))))) = some (r1, r2, r3) := H
 have A4 := Aside0.mk A40
 clear A40
 have HC5 := Aside0.mk H
 clear H
 go_enter Tryd.func34, Tryd.ntmps34
 go_upto_region 2 with (first | ((with_reducible refine gate_callee (f := 58) rfl ?_); refine goesL_ (some 14) rfl rfl Tryd.func58 (by kernel_rfl) rfl #[.string a0, .int .u8 36] rfl (by (try simp only [List.map_toArray, List.map_cons, List.map_nil]); first | done | rfl | (simp only [List.length_drop, List.length_take]; rfl)) ?_; (with_reducible refine (strings_IndexByte.calls a0 36 t262 _ A4.out).mono ?_); rintro e w' ⟨rfl, ⟨nd, rfl⟩⟩; refine ⟨_, rfl, ?_⟩))
 (try simp only [Act.put, List.setIfInBounds_toArray, List.set_cons_zero, List.set_cons_succ])
 go_cut [25] (fun v25 wc => ∃ (kq : Nat) (x25_4 : Bool), v25 = .bool x25_4 ∧ Aside0 (listing_bare.j0 kq a0 a1 a2 t262 x25_4 = some (r1, r2, r3)) ∧ Aside0 (kq ≤ k) ∧ Aside0 (Below w.heap.size w wc))
 case first =>
  have H := HC5.out
  clear HC5
  by_cases c6 : t262 < 0
  ·rw [if_pos c6] at H
   have c6b0 : decide (t262 < 0) = true := decide_eq_true c6
   clear c6
   (first | rw [c6b0] | (simp only [i64_w, i32_w]; rw [c6b0]) | skip)
   have H' := Aside0.mk H
   clear H
   go_wp2
   go_meet
   case rel => exact ⟨_, (true), (by first | rfl | (simp; done) | (simp [*]; done)), H', ⟨by first | omega | exact Nat.le_refl _⟩, ⟨by repeat (first | (with_reducible first | exact HB.out | apply below_alloc | apply pw_below_drewN | apply below_drew1) | exact HB.out)⟩⟩
  ·rw [if_neg c6] at H
   have c6b0 : decide (t262 < 0) = false := decide_eq_false c6
   clear c6
   (first | rw [c6b0] | (simp only [i64_w, i32_w]; rw [c6b0]) | skip)
   have H' := Aside0.mk H
   clear H
   go_wp2
   go_meet
   case rel => exact ⟨_, (decide ((a0.size : Int) < (wrap64 ((wrap64 (t262 + 1)) + a1)))), (by first | rfl | (simp; done) | (simp [*]; done)), H', ⟨by first | omega | exact Nat.le_refl _⟩, ⟨by repeat (first | (with_reducible first | exact HB.out | apply below_alloc | apply pw_below_drewN | apply below_drew1) | exact HB.out)⟩⟩
 case rest =>
  clear HC5
  obtain ⟨kq, x25_4, rfl, HA, HJ4, HB⟩ := hcut
  cases kq with
  | zero => exact absurd HA.out (by simp [listing_bare.j0])
  | succ kj4 =>
   have H := HA.out
   clear HA
   simp only [listing_bare.j0] at H
   by_cases c7 : x25_4 = true
   ·subst c7
    rw [if_pos rfl] at H
    simp only [Option.some.injEq, Prod.mk.injEq] at H
    obtain ⟨rfl, rfl, rfl⟩ := H
    go_wp2
    go_ret3
    exact ⟨by first | rfl | (simp [errW_none, errW_some] <;> rfl) | (simp [*, errW_none, errW_some] <;> rfl), by repeat (first | (with_reducible first | exact HB.out | apply below_alloc | apply pw_below_drewN | apply below_drew1) | exact HB.out)⟩
   ·replace c7 := Bool.eq_false_iff.mpr c7
    subst c7
    have H1 : (if 0 ≤ (wrap64 (t262 + 1)) then (if (wrap64 (t262 + 1)) ≤ (wrap64 ((wrap64 (t262 + 1)) + a1)) then (if (wrap64 ((wrap64 (t262 + 1)) + a1)) ≤ (a0.size : Int) then ((word_Read.f (a0.extract ((wrap64 (t262 + 1)) : Int).toNat ((wrap64 ((wrap64 (t262 + 1)) + a1)) : Int).toNat) a1).bind fun bt263 => (if bt263.2 = 0 then ((strings_ToUpper.f (a0.extract ((wrap64 (t262 + 1)) : Int).toNat ((wrap64 ((wrap64 (t262 + 1)) + a1)) : Int).toNat)).bind fun t265 => (if t265.toList = (a0.extract ((wrap64 (t262 + 1)) : Int).toNat ((wrap64 ((wrap64 (t262 + 1)) + a1)) : Int).toNat).toList then (if 0 ≤ t262 then (if t262 ≤ (a0.size : Int) then (if 0 ≤ (wrap64 ((wrap64 (t262 + 1)) + a1)) then ((listing_join.f (([a0.extract 0 (t262 : Int).toNat, a2, a0.extract ((wrap64 ((wrap64 (t262 + 1)) + a1)) : Int).toNat a0.size] : List ByteArray))).bind fun t269 => (some (t269, bt263.1, true))) else (none)) else (none)) else (none)) else (some ((⟨#[]⟩ : ByteArray), 0, false)))) else (some ((⟨#[]⟩ : ByteArray), 0, false)))) else (none)) else (none)) else (none)) = some (r1, r2, r3) := by rw [if_neg (show ¬ (false = true) by decide)] at H; exact H
    clear H
    have H := H1
    clear H1
    obtain ⟨ji8, hji8⟩ : ∃ j_ : Int, (wrap64 (t262 + 1)) = j_ := ⟨_, rfl⟩
    replace H : (if 0 ≤ (ji8) then (if (ji8) ≤ (wrap64 ((ji8) + a1)) then (if (wrap64 ((ji8) + a1)) ≤ (a0.size : Int) then ((word_Read.f (a0.extract ((ji8) : Int).toNat ((wrap64 ((ji8) + a1)) : Int).toNat) a1).bind fun bt263 => (if bt263.2 = 0 then ((strings_ToUpper.f (a0.extract ((ji8) : Int).toNat ((wrap64 ((ji8) + a1)) : Int).toNat)).bind fun t265 => (if t265.toList = (a0.extract ((ji8) : Int).toNat ((wrap64 ((ji8) + a1)) : Int).toNat).toList then (if 0 ≤ t262 then (if t262 ≤ (a0.size : Int) then (if 0 ≤ (wrap64 ((ji8) + a1)) then ((listing_join.f (([a0.extract 0 (t262 : Int).toNat, a2, a0.extract ((wrap64 ((ji8) + a1)) : Int).toNat a0.size] : List ByteArray))).bind fun t269 => (some (t269, bt263.1, true))) else (none)) else (none)) else (none)) else (some ((⟨#[]⟩ : ByteArray), 0, false)))) else (some ((⟨#[]⟩ : ByteArray), 0, false)))) else (none)) else (none)) else (none)) = some (r1, r2, r3) := by first | (rw [hji8] at H; exact H) | (simp only [hji8] at H ⊢; exact H)
    have hji8w : (IntKind.i64.wrap (t262 + 1)) = ji8 := (i64_w _).trans hji8
    by_cases c9 : 0 ≤ (ji8)
    ·rw [if_pos c9] at H
     have c9b0 := eq_true c9
     have c9b1 : decide (0 ≤ (ji8)) = true := decide_eq_true c9
     clear c9
     by_cases c10 : (ji8) ≤ (wrap64 ((ji8) + a1))
     ·rw [if_pos c10] at H
      have c10b0 := eq_true c10
      have c10b1 : decide ((ji8) ≤ (wrap64 ((ji8) + a1))) = true := decide_eq_true c10
      by_cases c11 : (wrap64 ((ji8) + a1)) ≤ (a0.size : Int)
      ·rw [if_pos c11] at H
       have c11b0 := eq_true c11
       have c11b1 : decide ((wrap64 ((ji8) + a1)) ≤ (a0.size : Int)) = true := decide_eq_true c11
       replace H := Option.bind_eq_some_iff.mp H
       obtain ⟨⟨t263, t264⟩, A120, H⟩ := H
       replace H : (if t264 = 0 then ((strings_ToUpper.f (a0.extract ((ji8) : Int).toNat ((wrap64 ((ji8) + a1)) : Int).toNat)).bind fun t265 => (if t265.toList = (a0.extract ((ji8) : Int).toNat ((wrap64 ((ji8) + a1)) : Int).toNat).toList then (if 0 ≤ t262 then (if t262 ≤ (a0.size : Int) then (if 0 ≤ (wrap64 ((ji8) + a1)) then ((listing_join.f (([a0.extract 0 (t262 : Int).toNat, a2, a0.extract ((wrap64 ((ji8) + a1)) : Int).toNat a0.size] : List ByteArray))).bind fun t269 => (some (t269, t263, true))) else (none)) else (none)) else (none)) else (some ((⟨#[]⟩ : ByteArray), 0, false)))) else (some ((⟨#[]⟩ : ByteArray), 0, false))) = some (r1, r2, r3) := H
       have A12 := Aside0.mk A120
       clear A120
       by_cases c13 : t264 = 0
       ·rw [if_pos c13] at H
        have c13b0 : (t264 == 0) = true := beq_iff_eq.mpr c13
        have c13b1 : (t264 != 0) = false := bne_eq_false_iff_eq.mpr c13
        clear c13
        replace H := Option.bind_eq_some_iff.mp H
        obtain ⟨t265, A140, H⟩ := H
        replace H : (if t265.toList = (a0.extract ((ji8) : Int).toNat ((wrap64 ((ji8) + a1)) : Int).toNat).toList then (if 0 ≤ t262 then (if t262 ≤ (a0.size : Int) then (if 0 ≤ (wrap64 ((ji8) + a1)) then ((listing_join.f (([a0.extract 0 (t262 : Int).toNat, a2, a0.extract ((wrap64 ((ji8) + a1)) : Int).toNat a0.size] : List ByteArray))).bind fun t269 => (some (t269, t263, true))) else (none)) else (none)) else (none)) else (some ((⟨#[]⟩ : ByteArray), 0, false))) = some (r1, r2, r3) := H
        have A14 := Aside0.mk A140
        clear A140
        by_cases c15 : t265.toList = (a0.extract ((ji8) : Int).toNat ((wrap64 ((ji8) + a1)) : Int).toNat).toList
        ·rw [if_pos c15] at H
         have c15b0 : (t265.toList == (a0.extract ((ji8) : Int).toNat ((wrap64 ((ji8) + a1)) : Int).toNat).toList) = true := beq_iff_eq.mpr c15
         have c15b1 : (t265.toList != (a0.extract ((ji8) : Int).toNat ((wrap64 ((ji8) + a1)) : Int).toNat).toList) = false := bne_eq_false_iff_eq.mpr c15
         clear c15
         by_cases c16 : 0 ≤ t262
         ·rw [if_pos c16] at H
          have c16b0 := eq_true c16
          have c16b1 : decide (0 ≤ t262) = true := decide_eq_true c16
          clear c16
          by_cases c17 : t262 ≤ (a0.size : Int)
          ·rw [if_pos c17] at H
           have c17b0 := eq_true c17
           have c17b1 : decide (t262 ≤ (a0.size : Int)) = true := decide_eq_true c17
           clear c17
           obtain ⟨ji18, hji18⟩ : ∃ j_ : Int, (wrap64 ((ji8) + a1)) = j_ := ⟨_, rfl⟩
           replace H : (if 0 ≤ (ji18) then ((listing_join.f (([a0.extract 0 (t262 : Int).toNat, a2, a0.extract ((ji18) : Int).toNat a0.size] : List ByteArray))).bind fun t269 => (some (t269, t263, true))) else (none)) = some (r1, r2, r3) := by first | (rw [hji18] at H; exact H) | (simp only [hji18] at H ⊢; exact H)
           (try rw [hji18] at c10b0)
           (try rw [hji18] at c10b1)
           (try rw [hji18] at c10)
           (try rw [hji18] at c11b0)
           (try rw [hji18] at c11b1)
           (try rw [hji18] at c11)
           (try rw [hji18] at c15b0)
           (try rw [hji18] at c15b1)
           (try rw [hji18] at A12)
           (try rw [hji18] at A14)
           have hji18w : (IntKind.i64.wrap ((ji8) + a1)) = ji18 := (i64_w _).trans hji18
           by_cases c19 : 0 ≤ (ji18)
           ·rw [if_pos c19] at H
            have c19b0 := eq_true c19
            have c19b1 : decide (0 ≤ (ji18)) = true := decide_eq_true c19
            clear c19
            have c20b0 := eq_true (of_decide_eq_true (by first | (with_reducible assumption) | assumption) : (ji18) ≤ (a0.size : Int))
            obtain ⟨y266, hy266⟩ : ∃ y_ : List ByteArray, y_ = (([a0.extract 0 (t262 : Int).toNat, a2, a0.extract ((ji18) : Int).toNat a0.size] : List ByteArray)) := ⟨_, rfl⟩
            replace H : ((listing_join.f y266).bind fun t269 => (some (t269, t263, true))) = some (r1, r2, r3) := by first | (rw [hy266]; with_reducible exact H) | (have H2_ := (Option.bind_some _ _).symm.trans H; rw [hy266]; with_reducible exact H2_) | (have H2_ := (Option.bind_some _ _).symm.trans H; with_reducible exact H2_) | with_reducible exact H | (rw [hy266]; exact H) | exact H
            have Ny266 := Aside0.mk hy266
            clear hy266
            replace H := Option.bind_eq_some_iff.mp H
            obtain ⟨t269, A210, H⟩ := H
            replace H : (some (t269, t263, true)) = some (r1, r2, r3) := H
            have A21 := Aside0.mk A210
            clear A210
            simp only [Option.some.injEq, Prod.mk.injEq] at H
            obtain ⟨rfl, rfl, rfl⟩ := H
            try go_wp2_with (first | ((with_reducible refine gate_callee (f := 59) rfl ?_); refine goesL_ (some 37) rfl rfl Tryd.func59 (by kernel_rfl) rfl #[.string (a0.extract ((ji8) : Int).toNat ((ji18) : Int).toNat), .int .i64 a1] rfl (by (try simp only [List.map_toArray, List.map_cons, List.map_nil]); first | done | (simp only [hji18, hji8]; rfl) | rfl | (simp only [List.length_drop, List.length_take]; rfl)) ?_; (with_reducible refine (word_Read.calls (a0.extract ((ji8) : Int).toNat ((ji18) : Int).toNat) a1 t263 t264 _ A12.out).mono ?_); rintro e w22 ⟨rfl, hb⟩; refine ⟨_, rfl, ?_⟩; have n0_ := Aside0.mk (below_step (by repeat (first | (with_reducible first | exact HB.out | apply below_alloc | apply pw_below_drewN | apply below_drew1) | exact HB.out)) hb); clear HB; have HB := n0_; clear n0_; (try clear hb)) | (go_at_call 60; (with_reducible refine (strings_ToUpper.calls (a0.extract ((ji8) : Int).toNat ((ji18) : Int).toNat) t265 _ A14.out).mono ?_); rintro e w23 ⟨rfl, hb⟩; have n0_ := Aside0.mk (below_step (by repeat (first | (with_reducible first | exact HB.out | apply below_alloc | apply pw_below_drewN | apply below_drew1) | exact HB.out)) hb); clear HB; have HB := n0_; clear n0_; (try clear hb)))
            have n0_ := Aside0.mk (below_drew1 HB.out)
            clear HB
            have HB := n0_
            clear n0_
            refine start_ (n := 16) (S := fun w' => True) (ds := []) #[false, false, false, false, false, false, false, false, false, false, false, false, false, false, false, false] (by kernel_rfl) rfl rfl trivial (fun hHeld => ?_); refine with_tabW listing_bare.tab8 listing_bare.bits8 (fun HT_ HW_ => ?_)
            generalize w23.drew = w24 at HB hHeld ⊢
            refine pure_ (i := 0) (N := some 48) (v := ?_) (a' := ?_) #[true, false, false, false, false, false, false, false, false, false, false, false, false, false, false, false] rfl rfl (any_of HT_.out (by kernel_rfl)) (fun _ _ _ h => h) (Or.inl ⟨by rfl, ?_⟩) ?_ ?_
            rotate_left
            ·intro w'
             go_simp
             with_reducible rfl
            rotate_left
            ·simp only [Act.put, List.setIfInBounds_toArray, List.set_cons_zero, List.set_cons_succ, i64_w, i32_w]
             rfl
            refine pure_ (i := 1) (N := some 49) (v := ?_) (a' := ?_) #[true, true, false, false, false, false, false, false, false, false, false, false, false, false, false, false] rfl rfl (any_of HT_.out (by kernel_rfl)) (fun _ _ _ h => h) (Or.inl ⟨by rfl, ?_⟩) ?_ ?_
            rotate_left
            ·intro w'
             go_simp
             with_reducible rfl
            rotate_left
            ·simp only [Act.put, List.setIfInBounds_toArray, List.set_cons_zero, List.set_cons_succ, i64_w, i32_w]
             rfl
            refine pure_ (i := 2) (N := some 50) (v := ?_) (a' := ?_) #[true, true, true, false, false, false, false, false, false, false, false, false, false, false, false, false] rfl rfl (any_of HT_.out (by kernel_rfl)) (fun _ _ _ h => h) (Or.inl ⟨by rfl, ?_⟩) ?_ ?_
            rotate_left
            ·intro w'
             go_simp
             with_reducible rfl
            rotate_left
            ·simp only [Act.put, List.setIfInBounds_toArray, List.set_cons_zero, List.set_cons_succ, i64_w, i32_w]
             rfl
            refine pure_ (i := 3) (N := some 51) (v := ?_) (a' := ?_) #[true, true, true, true, false, false, false, false, false, false, false, false, false, false, false, false] rfl rfl (any_of HT_.out (by kernel_rfl)) (fun _ _ _ h => h) (Or.inl ⟨by rfl, ?_⟩) ?_ ?_
            rotate_left
            ·intro w'
             go_simp
             with_reducible rfl
            rotate_left
            ·simp only [Act.put, List.setIfInBounds_toArray, List.set_cons_zero, List.set_cons_succ, i64_w, i32_w]
             rfl
            refine pure_ (i := 4) (N := some 52) (v := ?_) (a' := ?_) #[true, true, true, true, true, false, false, false, false, false, false, false, false, false, false, false] rfl rfl (any_of HT_.out (by kernel_rfl)) (fun _ _ _ h => h) (Or.inl ⟨by rfl, ?_⟩) ?_ ?_
            rotate_left
            ·intro w'
             go_simp
             with_reducible rfl
            rotate_left
            ·simp only [Act.put, List.setIfInBounds_toArray, List.set_cons_zero, List.set_cons_succ, i64_w, i32_w]
             rfl
            refine pure_ (i := 5) (N := some 53) (v := ?_) (a' := ?_) #[true, true, true, true, true, true, false, false, false, false, false, false, false, false, false, false] rfl rfl (any_of HT_.out (by kernel_rfl)) (fun _ _ _ h => h) (Or.inl ⟨by rfl, ?_⟩) ?_ ?_
            rotate_left
            ·intro w'
             go_simp
             with_reducible rfl
            rotate_left
            ·simp only [Act.put, List.setIfInBounds_toArray, List.set_cons_zero, List.set_cons_succ, i64_w, i32_w]
             rfl
            refine pure_ (i := 6) (N := some 54) (v := ?_) (a' := ?_) #[true, true, true, true, true, true, true, false, false, false, false, false, false, false, false, false] rfl rfl (any_of HT_.out (by kernel_rfl)) (fun _ _ _ h => h) (Or.inl ⟨by rfl, ?_⟩) ?_ ?_
            rotate_left
            ·intro w'
             go_simp
             with_reducible rfl
            rotate_left
            ·simp only [Act.put, List.setIfInBounds_toArray, List.set_cons_zero, List.set_cons_succ, i64_w, i32_w]
             rfl
            refine pure_ (i := 7) (N := some 55) (v := ?_) (a' := ?_) #[true, true, true, true, true, true, true, true, false, false, false, false, false, false, false, false] rfl rfl (any_of HT_.out (by kernel_rfl)) (fun _ _ _ h => h) (Or.inl ⟨by rfl, ?_⟩) ?_ ?_
            rotate_left
            ·intro w'
             go_simp
             with_reducible rfl
            rotate_left
            ·simp only [Act.put, List.setIfInBounds_toArray, List.set_cons_zero, List.set_cons_succ, i64_w, i32_w]
             rfl
            refine pure_ (i := 8) (N := some 56) (v := ?_) (a' := ?_) #[true, true, true, true, true, true, true, true, true, false, false, false, false, false, false, false] rfl rfl (any_of HT_.out (by kernel_rfl)) (fun _ _ _ h => h) (Or.inl ⟨by rfl, ?_⟩) ?_ ?_
            rotate_left
            ·intro w'
             go_simp
             with_reducible rfl
            rotate_left
            ·simp only [Act.put, List.setIfInBounds_toArray, List.set_cons_zero, List.set_cons_succ, i64_w, i32_w]
             rfl
            refine pure_ (i := 9) (N := some 57) (v := ?_) (a' := ?_) #[true, true, true, true, true, true, true, true, true, true, false, false, false, false, false, false] rfl rfl (any_of HT_.out (by kernel_rfl)) (fun _ _ _ h => h) (Or.inl ⟨by rfl, ?_⟩) ?_ ?_
            rotate_left
            ·intro w'
             go_simp
             with_reducible rfl
            rotate_left
            ·simp only [Act.put, List.setIfInBounds_toArray, List.set_cons_zero, List.set_cons_succ, i64_w, i32_w]
             rfl
            refine pure_ (i := 12) (N := some 60) (v := ?_) (a' := ?_) #[true, true, true, true, true, true, true, true, true, true, false, false, true, false, false, false] rfl rfl (any_of HT_.out (by kernel_rfl)) (fun _ _ _ h => h) (Or.inl ⟨by rfl, ?_⟩) ?_ ?_
            rotate_left
            ·intro w'
             go_simp
             with_reducible rfl
            rotate_left
            ·simp only [Act.put, List.setIfInBounds_toArray, List.set_cons_zero, List.set_cons_succ, i64_w, i32_w]
             rfl
            refine one_ (i := 10) (N := some 58) #[true, true, true, true, true, true, true, true, true, true, true, false, true, false, false, false] rfl rfl (one_of HT_.out (by kernel_rfl)) (by decide) (fun K hK => ?_)
            refine Kd.R_lit_step Kd.string _ 9 ?hg (N := 58) ?hd (xs := ([a0.extract 0 (t262 : Int).toNat, a2, a0.extract ((ji18) : Int).toNat a0.size] : List ByteArray)) (inner := [.string (a0.extract 0 (t262 : Int).toNat), .string a2, .string (a0.extract ((ji18) : Int).toNat a0.size)]) (ok := fun _ => True) (okp := fun _ => True) ?hr ?hp (fun _ hk => hk) trivial (Below.refl _ _) (Nat.le_refl _) (by simp) ?_; (case hd => rfl); (case hg => rfl); (case hr => first | (go_simp; done) | (go_simp; rfl)); (case hp => exact (Reps.one (show Kd.M Kd.string _ _ _ (a0.extract 0 (t262 : Int).toNat) [.string (a0.extract 0 (t262 : Int).toNat)] from rfl) (Reps.one (show Kd.M Kd.string _ _ _ a2 [.string a2] from rfl) (Reps.one (show Kd.M Kd.string _ _ _ (a0.extract ((ji18) : Int).toNat a0.size) [.string (a0.extract ((ji18) : Int).toNat a0.size)] from rfl) (Reps.none _ _)))))
            intro v267 w25 ho26 hb hg_ hnew_
            clear hg_ hnew_
            (first | rw [← Ny266.out] at ho26 | (simp only [Int.reduceToNat] at ho26; rw [← Ny266.out] at ho26))
            have n0_ := Aside0.mk (Kd.R_lower ho26 (below_size (by repeat (first | (with_reducible first | exact HB.out | apply below_alloc | apply pw_below_drewN | apply below_drew1) | exact HB.out))))
            have n1_ := Aside0.mk (below_step (by repeat (first | (with_reducible first | exact HB.out | apply below_alloc | apply pw_below_drewN | apply below_drew1) | exact HB.out)) hb)
            clear HB
            have HO268 := n0_
            have HB := n1_
            clear n0_ n1_
            clear hb ho26
            obtain ⟨Ao27, co27, eo27⟩ := Kd.R_slice HO268.out
            (first | subst eo27 | (injection eo27 with f1_ f2_ f3_; have f4_ := f1_.symm; have f5_ := f3_.symm; clear f1_ f2_ f3_; subst f4_; subst f5_))
            refine hK.out _ _ trivial (fun hHeld => ?_)
            clear hK K
            refine norm_ (a' := ?_) ?_ ?_
            rotate_left
            ·show Act.put _ (some 58) _ = _
             simp only [Act.put, List.setIfInBounds_toArray, List.set_cons_zero, List.set_cons_succ, i64_w, i32_w]
             rfl
            refine one_ (i := 11) (N := some 59) #[true, true, true, true, true, true, true, true, true, true, true, true, true, false, false, false] rfl rfl (one_of HT_.out (by kernel_rfl)) (by decide) (fun K hK => ?_)
            refine goes_ Tryd.func37 (by kernel_rfl) rfl #[.slice Ao27 y266.length co27] (by rfl) rfl rfl (by (try simp only [List.map_toArray, List.map_cons, List.map_nil]); first | done | rfl | (simp only [List.length_drop, List.length_take]; rfl)) ?_
            with_reducible refine (listing_join.calls _ _ y266 t269 _ ?side1 ?side2 A21.out).mono ?_
            (case side1 => repeat (first | exact (Kd.R_reads' HO268.out).2.2 | (with_reducible refine Kd.C_alloc ?_ _) | (with_reducible refine Kd.C_drewN ?_ _) | (with_reducible refine Kd.C_drew ?_)))
            (case side2 => exact (Kd.R_reads' HO268.out).2.1)
            rintro e w28 ⟨rfl, hb⟩
            refine ⟨_, rfl, ?_⟩
            have n0_ := Aside0.mk (Kd.R_below (by (with_reducible repeat (first | apply Kd.R_alloc | apply Kd.R_drewN | apply Kd.R_drew)); exact HO268.out) hb)
            have n1_ := Aside0.mk (below_step (by repeat (first | (with_reducible first | exact HB.out | apply below_alloc | apply pw_below_drewN | apply below_drew1) | exact HB.out)) hb)
            clear HO268
            clear HB
            have HO268 := n0_
            have HB := n1_
            clear n0_ n1_
            (try clear hb)
            (try clear hb2)
            (try clear hk)
            (try clear hi)
            refine hK.out _ _ trivial (fun hHeld => ?_)
            clear hK K
            refine norm_ (a' := ?_) ?_ ?_
            rotate_left
            ·show Act.put _ (some 59) _ = _
             simp only [Act.put, List.setIfInBounds_toArray, List.set_cons_zero, List.set_cons_succ, i64_w, i32_w]
             rfl
            refine pure_ (i := 13) (N := some 6) (v := ?_) (a' := ?_) #[true, true, true, true, true, true, true, true, true, true, true, true, true, true, false, false] rfl rfl (any_of HT_.out (by kernel_rfl)) (fun _ _ _ h => h) (Or.inl ⟨by rfl, ?_⟩) ?_ ?_
            rotate_left
            ·intro w'
             go_simp
             with_reducible rfl
            rotate_left
            ·simp only [Act.put, List.setIfInBounds_toArray, List.set_cons_zero, List.set_cons_succ, i64_w, i32_w]
             rfl
            refine pure_ (i := 14) (N := some 7) (v := ?_) (a' := ?_) #[true, true, true, true, true, true, true, true, true, true, true, true, true, true, true, false] rfl rfl (any_of HT_.out (by kernel_rfl)) (fun _ _ _ h => h) (Or.inl ⟨by rfl, ?_⟩) ?_ ?_
            rotate_left
            ·intro w'
             go_simp
             with_reducible rfl
            rotate_left
            ·simp only [Act.put, List.setIfInBounds_toArray, List.set_cons_zero, List.set_cons_succ, i64_w, i32_w]
             rfl
            refine pure_ (i := 15) (N := some 8) (v := ?_) (a' := ?_) #[true, true, true, true, true, true, true, true, true, true, true, true, true, true, true, true] rfl rfl (any_of HT_.out (by kernel_rfl)) (fun _ _ _ h => h) (Or.inl ⟨by rfl, ?_⟩) ?_ ?_
            rotate_left
            ·intro w'
             go_simp
             with_reducible rfl
            rotate_left
            ·simp only [Act.put, List.setIfInBounds_toArray, List.set_cons_zero, List.set_cons_succ, i64_w, i32_w]
             rfl
            refine done_ (done_of HT_.out (by kernel_rfl)) ?_
            try go_wp2
            go_ret3
            exact ⟨by first | rfl | (simp [errW_none, errW_some] <;> rfl) | (simp only [← hji8, ← hji18]; first | rfl | (simp [errW_none, errW_some] <;> rfl)) | (simp [*, errW_none, errW_some] <;> rfl), by repeat (first | (with_reducible first | exact HB.out | apply below_alloc | apply pw_below_drewN | apply below_drew1) | exact HB.out)⟩
           ·rw [if_neg c19] at H
            exact absurd H (by simp)
          ·rw [if_neg c17] at H
           exact absurd H (by simp)
         ·rw [if_neg c16] at H
          exact absurd H (by simp)
        ·rw [if_neg c15] at H
         have c15b0 : (t265.toList == (a0.extract ((ji8) : Int).toNat ((wrap64 ((ji8) + a1)) : Int).toNat).toList) = false := beq_eq_false_iff_ne.mpr c15
         have c15b1 : (t265.toList != (a0.extract ((ji8) : Int).toNat ((wrap64 ((ji8) + a1)) : Int).toNat).toList) = true := bne_iff_ne.mpr c15
         simp only [Option.some.injEq, Prod.mk.injEq] at H
         obtain ⟨rfl, rfl, rfl⟩ := H
         go_wp2_with (first | ((with_reducible refine gate_callee (f := 59) rfl ?_); refine goesL_ (some 37) rfl rfl Tryd.func59 (by kernel_rfl) rfl #[.string (a0.extract ((ji8) : Int).toNat ((wrap64 ((ji8) + a1)) : Int).toNat), .int .i64 a1] rfl (by (try simp only [List.map_toArray, List.map_cons, List.map_nil]); first | done | (simp only [hji8]; rfl) | rfl | (simp only [List.length_drop, List.length_take]; rfl)) ?_; (with_reducible refine (word_Read.calls (a0.extract ((ji8) : Int).toNat ((wrap64 ((ji8) + a1)) : Int).toNat) a1 t263 t264 _ A12.out).mono ?_); rintro e w29 ⟨rfl, hb⟩; refine ⟨_, rfl, ?_⟩; have n0_ := Aside0.mk (below_step (by repeat (first | (with_reducible first | exact HB.out | apply below_alloc | apply pw_below_drewN | apply below_drew1) | exact HB.out)) hb); clear HB; have HB := n0_; clear n0_; (try clear hb)) | (go_at_call 60; (with_reducible refine (strings_ToUpper.calls (a0.extract ((ji8) : Int).toNat ((wrap64 ((ji8) + a1)) : Int).toNat) t265 _ A14.out).mono ?_); rintro e w30 ⟨rfl, hb⟩; have n0_ := Aside0.mk (below_step (by repeat (first | (with_reducible first | exact HB.out | apply below_alloc | apply pw_below_drewN | apply below_drew1) | exact HB.out)) hb); clear HB; have HB := n0_; clear n0_; (try clear hb)))
         go_ret3
         exact ⟨by first | rfl | (simp [errW_none, errW_some] <;> rfl) | (simp only [← hji8]; first | rfl | (simp [errW_none, errW_some] <;> rfl)) | (simp [*, errW_none, errW_some] <;> rfl), by repeat (first | (with_reducible first | exact HB.out | apply below_alloc | apply pw_below_drewN | apply below_drew1) | exact HB.out)⟩
       ·rw [if_neg c13] at H
        have c13b0 : (t264 == 0) = false := beq_eq_false_iff_ne.mpr c13
        have c13b1 : (t264 != 0) = true := bne_iff_ne.mpr c13
        simp only [Option.some.injEq, Prod.mk.injEq] at H
        obtain ⟨rfl, rfl, rfl⟩ := H
        go_wp2_with (first | ((with_reducible refine gate_callee (f := 59) rfl ?_); refine goesL_ (some 37) rfl rfl Tryd.func59 (by kernel_rfl) rfl #[.string (a0.extract ((ji8) : Int).toNat ((wrap64 ((ji8) + a1)) : Int).toNat), .int .i64 a1] rfl (by (try simp only [List.map_toArray, List.map_cons, List.map_nil]); first | done | (simp only [hji8]; rfl) | rfl | (simp only [List.length_drop, List.length_take]; rfl)) ?_; (with_reducible refine (word_Read.calls (a0.extract ((ji8) : Int).toNat ((wrap64 ((ji8) + a1)) : Int).toNat) a1 t263 t264 _ A12.out).mono ?_); rintro e w31 ⟨rfl, hb⟩; refine ⟨_, rfl, ?_⟩; have n0_ := Aside0.mk (below_step (by repeat (first | (with_reducible first | exact HB.out | apply below_alloc | apply pw_below_drewN | apply below_drew1) | exact HB.out)) hb); clear HB; have HB := n0_; clear n0_; (try clear hb)))
        go_ret3
        exact ⟨by first | rfl | (simp [errW_none, errW_some] <;> rfl) | (simp only [← hji8]; first | rfl | (simp [errW_none, errW_some] <;> rfl)) | (simp [*, errW_none, errW_some] <;> rfl), by repeat (first | (with_reducible first | exact HB.out | apply below_alloc | apply pw_below_drewN | apply below_drew1) | exact HB.out)⟩
      ·rw [if_neg c11] at H
       exact absurd H (by simp)
     ·rw [if_neg c10] at H
      exact absurd H (by simp)
    ·rw [if_neg c9] at H
     exact absurd H (by simp)

end Go.Proofs.YtpjbfpheenamiaaDoor.PF
-- PRINTED by print.py (a twelfth state) out of the translation. Not trusted: Lean checks it.
namespace Go.Proofs.YtpjbfpheenamiaaDoor.PF
open Go.RowKit Go.Proofs.YtpjbfpheenamiaaDoorW.PrintWords Go.Proofs.YtpjbfpheenamiaaDoorW.PrintLast Go.Proofs.YtpjbfpheenamiaaDoorW.PrintMore
attribute [local go_sem] max2_int min2_int max_two min_two max_three min_three max_four min_four   -- for this text's walks alone
set_option linter.unusedVariables false
set_option linter.unusedSimpArgs false

/-! ### word_Split: function 35 -/
def word_Split.f (a0 : Int) : Option (Int × Int) := some ((a0 / 256) % 256, (a0) % 256)
set_option maxHeartbeats 8000000 in
set_option maxRecDepth 100000 in
theorem word_Split.calls (a0 : Int) (r1 : Int) (r2 : Int) (w : World) (h : word_Split.f a0 = some (r1, r2)) :
  Calls Tryd.prog 35 #[.int .u16 a0] w fun e w' => e = .returned (.tuple #[.int .u8 r1, .int .u8 r2]) ∧ Drawn0 w w' := by
 have H : (some ((a0 / 256) % 256, (a0) % 256)) = some (r1, r2) := h
 clear h
 simp only [Option.some.injEq, Prod.mk.injEq] at H
 obtain ⟨rfl, rfl⟩ := H
 go_enter Tryd.func35, Tryd.ntmps35
 go_wp2
 go_ret2
 exact ⟨by first | rfl | (simp; done) | (simp [*]; done), by repeat (first | exact Drawn0.refl _ | apply Drawn0.step)⟩

end Go.Proofs.YtpjbfpheenamiaaDoor.PF
