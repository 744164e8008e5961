/- Texts of this claim, put together: GOpc. -/
import Derived.Test.YtpjbfpheenamiaaDoorB8
import Derived.Test.YtpjbfpheenamiaaDoorB9
import Derived.Laws.BitsLemmas
import Derived.KernelRfl
/- The contracts of opcode.mixed, opcode.last and opcode.DecodeCB: each answers its form; condition: the numbers lie in 0 to 7, the opcode in 0 to 255. -/
namespace Go.Proofs.YtpjbfpheenamiaaDoor.PF
open Go.RowKit Go.Proofs.YtpjbfpheenamiaaDoorW.PrintWords
set_option linter.unusedVariables false
set_option linter.unusedSimpArgs false
def mixedT : List (Int × Int × Int × Int × Int × Int) := [(0, 0, 0, 1, 1, 1), (17, 0, 0, 3, 3, 3), (10, 0, 0, 1, 2, 2), (27, 0, 0, 1, 2, 2), (25, 0, 0, 1, 1, 1), (26, 0, 0, 1, 1, 1), (8, 0, 0, 2, 2, 2), (31, 0, 0, 1, 1, 1), (18, 0, 0, 3, 5, 5), (29, 0, 0, 1, 2, 2), (9, 0, 0, 1, 2, 2), (28, 0, 0, 1, 2, 2), (25, 1, 0, 1, 1, 1), (26, 1, 0, 1, 1, 1), (8, 1, 0, 2, 2, 2), (31, 1, 0, 1, 1, 1), (1, 0, 0, 2, 2, 2), (17, 1, 0, 3, 3, 3), (10, 1, 0, 1, 2, 2), (27, 1, 0, 1, 2, 2), (25, 2, 0, 1, 1, 1), (26, 2, 0, 1, 1, 1), (8, 2, 0, 2, 2, 2), (31, 2, 0, 1, 1, 1), (36, 4, 0, 2, 3, 3), (29, 1, 0, 1, 2, 2), (9, 1, 0, 1, 2, 2), (28, 1, 0, 1, 2, 2), (25, 3, 0, 1, 1, 1), (26, 3, 0, 1, 1, 1), (8, 3, 0, 2, 2, 2), (31, 3, 0, 1, 1, 1), (36, 0, 0, 2, 2, 3), (17, 2, 0, 3, 3, 3), (10, 2, 0, 1, 2, 2), (27, 2, 0, 1, 2, 2), (25, 4, 0, 1, 1, 1), (26, 4, 0, 1, 1, 1), (8, 4, 0, 2, 2, 2), (32, 0, 0, 1, 1, 1), (36, 1, 0, 2, 2, 3), (29, 2, 0, 1, 2, 2), (9, 2, 0, 1, 2, 2), (28, 2, 0, 1, 2, 2), (25, 5, 0, 1, 1, 1), (26, 5, 0, 1, 1, 1), (8, 5, 0, 2, 2, 2), (33, 0, 0, 1, 1, 1), (36, 2, 0, 2, 2, 3), (17, 3, 0, 3, 3, 3), (10, 3, 0, 1, 2, 2), (27, 3, 0, 1, 2, 2), (25, 6, 0, 1, 3, 3), (26, 6, 0, 1, 3, 3), (8, 6, 0, 2, 3, 3), (34, 0, 0, 1, 1, 1), (36, 3, 0, 2, 2, 3), (29, 3, 0, 1, 2, 2), (9, 3, 0, 1, 2, 2), (28, 3, 0, 1, 2, 2), (25, 7, 0, 1, 1, 1), (26, 7, 0, 1, 1, 1), (8, 7, 0, 2, 2, 2), (35, 0, 0, 1, 1, 1)]
def opcode_mixed.f (a0 a1 : Int) : Option (Int × Int × Int × Int × Int × Int) := if 0 ≤ a0 ∧ a0 ≤ 7 ∧ 0 ≤ a1 ∧ a1 ≤ 7 then mixedT[a0.toNat * 8 + a1.toNat]? else none
theorem opcode_mixed.calls (a0 a1 r1 r2 r3 r4 r5 r6 : Int) (w : World) (h : opcode_mixed.f a0 a1 = some (r1, r2, r3, r4, r5, r6)) :
    Calls Tryd.prog 53 #[.int .i64 a0, .int .i64 a1] w fun e w' => e = .returned (.agg #[.int .i64 r1, .int .i64 r2, .int .i64 r3, .int .i64 r4, .int .i64 r5, .int .i64 r6]) ∧ Below w.heap.size w w' := by
  unfold opcode_mixed.f at h
  split at h
  case isFalse => cases h
  case isTrue hr =>
    obtain ⟨y, rfl⟩ := Int.eq_ofNat_of_zero_le hr.1
    obtain ⟨z, rfl⟩ := Int.eq_ofNat_of_zero_le hr.2.2.1
    simp only [Int.toNat_natCast] at h
    have hy : y ≤ 7 := by omega
    have hz : z ≤ 7 := by omega
    clear hr
    rcases y with _ | _ | _ | _ | _ | _ | _ | _ | y
    · rcases z with _ | _ | _ | _ | _ | _ | _ | _ | z
      · cases h; exact (mixed_row0 w).1
      · cases h; exact (mixed_row0 w).2.1
      · cases h; exact (mixed_row0 w).2.2.1
      · cases h; exact (mixed_row0 w).2.2.2.1
      · cases h; exact (mixed_row0 w).2.2.2.2.1
      · cases h; exact (mixed_row0 w).2.2.2.2.2.1
      · cases h; exact (mixed_row0 w).2.2.2.2.2.2.1
      · cases h; exact (mixed_row0 w).2.2.2.2.2.2.2
      · omega
    · rcases z with _ | _ | _ | _ | _ | _ | _ | _ | z
      · cases h; exact (mixed_row1 w).1
      · cases h; exact (mixed_row1 w).2.1
      · cases h; exact (mixed_row1 w).2.2.1
      · cases h; exact (mixed_row1 w).2.2.2.1
      · cases h; exact (mixed_row1 w).2.2.2.2.1
      · cases h; exact (mixed_row1 w).2.2.2.2.2.1
      · cases h; exact (mixed_row1 w).2.2.2.2.2.2.1
      · cases h; exact (mixed_row1 w).2.2.2.2.2.2.2
      · omega
    · rcases z with _ | _ | _ | _ | _ | _ | _ | _ | z
      · cases h; exact (mixed_row2 w).1
      · cases h; exact (mixed_row2 w).2.1
      · cases h; exact (mixed_row2 w).2.2.1
      · cases h; exact (mixed_row2 w).2.2.2.1
      · cases h; exact (mixed_row2 w).2.2.2.2.1
      · cases h; exact (mixed_row2 w).2.2.2.2.2.1
      · cases h; exact (mixed_row2 w).2.2.2.2.2.2.1
      · cases h; exact (mixed_row2 w).2.2.2.2.2.2.2
      · omega
    · rcases z with _ | _ | _ | _ | _ | _ | _ | _ | z
      · cases h; exact (mixed_row3 w).1
      · cases h; exact (mixed_row3 w).2.1
      · cases h; exact (mixed_row3 w).2.2.1
      · cases h; exact (mixed_row3 w).2.2.2.1
      · cases h; exact (mixed_row3 w).2.2.2.2.1
      · cases h; exact (mixed_row3 w).2.2.2.2.2.1
      · cases h; exact (mixed_row3 w).2.2.2.2.2.2.1
      · cases h; exact (mixed_row3 w).2.2.2.2.2.2.2
      · omega
    · rcases z with _ | _ | _ | _ | _ | _ | _ | _ | z
      · cases h; exact (mixed_row4 w).1
      · cases h; exact (mixed_row4 w).2.1
      · cases h; exact (mixed_row4 w).2.2.1
      · cases h; exact (mixed_row4 w).2.2.2.1
      · cases h; exact (mixed_row4 w).2.2.2.2.1
      · cases h; exact (mixed_row4 w).2.2.2.2.2.1
      · cases h; exact (mixed_row4 w).2.2.2.2.2.2.1
      · cases h; exact (mixed_row4 w).2.2.2.2.2.2.2
      · omega
    · rcases z with _ | _ | _ | _ | _ | _ | _ | _ | z
      · cases h; exact (mixed_row5 w).1
      · cases h; exact (mixed_row5 w).2.1
      · cases h; exact (mixed_row5 w).2.2.1
      · cases h; exact (mixed_row5 w).2.2.2.1
      · cases h; exact (mixed_row5 w).2.2.2.2.1
      · cases h; exact (mixed_row5 w).2.2.2.2.2.1
      · cases h; exact (mixed_row5 w).2.2.2.2.2.2.1
      · cases h; exact (mixed_row5 w).2.2.2.2.2.2.2
      · omega
    · rcases z with _ | _ | _ | _ | _ | _ | _ | _ | z
      · cases h; exact (mixed_row6 w).1
      · cases h; exact (mixed_row6 w).2.1
      · cases h; exact (mixed_row6 w).2.2.1
      · cases h; exact (mixed_row6 w).2.2.2.1
      · cases h; exact (mixed_row6 w).2.2.2.2.1
      · cases h; exact (mixed_row6 w).2.2.2.2.2.1
      · cases h; exact (mixed_row6 w).2.2.2.2.2.2.1
      · cases h; exact (mixed_row6 w).2.2.2.2.2.2.2
      · omega
    · rcases z with _ | _ | _ | _ | _ | _ | _ | _ | z
      · cases h; exact (mixed_row7 w).1
      · cases h; exact (mixed_row7 w).2.1
      · cases h; exact (mixed_row7 w).2.2.1
      · cases h; exact (mixed_row7 w).2.2.2.1
      · cases h; exact (mixed_row7 w).2.2.2.2.1
      · cases h; exact (mixed_row7 w).2.2.2.2.2.1
      · cases h; exact (mixed_row7 w).2.2.2.2.2.2.1
      · cases h; exact (mixed_row7 w).2.2.2.2.2.2.2
      · omega
    · omega
def lastT : List (Int × Int × Int × Int × Int × Int) := [(40, 0, 0, 1, 2, 5), (22, 0, 0, 1, 3, 3), (37, 0, 0, 3, 3, 4), (37, 4, 0, 3, 4, 4), (39, 0, 0, 3, 3, 6), (21, 0, 0, 1, 4, 4), (24, 0, 0, 2, 2, 2), (42, 0, 0, 1, 4, 4), (40, 1, 0, 1, 2, 5), (40, 4, 0, 1, 4, 4), (37, 1, 0, 3, 3, 4), (6, 0, 0, 1, 1, 1), (39, 1, 0, 3, 3, 6), (39, 4, 0, 3, 6, 6), (24, 1, 0, 2, 2, 2), (42, 1, 0, 1, 4, 4), (40, 2, 0, 1, 2, 5), (22, 1, 0, 1, 3, 3), (37, 2, 0, 3, 3, 4), (5, 0, 0, 1, 1, 1), (39, 2, 0, 3, 3, 6), (21, 1, 0, 1, 4, 4), (24, 2, 0, 2, 2, 2), (42, 2, 0, 1, 4, 4), (40, 3, 0, 1, 2, 5), (41, 0, 0, 1, 4, 4), (37, 3, 0, 3, 3, 4), (5, 0, 0, 1, 1, 1), (39, 3, 0, 3, 3, 6), (5, 0, 0, 1, 1, 1), (24, 3, 0, 2, 2, 2), (42, 3, 0, 1, 4, 4), (12, 0, 0, 2, 3, 3), (22, 2, 0, 1, 3, 3), (14, 0, 0, 1, 2, 2), (5, 0, 0, 1, 1, 1), (5, 0, 0, 1, 1, 1), (21, 2, 0, 1, 4, 4), (24, 4, 0, 2, 2, 2), (42, 4, 0, 1, 4, 4), (30, 0, 0, 2, 4, 4), (38, 0, 0, 1, 1, 1), (16, 0, 0, 3, 4, 4), (5, 0, 0, 1, 1, 1), (5, 0, 0, 1, 1, 1), (5, 0, 0, 1, 1, 1), (24, 5, 0, 2, 2, 2), (42, 5, 0, 1, 4, 4), (11, 0, 0, 2, 3, 3), (22, 4, 0, 1, 3, 3), (13, 0, 0, 1, 2, 2), (3, 0, 0, 1, 1, 1), (5, 0, 0, 1, 1, 1), (21, 4, 0, 1, 4, 4), (24, 6, 0, 2, 2, 2), (42, 6, 0, 1, 4, 4), (20, 0, 0, 2, 3, 3), (19, 0, 0, 1, 2, 2), (15, 0, 0, 3, 4, 4), (4, 0, 0, 1, 1, 1), (5, 0, 0, 1, 1, 1), (5, 0, 0, 1, 1, 1), (24, 7, 0, 2, 2, 2), (42, 7, 0, 1, 4, 4)]
def opcode_last.f (a0 a1 : Int) : Option (Int × Int × Int × Int × Int × Int) := if 0 ≤ a0 ∧ a0 ≤ 7 ∧ 0 ≤ a1 ∧ a1 ≤ 7 then lastT[a0.toNat * 8 + a1.toNat]? else none
theorem opcode_last.calls (a0 a1 r1 r2 r3 r4 r5 r6 : Int) (w : World) (h : opcode_last.f a0 a1 = some (r1, r2, r3, r4, r5, r6)) :
    Calls Tryd.prog 56 #[.int .i64 a0, .int .i64 a1] w fun e w' => e = .returned (.agg #[.int .i64 r1, .int .i64 r2, .int .i64 r3, .int .i64 r4, .int .i64 r5, .int .i64 r6]) ∧ Below w.heap.size w w' := by
  unfold opcode_last.f at h
  split at h
  case isFalse => cases h
  case isTrue hr =>
    obtain ⟨y, rfl⟩ := Int.eq_ofNat_of_zero_le hr.1
    obtain ⟨z, rfl⟩ := Int.eq_ofNat_of_zero_le hr.2.2.1
    simp only [Int.toNat_natCast] at h
    have hy : y ≤ 7 := by omega
    have hz : z ≤ 7 := by omega
    clear hr
    rcases y with _ | _ | _ | _ | _ | _ | _ | _ | y
    · rcases z with _ | _ | _ | _ | _ | _ | _ | _ | z
      · cases h; exact (last_row0 w).1
      · cases h; exact (last_row0 w).2.1
      · cases h; exact (last_row0 w).2.2.1
      · cases h; exact last_0_3 w
      · cases h; exact (last_row0 w).2.2.2.1
      · cases h; exact (last_row0 w).2.2.2.2.1
      · cases h; exact (last_row0 w).2.2.2.2.2.1
      · cases h; exact (last_row0 w).2.2.2.2.2.2
      · omega
    · rcases z with _ | _ | _ | _ | _ | _ | _ | _ | z
      · cases h; exact (last_row1 w).1
      · cases h; exact (last_row1 w).2.1
      · cases h; exact (last_row1 w).2.2.1
      · cases h; exact last_1_3 w
      · cases h; exact (last_row1 w).2.2.2.1
      · cases h; exact (last_row1 w).2.2.2.2.1
      · cases h; exact (last_row1 w).2.2.2.2.2.1
      · cases h; exact (last_row1 w).2.2.2.2.2.2
      · omega
    · rcases z with _ | _ | _ | _ | _ | _ | _ | _ | z
      · cases h; exact (last_row2 w).1
      · cases h; exact (last_row2 w).2.1
      · cases h; exact (last_row2 w).2.2.1
      · cases h; exact last_2_3 w
      · cases h; exact (last_row2 w).2.2.2.1
      · cases h; exact (last_row2 w).2.2.2.2.1
      · cases h; exact (last_row2 w).2.2.2.2.2.1
      · cases h; exact (last_row2 w).2.2.2.2.2.2
      · omega
    · rcases z with _ | _ | _ | _ | _ | _ | _ | _ | z
      · cases h; exact (last_row3 w).1
      · cases h; exact (last_row3 w).2.1
      · cases h; exact (last_row3 w).2.2.1
      · cases h; exact last_3_3 w
      · cases h; exact (last_row3 w).2.2.2.1
      · cases h; exact (last_row3 w).2.2.2.2.1
      · cases h; exact (last_row3 w).2.2.2.2.2.1
      · cases h; exact (last_row3 w).2.2.2.2.2.2
      · omega
    · rcases z with _ | _ | _ | _ | _ | _ | _ | _ | z
      · cases h; exact (last_row4 w).1
      · cases h; exact (last_row4 w).2.1
      · cases h; exact (last_row4 w).2.2.1
      · cases h; exact last_4_3 w
      · cases h; exact (last_row4 w).2.2.2.1
      · cases h; exact (last_row4 w).2.2.2.2.1
      · cases h; exact (last_row4 w).2.2.2.2.2.1
      · cases h; exact (last_row4 w).2.2.2.2.2.2
      · omega
    · rcases z with _ | _ | _ | _ | _ | _ | _ | _ | z
      · cases h; exact (last_row5 w).1
      · cases h; exact (last_row5 w).2.1
      · cases h; exact (last_row5 w).2.2.1
      · cases h; exact last_5_3 w
      · cases h; exact (last_row5 w).2.2.2.1
      · cases h; exact (last_row5 w).2.2.2.2.1
      · cases h; exact (last_row5 w).2.2.2.2.2.1
      · cases h; exact (last_row5 w).2.2.2.2.2.2
      · omega
    · rcases z with _ | _ | _ | _ | _ | _ | _ | _ | z
      · cases h; exact (last_row6 w).1
      · cases h; exact (last_row6 w).2.1
      · cases h; exact (last_row6 w).2.2.1
      · cases h; exact last_6_3 w
      · cases h; exact (last_row6 w).2.2.2.1
      · cases h; exact (last_row6 w).2.2.2.2.1
      · cases h; exact (last_row6 w).2.2.2.2.2.1
      · cases h; exact (last_row6 w).2.2.2.2.2.2
      · omega
    · rcases z with _ | _ | _ | _ | _ | _ | _ | _ | z
      · cases h; exact (last_row7 w).1
      · cases h; exact (last_row7 w).2.1
      · cases h; exact (last_row7 w).2.2.1
      · cases h; exact last_7_3 w
      · cases h; exact (last_row7 w).2.2.2.1
      · cases h; exact (last_row7 w).2.2.2.2.1
      · cases h; exact (last_row7 w).2.2.2.2.2.1
      · cases h; exact (last_row7 w).2.2.2.2.2.2
      · omega
    · omega
def cbCyc (a0 : Int) : Int := if a0 % 8 = 6 then (if a0 / 64 = 1 then 3 else 4) else 2
def opcode_DecodeCB.f (a0 : Int) : Option (Int × Int × Int × Int × Int × Int) := if 0 ≤ a0 ∧ a0 ≤ 255 then some (43 + a0 / 64, a0 / 8 % 8, a0 % 8, 2, cbCyc a0, cbCyc a0) else none
theorem u8_and7 (x : Int) (h0 : 0 ≤ x) (h1 : x < 256) : Go.bits .and .u8 x 7 = x % 8 := bits_mask .u8 8 (by decide) wraps_u8 3 (by decide) x h0 h1
set_option maxHeartbeats 2000000 in
theorem opcode_DecodeCB.calls (a0 r1 r2 r3 r4 r5 r6 : Int) (w : World) (h : opcode_DecodeCB.f a0 = some (r1, r2, r3, r4, r5, r6)) :
    Calls Tryd.prog 31 #[.int .u8 a0] w fun e w' => e = .returned (.agg #[.int .i64 r1, .int .i64 r2, .int .i64 r3, .int .i64 r4, .int .i64 r5, .int .i64 r6]) ∧ Below w.heap.size w w' := by
  unfold opcode_DecodeCB.f at h
  split at h
  case isFalse => cases h
  case isTrue hr =>
    obtain ⟨hr0, hr1⟩ := hr
    simp only [Option.some.injEq, Prod.mk.injEq] at h
    obtain ⟨e1, e2, e3, e4, e5, e6⟩ := h
    have q1 : Go.bits .and .u8 (a0 / 8) 7 = a0 / 8 % 8 := u8_and7 _ (by omega) (by omega)
    have q2 : Go.bits .and .u8 a0 7 = a0 % 8 := u8_and7 _ (by omega) (by omega)
    have E : Hid (43 + a0 / 64 = r1 ∧ a0 / 8 % 8 = r2 ∧ a0 % 8 = r3 ∧ 2 = r4 ∧ cbCyc a0 = r5 ∧ cbCyc a0 = r6) := ⟨e1, e2, e3, e4, e5, e6⟩
    clear e1 e2 e3 e4 e5 e6
    have hi : ∀ (n k : Int), (n = 0 ∧ k = 43) ∨ (n = 1 ∧ k = 44) ∨ (n = 2 ∧ k = 45) ∨ (n = 3 ∧ k = 46) → ∀ w, (Instr.index 71 (.agg #[.int .i64 43, .int .i64 44, .int .i64 45, .int .i64 46]) (.int .u8 n)).run Tryd.prog w = .ok (.int .i64 k) w := by
      intro n k hk w
      rcases hk with ⟨rfl, rfl⟩ | ⟨rfl, rfl⟩ | ⟨rfl, rfl⟩ | ⟨rfl, rfl⟩ <;> kernel_rfl
    obtain ⟨k, hk⟩ : ∃ k, k = 43 + a0 / 64 := ⟨_, rfl⟩
    have hik := hi (a0 / 64) k (by omega)
    have HK : Hid (k = 43 + a0 / 64) := hk
    clear hi hk
    generalize hy : a0 / 8 % 8 = y at q1 E
    generalize hz : a0 % 8 = z at q2 E
    have HY : Hid (a0 / 8 % 8 = y ∧ a0 % 8 = z) := ⟨hy, hz⟩
    have y0 : 0 ≤ y ∧ y ≤ 7 := by omega
    have z0 : 0 ≤ z ∧ z ≤ 7 := by omega
    have k0 : 43 ≤ k ∧ k ≤ 46 := by have := HK.out; omega
    have wy : wrap64 y = y := by unfold wrap64; omega
    have wz : wrap64 z = z := by unfold wrap64; omega
    clear hy hz
    by_cases z6 : z = 6
    · have s1 : (z == 6) = true := by rw [beq_iff_eq]; exact z6
      have Z6 : Hid (z = 6) := z6
      clear z6
      by_cases k44 : k = 44
      · have s2 : (k == 44) = true := by rw [beq_iff_eq]; exact k44
        have K44 : Hid (k = 44) := k44
        clear k44
        go_enter Tryd.func31, Tryd.ntmps31
        go_wp2_with (first | (go_at_call 54; refine (form_exact _ _ _ _ _ _).mono ?_; rintro e w' ⟨rfl, rfl⟩) | (go_at_call 55; rw [Z6.out]; refine (if6_six _ _ _).mono ?_; rw [← Z6.out]; rintro e w' ⟨rfl, rfl⟩))
        (try simp only [Exit.inBlock, Exit.then])
        refine bodyPost_ret (v := .agg #[.int .i64 k, .int .i64 y, .int .i64 z, .int .i64 2, .int .i64 3, .int .i64 3]) (by simp [results, Tryd.results31, go_sem]) rfl ?_
        refine ⟨?_, ?_⟩
        · obtain ⟨e1, e2, e3, e4, e5, e6⟩ := E.out
          have := HK.out; have := K44.out; have := Z6.out; have := HY.out
          rw [← e1, ← e2, ← e3, ← e4, ← e5, ← e6, ← HK.out, cbCyc, if_pos (by omega), if_pos (by omega)]
        · repeat (first | exact Below.refl _ _ | refine below_alloc ?_ _ | refine pw_below_drewN ?_ _ | refine below_drew ?_)
      · have s2 : (k == 44) = false := by rw [beq_eq_false_iff_ne]; exact k44
        have K44 : Hid (¬ k = 44) := k44
        clear k44
        go_enter Tryd.func31, Tryd.ntmps31
        go_wp2_with (first | (go_at_call 54; refine (form_exact _ _ _ _ _ _).mono ?_; rintro e w' ⟨rfl, rfl⟩) | (go_at_call 55; rw [Z6.out]; refine (if6_six _ _ _).mono ?_; rw [← Z6.out]; rintro e w' ⟨rfl, rfl⟩))
        (try simp only [Exit.inBlock, Exit.then])
        refine bodyPost_ret (v := .agg #[.int .i64 k, .int .i64 y, .int .i64 z, .int .i64 2, .int .i64 4, .int .i64 4]) (by simp [results, Tryd.results31, go_sem]) rfl ?_
        refine ⟨?_, ?_⟩
        · obtain ⟨e1, e2, e3, e4, e5, e6⟩ := E.out
          have := HK.out; have := K44.out; have := Z6.out; have := HY.out
          rw [← e1, ← e2, ← e3, ← e4, ← e5, ← e6, ← HK.out, cbCyc, if_pos (by omega), if_neg (by omega)]
        · repeat (first | exact Below.refl _ _ | refine below_alloc ?_ _ | refine pw_below_drewN ?_ _ | refine below_drew ?_)
    · have s1 : (z == 6) = false := by rw [beq_eq_false_iff_ne]; exact z6
      have Z6 : Hid (¬ z = 6) := z6
      clear z6
      by_cases k44 : k = 44
      · have s2 : (k == 44) = true := by rw [beq_iff_eq]; exact k44
        have K44 : Hid (k = 44) := k44
        clear k44
        go_enter Tryd.func31, Tryd.ntmps31
        go_wp2_with (first | (go_at_call 54; refine (form_exact _ _ _ _ _ _).mono ?_; rintro e w' ⟨rfl, rfl⟩) | (go_at_call 55; refine (if6_other _ _ _ _ s1).mono ?_; rintro e w' ⟨rfl, rfl⟩))
        (try simp only [Exit.inBlock, Exit.then])
        refine bodyPost_ret (v := .agg #[.int .i64 k, .int .i64 y, .int .i64 z, .int .i64 2, .int .i64 2, .int .i64 2]) (by simp [results, Tryd.results31, go_sem]) rfl ?_
        refine ⟨?_, ?_⟩
        · obtain ⟨e1, e2, e3, e4, e5, e6⟩ := E.out
          have := HK.out; have := Z6.out; have := HY.out
          rw [← e1, ← e2, ← e3, ← e4, ← e5, ← e6, ← HK.out, cbCyc, if_neg (by omega)]
        · repeat (first | exact Below.refl _ _ | refine below_alloc ?_ _ | refine pw_below_drewN ?_ _ | refine below_drew ?_)
      · have s2 : (k == 44) = false := by rw [beq_eq_false_iff_ne]; exact k44
        have K44 : Hid (¬ k = 44) := k44
        clear k44
        go_enter Tryd.func31, Tryd.ntmps31
        go_wp2_with (first | (go_at_call 54; refine (form_exact _ _ _ _ _ _).mono ?_; rintro e w' ⟨rfl, rfl⟩) | (go_at_call 55; refine (if6_other _ _ _ _ s1).mono ?_; rintro e w' ⟨rfl, rfl⟩))
        (try simp only [Exit.inBlock, Exit.then])
        refine bodyPost_ret (v := .agg #[.int .i64 k, .int .i64 y, .int .i64 z, .int .i64 2, .int .i64 2, .int .i64 2]) (by simp [results, Tryd.results31, go_sem]) rfl ?_
        refine ⟨?_, ?_⟩
        · obtain ⟨e1, e2, e3, e4, e5, e6⟩ := E.out
          have := HK.out; have := Z6.out; have := HY.out
          rw [← e1, ← e2, ← e3, ← e4, ← e5, ← e6, ← HK.out, cbCyc, if_neg (by omega)]
        · repeat (first | exact Below.refl _ _ | refine below_alloc ?_ _ | refine pw_below_drewN ?_ _ | refine below_drew ?_)
end Go.Proofs.YtpjbfpheenamiaaDoor.PF
