/- Texts of this claim, put together: GTab06. -/
import Derived.Test.YtpjbfpheenamiaaDoorB1
import Derived.WalkKit
import Derived.WalkSpells
import Derived.WalkLawsBesides
import Derived.KernelRfl
/- The walks of the listing's little tables: each answers the text at its number's place; condition of pair: its number is not negative. -/
namespace Go.Proofs.YtpjbfpheenamiaaDoor.PF
open Go.RowKit Go.Proofs.YtpjbfpheenamiaaDoorW.PrintWords
set_option linter.unusedVariables false
theorem i64_and7 (n : Int) : Go.bits .and .i64 n 7 = n % 8 := by
  have h127 : (BitVec.ofInt 64 7).toNat = 2 ^ 3 - 1 := by decide
  have key : (BitVec.ofInt 64 n &&& BitVec.ofInt 64 7).toNat = (n % ((2 ^ 64 : Nat) : Int)).toNat % 2 ^ 3 := by
    rw [BitVec.toNat_and, BitVec.toNat_ofInt, h127, Nat.and_two_pow_sub_one_eq_mod]
  show IntKind.i64.wrap ((BitVec.ofInt 64 n &&& BitVec.ofInt 64 7).toNat : Nat) = n % 8
  rw [key, IntKind.wrap_i64]
  omega
theorem i64_and3 (n : Int) : Go.bits .and .i64 n 3 = n % 4 := by
  have h127 : (BitVec.ofInt 64 3).toNat = 2 ^ 2 - 1 := by decide
  have key : (BitVec.ofInt 64 n &&& BitVec.ofInt 64 3).toNat = (n % ((2 ^ 64 : Nat) : Int)).toNat % 2 ^ 2 := by
    rw [BitVec.toNat_and, BitVec.toNat_ofInt, h127, Nat.and_two_pow_sub_one_eq_mod]
  show IntKind.i64.wrap ((BitVec.ofInt 64 n &&& BitVec.ofInt 64 3).toNat : Nat) = n % 4
  rw [key, IntKind.wrap_i64]
  omega
theorem and7_range (n : Int) : 0 ≤ Go.bits .and .i64 n 7 ∧ Go.bits .and .i64 n 7 ≤ 7 := by rw [i64_and7]; omega
theorem and3_range (n : Int) : 0 ≤ Go.bits .and .i64 n 3 ∧ Go.bits .and .i64 n 3 ≤ 3 := by rw [i64_and3]; omega
def registerS (k : Nat) : ByteArray := [(⟨#[66]⟩ : ByteArray), (⟨#[67]⟩ : ByteArray), (⟨#[68]⟩ : ByteArray), (⟨#[69]⟩ : ByteArray), (⟨#[72]⟩ : ByteArray), (⟨#[76]⟩ : ByteArray), (⟨#[40, 72, 76, 41]⟩ : ByteArray), (⟨#[65]⟩ : ByteArray)].getD k ByteArray.empty
def listing_register.f (a0 : Int) : Option ByteArray := some (registerS (Go.bits .and .i64 a0 7).toNat)
set_option maxHeartbeats 1000000 in
theorem listing_register.calls (a0 : Int) (r : ByteArray) (w : World) (h : listing_register.f a0 = some r) :
    Calls Tryd.prog 65 #[.int .i64 a0] w fun e w' => e = .returned (.string r) ∧ Drawn0 w w' := by
  obtain rfl := Option.some.inj h
  have hr := and7_range a0
  clear h
  generalize hk : Go.bits .and .i64 a0 7 = k at hr ⊢
  obtain ⟨n, rfl⟩ := Int.eq_ofNat_of_zero_le hr.1
  have hn : n ≤ 7 := by omega
  clear hr
  rcases n with _ | _ | _ | _ | _ | _ | _ | _ | n
  · have hi : ∀ w, (Instr.index 107 (.agg #[.string ⟨#[66]⟩, .string ⟨#[67]⟩, .string ⟨#[68]⟩, .string ⟨#[69]⟩, .string ⟨#[72]⟩, .string ⟨#[76]⟩, .string ⟨#[40, 72, 76, 41]⟩, .string ⟨#[65]⟩]) (.int .i64 0)).run Tryd.prog w = .ok (.string ⟨#[66]⟩) w := fun w => by kernel_rfl
    replace hk : Go.bits .and .i64 a0 7 = 0 := hk
    go_enter Tryd.func65, Tryd.ntmps65
    go_wp2
    go_ret
    exact ⟨rfl, Drawn0.refl _⟩
  · have hi : ∀ w, (Instr.index 107 (.agg #[.string ⟨#[66]⟩, .string ⟨#[67]⟩, .string ⟨#[68]⟩, .string ⟨#[69]⟩, .string ⟨#[72]⟩, .string ⟨#[76]⟩, .string ⟨#[40, 72, 76, 41]⟩, .string ⟨#[65]⟩]) (.int .i64 1)).run Tryd.prog w = .ok (.string ⟨#[67]⟩) w := fun w => by kernel_rfl
    replace hk : Go.bits .and .i64 a0 7 = 1 := hk
    go_enter Tryd.func65, Tryd.ntmps65
    go_wp2
    go_ret
    exact ⟨rfl, Drawn0.refl _⟩
  · have hi : ∀ w, (Instr.index 107 (.agg #[.string ⟨#[66]⟩, .string ⟨#[67]⟩, .string ⟨#[68]⟩, .string ⟨#[69]⟩, .string ⟨#[72]⟩, .string ⟨#[76]⟩, .string ⟨#[40, 72, 76, 41]⟩, .string ⟨#[65]⟩]) (.int .i64 2)).run Tryd.prog w = .ok (.string ⟨#[68]⟩) w := fun w => by kernel_rfl
    replace hk : Go.bits .and .i64 a0 7 = 2 := hk
    go_enter Tryd.func65, Tryd.ntmps65
    go_wp2
    go_ret
    exact ⟨rfl, Drawn0.refl _⟩
  · have hi : ∀ w, (Instr.index 107 (.agg #[.string ⟨#[66]⟩, .string ⟨#[67]⟩, .string ⟨#[68]⟩, .string ⟨#[69]⟩, .string ⟨#[72]⟩, .string ⟨#[76]⟩, .string ⟨#[40, 72, 76, 41]⟩, .string ⟨#[65]⟩]) (.int .i64 3)).run Tryd.prog w = .ok (.string ⟨#[69]⟩) w := fun w => by kernel_rfl
    replace hk : Go.bits .and .i64 a0 7 = 3 := hk
    go_enter Tryd.func65, Tryd.ntmps65
    go_wp2
    go_ret
    exact ⟨rfl, Drawn0.refl _⟩
  · have hi : ∀ w, (Instr.index 107 (.agg #[.string ⟨#[66]⟩, .string ⟨#[67]⟩, .string ⟨#[68]⟩, .string ⟨#[69]⟩, .string ⟨#[72]⟩, .string ⟨#[76]⟩, .string ⟨#[40, 72, 76, 41]⟩, .string ⟨#[65]⟩]) (.int .i64 4)).run Tryd.prog w = .ok (.string ⟨#[72]⟩) w := fun w => by kernel_rfl
    replace hk : Go.bits .and .i64 a0 7 = 4 := hk
    go_enter Tryd.func65, Tryd.ntmps65
    go_wp2
    go_ret
    exact ⟨rfl, Drawn0.refl _⟩
  · have hi : ∀ w, (Instr.index 107 (.agg #[.string ⟨#[66]⟩, .string ⟨#[67]⟩, .string ⟨#[68]⟩, .string ⟨#[69]⟩, .string ⟨#[72]⟩, .string ⟨#[76]⟩, .string ⟨#[40, 72, 76, 41]⟩, .string ⟨#[65]⟩]) (.int .i64 5)).run Tryd.prog w = .ok (.string ⟨#[76]⟩) w := fun w => by kernel_rfl
    replace hk : Go.bits .and .i64 a0 7 = 5 := hk
    go_enter Tryd.func65, Tryd.ntmps65
    go_wp2
    go_ret
    exact ⟨rfl, Drawn0.refl _⟩
  · have hi : ∀ w, (Instr.index 107 (.agg #[.string ⟨#[66]⟩, .string ⟨#[67]⟩, .string ⟨#[68]⟩, .string ⟨#[69]⟩, .string ⟨#[72]⟩, .string ⟨#[76]⟩, .string ⟨#[40, 72, 76, 41]⟩, .string ⟨#[65]⟩]) (.int .i64 6)).run Tryd.prog w = .ok (.string ⟨#[40, 72, 76, 41]⟩) w := fun w => by kernel_rfl
    replace hk : Go.bits .and .i64 a0 7 = 6 := hk
    go_enter Tryd.func65, Tryd.ntmps65
    go_wp2
    go_ret
    exact ⟨rfl, Drawn0.refl _⟩
  · have hi : ∀ w, (Instr.index 107 (.agg #[.string ⟨#[66]⟩, .string ⟨#[67]⟩, .string ⟨#[68]⟩, .string ⟨#[69]⟩, .string ⟨#[72]⟩, .string ⟨#[76]⟩, .string ⟨#[40, 72, 76, 41]⟩, .string ⟨#[65]⟩]) (.int .i64 7)).run Tryd.prog w = .ok (.string ⟨#[65]⟩) w := fun w => by kernel_rfl
    replace hk : Go.bits .and .i64 a0 7 = 7 := hk
    go_enter Tryd.func65, Tryd.ntmps65
    go_wp2
    go_ret
    exact ⟨rfl, Drawn0.refl _⟩
  · omega
def conditionS (k : Nat) : ByteArray := [(⟨#[78, 90]⟩ : ByteArray), (⟨#[90]⟩ : ByteArray), (⟨#[78, 67]⟩ : ByteArray), (⟨#[67]⟩ : ByteArray)].getD k ByteArray.empty
def listing_condition.f (a0 : Int) : Option ByteArray := some (conditionS (Go.bits .and .i64 a0 3).toNat)
set_option maxHeartbeats 1000000 in
theorem listing_condition.calls (a0 : Int) (r : ByteArray) (w : World) (h : listing_condition.f a0 = some r) :
    Calls Tryd.prog 64 #[.int .i64 a0] w fun e w' => e = .returned (.string r) ∧ Drawn0 w w' := by
  obtain rfl := Option.some.inj h
  have hr := and3_range a0
  clear h
  generalize hk : Go.bits .and .i64 a0 3 = k at hr ⊢
  obtain ⟨n, rfl⟩ := Int.eq_ofNat_of_zero_le hr.1
  have hn : n ≤ 3 := by omega
  clear hr
  rcases n with _ | _ | _ | _ | n
  · have hi : ∀ w, (Instr.index 106 (.agg #[.string ⟨#[78, 90]⟩, .string ⟨#[90]⟩, .string ⟨#[78, 67]⟩, .string ⟨#[67]⟩]) (.int .i64 0)).run Tryd.prog w = .ok (.string ⟨#[78, 90]⟩) w := fun w => by kernel_rfl
    replace hk : Go.bits .and .i64 a0 3 = 0 := hk
    go_enter Tryd.func64, Tryd.ntmps64
    go_wp2
    go_ret
    exact ⟨rfl, Drawn0.refl _⟩
  · have hi : ∀ w, (Instr.index 106 (.agg #[.string ⟨#[78, 90]⟩, .string ⟨#[90]⟩, .string ⟨#[78, 67]⟩, .string ⟨#[67]⟩]) (.int .i64 1)).run Tryd.prog w = .ok (.string ⟨#[90]⟩) w := fun w => by kernel_rfl
    replace hk : Go.bits .and .i64 a0 3 = 1 := hk
    go_enter Tryd.func64, Tryd.ntmps64
    go_wp2
    go_ret
    exact ⟨rfl, Drawn0.refl _⟩
  · have hi : ∀ w, (Instr.index 106 (.agg #[.string ⟨#[78, 90]⟩, .string ⟨#[90]⟩, .string ⟨#[78, 67]⟩, .string ⟨#[67]⟩]) (.int .i64 2)).run Tryd.prog w = .ok (.string ⟨#[78, 67]⟩) w := fun w => by kernel_rfl
    replace hk : Go.bits .and .i64 a0 3 = 2 := hk
    go_enter Tryd.func64, Tryd.ntmps64
    go_wp2
    go_ret
    exact ⟨rfl, Drawn0.refl _⟩
  · have hi : ∀ w, (Instr.index 106 (.agg #[.string ⟨#[78, 90]⟩, .string ⟨#[90]⟩, .string ⟨#[78, 67]⟩, .string ⟨#[67]⟩]) (.int .i64 3)).run Tryd.prog w = .ok (.string ⟨#[67]⟩) w := fun w => by kernel_rfl
    replace hk : Go.bits .and .i64 a0 3 = 3 := hk
    go_enter Tryd.func64, Tryd.ntmps64
    go_wp2
    go_ret
    exact ⟨rfl, Drawn0.refl _⟩
  · omega
def placeS (k : Nat) : ByteArray := [(⟨#[40, 66, 67, 41]⟩ : ByteArray), (⟨#[40, 68, 69, 41]⟩ : ByteArray), (⟨#[40, 72, 76, 43, 41]⟩ : ByteArray), (⟨#[40, 72, 76, 45, 41]⟩ : ByteArray)].getD k ByteArray.empty
def listing_place.f (a0 : Int) : Option ByteArray := some (placeS (Go.bits .and .i64 a0 3).toNat)
set_option maxHeartbeats 1000000 in
theorem listing_place.calls (a0 : Int) (r : ByteArray) (w : World) (h : listing_place.f a0 = some r) :
    Calls Tryd.prog 66 #[.int .i64 a0] w fun e w' => e = .returned (.string r) ∧ Drawn0 w w' := by
  obtain rfl := Option.some.inj h
  have hr := and3_range a0
  clear h
  generalize hk : Go.bits .and .i64 a0 3 = k at hr ⊢
  obtain ⟨n, rfl⟩ := Int.eq_ofNat_of_zero_le hr.1
  have hn : n ≤ 3 := by omega
  clear hr
  rcases n with _ | _ | _ | _ | n
  · have hi : ∀ w, (Instr.index 106 (.agg #[.string ⟨#[40, 66, 67, 41]⟩, .string ⟨#[40, 68, 69, 41]⟩, .string ⟨#[40, 72, 76, 43, 41]⟩, .string ⟨#[40, 72, 76, 45, 41]⟩]) (.int .i64 0)).run Tryd.prog w = .ok (.string ⟨#[40, 66, 67, 41]⟩) w := fun w => by kernel_rfl
    replace hk : Go.bits .and .i64 a0 3 = 0 := hk
    go_enter Tryd.func66, Tryd.ntmps66
    go_wp2
    go_ret
    exact ⟨rfl, Drawn0.refl _⟩
  · have hi : ∀ w, (Instr.index 106 (.agg #[.string ⟨#[40, 66, 67, 41]⟩, .string ⟨#[40, 68, 69, 41]⟩, .string ⟨#[40, 72, 76, 43, 41]⟩, .string ⟨#[40, 72, 76, 45, 41]⟩]) (.int .i64 1)).run Tryd.prog w = .ok (.string ⟨#[40, 68, 69, 41]⟩) w := fun w => by kernel_rfl
    replace hk : Go.bits .and .i64 a0 3 = 1 := hk
    go_enter Tryd.func66, Tryd.ntmps66
    go_wp2
    go_ret
    exact ⟨rfl, Drawn0.refl _⟩
  · have hi : ∀ w, (Instr.index 106 (.agg #[.string ⟨#[40, 66, 67, 41]⟩, .string ⟨#[40, 68, 69, 41]⟩, .string ⟨#[40, 72, 76, 43, 41]⟩, .string ⟨#[40, 72, 76, 45, 41]⟩]) (.int .i64 2)).run Tryd.prog w = .ok (.string ⟨#[40, 72, 76, 43, 41]⟩) w := fun w => by kernel_rfl
    replace hk : Go.bits .and .i64 a0 3 = 2 := hk
    go_enter Tryd.func66, Tryd.ntmps66
    go_wp2
    go_ret
    exact ⟨rfl, Drawn0.refl _⟩
  · have hi : ∀ w, (Instr.index 106 (.agg #[.string ⟨#[40, 66, 67, 41]⟩, .string ⟨#[40, 68, 69, 41]⟩, .string ⟨#[40, 72, 76, 43, 41]⟩, .string ⟨#[40, 72, 76, 45, 41]⟩]) (.int .i64 3)).run Tryd.prog w = .ok (.string ⟨#[40, 72, 76, 45, 41]⟩) w := fun w => by kernel_rfl
    replace hk : Go.bits .and .i64 a0 3 = 3 := hk
    go_enter Tryd.func66, Tryd.ntmps66
    go_wp2
    go_ret
    exact ⟨rfl, Drawn0.refl _⟩
  · omega
def operationS (k : Nat) : ByteArray := [(⟨#[65, 68, 68]⟩ : ByteArray), (⟨#[65, 68, 67]⟩ : ByteArray), (⟨#[83, 85, 66]⟩ : ByteArray), (⟨#[83, 66, 67]⟩ : ByteArray), (⟨#[65, 78, 68]⟩ : ByteArray), (⟨#[88, 79, 82]⟩ : ByteArray), (⟨#[79, 82]⟩ : ByteArray), (⟨#[67, 80]⟩ : ByteArray)].getD k ByteArray.empty
def listing_operation.f (a0 : Int) : Option ByteArray := some (operationS (Go.bits .and .i64 a0 7).toNat)
set_option maxHeartbeats 1000000 in
theorem listing_operation.calls (a0 : Int) (r : ByteArray) (w : World) (h : listing_operation.f a0 = some r) :
    Calls Tryd.prog 68 #[.int .i64 a0] w fun e w' => e = .returned (.string r) ∧ Drawn0 w w' := by
  obtain rfl := Option.some.inj h
  have hr := and7_range a0
  clear h
  generalize hk : Go.bits .and .i64 a0 7 = k at hr ⊢
  obtain ⟨n, rfl⟩ := Int.eq_ofNat_of_zero_le hr.1
  have hn : n ≤ 7 := by omega
  clear hr
  rcases n with _ | _ | _ | _ | _ | _ | _ | _ | n
  · have hi : ∀ w, (Instr.index 107 (.agg #[.string ⟨#[65, 68, 68]⟩, .string ⟨#[65, 68, 67]⟩, .string ⟨#[83, 85, 66]⟩, .string ⟨#[83, 66, 67]⟩, .string ⟨#[65, 78, 68]⟩, .string ⟨#[88, 79, 82]⟩, .string ⟨#[79, 82]⟩, .string ⟨#[67, 80]⟩]) (.int .i64 0)).run Tryd.prog w = .ok (.string ⟨#[65, 68, 68]⟩) w := fun w => by kernel_rfl
    replace hk : Go.bits .and .i64 a0 7 = 0 := hk
    go_enter Tryd.func68, Tryd.ntmps68
    go_wp2
    go_ret
    exact ⟨rfl, Drawn0.refl _⟩
  · have hi : ∀ w, (Instr.index 107 (.agg #[.string ⟨#[65, 68, 68]⟩, .string ⟨#[65, 68, 67]⟩, .string ⟨#[83, 85, 66]⟩, .string ⟨#[83, 66, 67]⟩, .string ⟨#[65, 78, 68]⟩, .string ⟨#[88, 79, 82]⟩, .string ⟨#[79, 82]⟩, .string ⟨#[67, 80]⟩]) (.int .i64 1)).run Tryd.prog w = .ok (.string ⟨#[65, 68, 67]⟩) w := fun w => by kernel_rfl
    replace hk : Go.bits .and .i64 a0 7 = 1 := hk
    go_enter Tryd.func68, Tryd.ntmps68
    go_wp2
    go_ret
    exact ⟨rfl, Drawn0.refl _⟩
  · have hi : ∀ w, (Instr.index 107 (.agg #[.string ⟨#[65, 68, 68]⟩, .string ⟨#[65, 68, 67]⟩, .string ⟨#[83, 85, 66]⟩, .string ⟨#[83, 66, 67]⟩, .string ⟨#[65, 78, 68]⟩, .string ⟨#[88, 79, 82]⟩, .string ⟨#[79, 82]⟩, .string ⟨#[67, 80]⟩]) (.int .i64 2)).run Tryd.prog w = .ok (.string ⟨#[83, 85, 66]⟩) w := fun w => by kernel_rfl
    replace hk : Go.bits .and .i64 a0 7 = 2 := hk
    go_enter Tryd.func68, Tryd.ntmps68
    go_wp2
    go_ret
    exact ⟨rfl, Drawn0.refl _⟩
  · have hi : ∀ w, (Instr.index 107 (.agg #[.string ⟨#[65, 68, 68]⟩, .string ⟨#[65, 68, 67]⟩, .string ⟨#[83, 85, 66]⟩, .string ⟨#[83, 66, 67]⟩, .string ⟨#[65, 78, 68]⟩, .string ⟨#[88, 79, 82]⟩, .string ⟨#[79, 82]⟩, .string ⟨#[67, 80]⟩]) (.int .i64 3)).run Tryd.prog w = .ok (.string ⟨#[83, 66, 67]⟩) w := fun w => by kernel_rfl
    replace hk : Go.bits .and .i64 a0 7 = 3 := hk
    go_enter Tryd.func68, Tryd.ntmps68
    go_wp2
    go_ret
    exact ⟨rfl, Drawn0.refl _⟩
  · have hi : ∀ w, (Instr.index 107 (.agg #[.string ⟨#[65, 68, 68]⟩, .string ⟨#[65, 68, 67]⟩, .string ⟨#[83, 85, 66]⟩, .string ⟨#[83, 66, 67]⟩, .string ⟨#[65, 78, 68]⟩, .string ⟨#[88, 79, 82]⟩, .string ⟨#[79, 82]⟩, .string ⟨#[67, 80]⟩]) (.int .i64 4)).run Tryd.prog w = .ok (.string ⟨#[65, 78, 68]⟩) w := fun w => by kernel_rfl
    replace hk : Go.bits .and .i64 a0 7 = 4 := hk
    go_enter Tryd.func68, Tryd.ntmps68
    go_wp2
    go_ret
    exact ⟨rfl, Drawn0.refl _⟩
  · have hi : ∀ w, (Instr.index 107 (.agg #[.string ⟨#[65, 68, 68]⟩, .string ⟨#[65, 68, 67]⟩, .string ⟨#[83, 85, 66]⟩, .string ⟨#[83, 66, 67]⟩, .string ⟨#[65, 78, 68]⟩, .string ⟨#[88, 79, 82]⟩, .string ⟨#[79, 82]⟩, .string ⟨#[67, 80]⟩]) (.int .i64 5)).run Tryd.prog w = .ok (.string ⟨#[88, 79, 82]⟩) w := fun w => by kernel_rfl
    replace hk : Go.bits .and .i64 a0 7 = 5 := hk
    go_enter Tryd.func68, Tryd.ntmps68
    go_wp2
    go_ret
    exact ⟨rfl, Drawn0.refl _⟩
  · have hi : ∀ w, (Instr.index 107 (.agg #[.string ⟨#[65, 68, 68]⟩, .string ⟨#[65, 68, 67]⟩, .string ⟨#[83, 85, 66]⟩, .string ⟨#[83, 66, 67]⟩, .string ⟨#[65, 78, 68]⟩, .string ⟨#[88, 79, 82]⟩, .string ⟨#[79, 82]⟩, .string ⟨#[67, 80]⟩]) (.int .i64 6)).run Tryd.prog w = .ok (.string ⟨#[79, 82]⟩) w := fun w => by kernel_rfl
    replace hk : Go.bits .and .i64 a0 7 = 6 := hk
    go_enter Tryd.func68, Tryd.ntmps68
    go_wp2
    go_ret
    exact ⟨rfl, Drawn0.refl _⟩
  · have hi : ∀ w, (Instr.index 107 (.agg #[.string ⟨#[65, 68, 68]⟩, .string ⟨#[65, 68, 67]⟩, .string ⟨#[83, 85, 66]⟩, .string ⟨#[83, 66, 67]⟩, .string ⟨#[65, 78, 68]⟩, .string ⟨#[88, 79, 82]⟩, .string ⟨#[79, 82]⟩, .string ⟨#[67, 80]⟩]) (.int .i64 7)).run Tryd.prog w = .ok (.string ⟨#[67, 80]⟩) w := fun w => by kernel_rfl
    replace hk : Go.bits .and .i64 a0 7 = 7 := hk
    go_enter Tryd.func68, Tryd.ntmps68
    go_wp2
    go_ret
    exact ⟨rfl, Drawn0.refl _⟩
  · omega
def shiftedS (k : Nat) : ByteArray := [(⟨#[82, 76, 67]⟩ : ByteArray), (⟨#[82, 82, 67]⟩ : ByteArray), (⟨#[82, 76]⟩ : ByteArray), (⟨#[82, 82]⟩ : ByteArray), (⟨#[83, 76, 65]⟩ : ByteArray), (⟨#[83, 82, 65]⟩ : ByteArray), (⟨#[83, 87, 65, 80]⟩ : ByteArray), (⟨#[83, 82, 76]⟩ : ByteArray)].getD k ByteArray.empty
def listing_shifted.f (a0 : Int) : Option ByteArray := some (shiftedS (Go.bits .and .i64 a0 7).toNat)
set_option maxHeartbeats 1000000 in
theorem listing_shifted.calls (a0 : Int) (r : ByteArray) (w : World) (h : listing_shifted.f a0 = some r) :
    Calls Tryd.prog 69 #[.int .i64 a0] w fun e w' => e = .returned (.string r) ∧ Drawn0 w w' := by
  obtain rfl := Option.some.inj h
  have hr := and7_range a0
  clear h
  generalize hk : Go.bits .and .i64 a0 7 = k at hr ⊢
  obtain ⟨n, rfl⟩ := Int.eq_ofNat_of_zero_le hr.1
  have hn : n ≤ 7 := by omega
  clear hr
  rcases n with _ | _ | _ | _ | _ | _ | _ | _ | n
  · have hi : ∀ w, (Instr.index 107 (.agg #[.string ⟨#[82, 76, 67]⟩, .string ⟨#[82, 82, 67]⟩, .string ⟨#[82, 76]⟩, .string ⟨#[82, 82]⟩, .string ⟨#[83, 76, 65]⟩, .string ⟨#[83, 82, 65]⟩, .string ⟨#[83, 87, 65, 80]⟩, .string ⟨#[83, 82, 76]⟩]) (.int .i64 0)).run Tryd.prog w = .ok (.string ⟨#[82, 76, 67]⟩) w := fun w => by kernel_rfl
    replace hk : Go.bits .and .i64 a0 7 = 0 := hk
    go_enter Tryd.func69, Tryd.ntmps69
    go_wp2
    go_ret
    exact ⟨rfl, Drawn0.refl _⟩
  · have hi : ∀ w, (Instr.index 107 (.agg #[.string ⟨#[82, 76, 67]⟩, .string ⟨#[82, 82, 67]⟩, .string ⟨#[82, 76]⟩, .string ⟨#[82, 82]⟩, .string ⟨#[83, 76, 65]⟩, .string ⟨#[83, 82, 65]⟩, .string ⟨#[83, 87, 65, 80]⟩, .string ⟨#[83, 82, 76]⟩]) (.int .i64 1)).run Tryd.prog w = .ok (.string ⟨#[82, 82, 67]⟩) w := fun w => by kernel_rfl
    replace hk : Go.bits .and .i64 a0 7 = 1 := hk
    go_enter Tryd.func69, Tryd.ntmps69
    go_wp2
    go_ret
    exact ⟨rfl, Drawn0.refl _⟩
  · have hi : ∀ w, (Instr.index 107 (.agg #[.string ⟨#[82, 76, 67]⟩, .string ⟨#[82, 82, 67]⟩, .string ⟨#[82, 76]⟩, .string ⟨#[82, 82]⟩, .string ⟨#[83, 76, 65]⟩, .string ⟨#[83, 82, 65]⟩, .string ⟨#[83, 87, 65, 80]⟩, .string ⟨#[83, 82, 76]⟩]) (.int .i64 2)).run Tryd.prog w = .ok (.string ⟨#[82, 76]⟩) w := fun w => by kernel_rfl
    replace hk : Go.bits .and .i64 a0 7 = 2 := hk
    go_enter Tryd.func69, Tryd.ntmps69
    go_wp2
    go_ret
    exact ⟨rfl, Drawn0.refl _⟩
  · have hi : ∀ w, (Instr.index 107 (.agg #[.string ⟨#[82, 76, 67]⟩, .string ⟨#[82, 82, 67]⟩, .string ⟨#[82, 76]⟩, .string ⟨#[82, 82]⟩, .string ⟨#[83, 76, 65]⟩, .string ⟨#[83, 82, 65]⟩, .string ⟨#[83, 87, 65, 80]⟩, .string ⟨#[83, 82, 76]⟩]) (.int .i64 3)).run Tryd.prog w = .ok (.string ⟨#[82, 82]⟩) w := fun w => by kernel_rfl
    replace hk : Go.bits .and .i64 a0 7 = 3 := hk
    go_enter Tryd.func69, Tryd.ntmps69
    go_wp2
    go_ret
    exact ⟨rfl, Drawn0.refl _⟩
  · have hi : ∀ w, (Instr.index 107 (.agg #[.string ⟨#[82, 76, 67]⟩, .string ⟨#[82, 82, 67]⟩, .string ⟨#[82, 76]⟩, .string ⟨#[82, 82]⟩, .string ⟨#[83, 76, 65]⟩, .string ⟨#[83, 82, 65]⟩, .string ⟨#[83, 87, 65, 80]⟩, .string ⟨#[83, 82, 76]⟩]) (.int .i64 4)).run Tryd.prog w = .ok (.string ⟨#[83, 76, 65]⟩) w := fun w => by kernel_rfl
    replace hk : Go.bits .and .i64 a0 7 = 4 := hk
    go_enter Tryd.func69, Tryd.ntmps69
    go_wp2
    go_ret
    exact ⟨rfl, Drawn0.refl _⟩
  · have hi : ∀ w, (Instr.index 107 (.agg #[.string ⟨#[82, 76, 67]⟩, .string ⟨#[82, 82, 67]⟩, .string ⟨#[82, 76]⟩, .string ⟨#[82, 82]⟩, .string ⟨#[83, 76, 65]⟩, .string ⟨#[83, 82, 65]⟩, .string ⟨#[83, 87, 65, 80]⟩, .string ⟨#[83, 82, 76]⟩]) (.int .i64 5)).run Tryd.prog w = .ok (.string ⟨#[83, 82, 65]⟩) w := fun w => by kernel_rfl
    replace hk : Go.bits .and .i64 a0 7 = 5 := hk
    go_enter Tryd.func69, Tryd.ntmps69
    go_wp2
    go_ret
    exact ⟨rfl, Drawn0.refl _⟩
  · have hi : ∀ w, (Instr.index 107 (.agg #[.string ⟨#[82, 76, 67]⟩, .string ⟨#[82, 82, 67]⟩, .string ⟨#[82, 76]⟩, .string ⟨#[82, 82]⟩, .string ⟨#[83, 76, 65]⟩, .string ⟨#[83, 82, 65]⟩, .string ⟨#[83, 87, 65, 80]⟩, .string ⟨#[83, 82, 76]⟩]) (.int .i64 6)).run Tryd.prog w = .ok (.string ⟨#[83, 87, 65, 80]⟩) w := fun w => by kernel_rfl
    replace hk : Go.bits .and .i64 a0 7 = 6 := hk
    go_enter Tryd.func69, Tryd.ntmps69
    go_wp2
    go_ret
    exact ⟨rfl, Drawn0.refl _⟩
  · have hi : ∀ w, (Instr.index 107 (.agg #[.string ⟨#[82, 76, 67]⟩, .string ⟨#[82, 82, 67]⟩, .string ⟨#[82, 76]⟩, .string ⟨#[82, 82]⟩, .string ⟨#[83, 76, 65]⟩, .string ⟨#[83, 82, 65]⟩, .string ⟨#[83, 87, 65, 80]⟩, .string ⟨#[83, 82, 76]⟩]) (.int .i64 7)).run Tryd.prog w = .ok (.string ⟨#[83, 82, 76]⟩) w := fun w => by kernel_rfl
    replace hk : Go.bits .and .i64 a0 7 = 7 := hk
    go_enter Tryd.func69, Tryd.ntmps69
    go_wp2
    go_ret
    exact ⟨rfl, Drawn0.refl _⟩
  · omega
def pairS (k : Nat) : ByteArray := [(⟨#[66, 67]⟩ : ByteArray), (⟨#[68, 69]⟩ : ByteArray), (⟨#[72, 76]⟩ : ByteArray), (⟨#[83, 80]⟩ : ByteArray), (⟨#[65, 70]⟩ : ByteArray)].getD k ByteArray.empty
def listing_pair.f (a0 : Int) : Option ByteArray := if 0 ≤ a0 then some (pairS (a0 % 5).toNat) else none
set_option maxHeartbeats 1000000 in
theorem listing_pair.calls (a0 : Int) (r : ByteArray) (w : World) (h : listing_pair.f a0 = some r) :
    Calls Tryd.prog 67 #[.int .i64 a0] w fun e w' => e = .returned (.string r) ∧ Drawn0 w w' := by
  unfold listing_pair.f at h
  split at h
  case isFalse => cases h
  case isTrue h0 =>
    obtain rfl := Option.some.inj h
    have hr : 0 ≤ a0 % 5 ∧ a0 % 5 ≤ 4 := by omega
    clear h
    generalize hk : a0 % 5 = k at hr ⊢
    obtain ⟨n, rfl⟩ := Int.eq_ofNat_of_zero_le hr.1
    have hn : n ≤ 4 := by omega
    clear hr
    rcases n with _ | _ | _ | _ | _ | n
    · have hi : ∀ w, (Instr.index 108 (.agg #[.string ⟨#[66, 67]⟩, .string ⟨#[68, 69]⟩, .string ⟨#[72, 76]⟩, .string ⟨#[83, 80]⟩, .string ⟨#[65, 70]⟩]) (.int .i64 0)).run Tryd.prog w = .ok (.string ⟨#[66, 67]⟩) w := fun w => by kernel_rfl
      replace hk : a0 % 5 = 0 := hk
      go_enter Tryd.func67, Tryd.ntmps67
      go_wp2
      go_ret
      exact ⟨rfl, Drawn0.refl _⟩
    · have hi : ∀ w, (Instr.index 108 (.agg #[.string ⟨#[66, 67]⟩, .string ⟨#[68, 69]⟩, .string ⟨#[72, 76]⟩, .string ⟨#[83, 80]⟩, .string ⟨#[65, 70]⟩]) (.int .i64 1)).run Tryd.prog w = .ok (.string ⟨#[68, 69]⟩) w := fun w => by kernel_rfl
      replace hk : a0 % 5 = 1 := hk
      go_enter Tryd.func67, Tryd.ntmps67
      go_wp2
      go_ret
      exact ⟨rfl, Drawn0.refl _⟩
    · have hi : ∀ w, (Instr.index 108 (.agg #[.string ⟨#[66, 67]⟩, .string ⟨#[68, 69]⟩, .string ⟨#[72, 76]⟩, .string ⟨#[83, 80]⟩, .string ⟨#[65, 70]⟩]) (.int .i64 2)).run Tryd.prog w = .ok (.string ⟨#[72, 76]⟩) w := fun w => by kernel_rfl
      replace hk : a0 % 5 = 2 := hk
      go_enter Tryd.func67, Tryd.ntmps67
      go_wp2
      go_ret
      exact ⟨rfl, Drawn0.refl _⟩
    · have hi : ∀ w, (Instr.index 108 (.agg #[.string ⟨#[66, 67]⟩, .string ⟨#[68, 69]⟩, .string ⟨#[72, 76]⟩, .string ⟨#[83, 80]⟩, .string ⟨#[65, 70]⟩]) (.int .i64 3)).run Tryd.prog w = .ok (.string ⟨#[83, 80]⟩) w := fun w => by kernel_rfl
      replace hk : a0 % 5 = 3 := hk
      go_enter Tryd.func67, Tryd.ntmps67
      go_wp2
      go_ret
      exact ⟨rfl, Drawn0.refl _⟩
    · have hi : ∀ w, (Instr.index 108 (.agg #[.string ⟨#[66, 67]⟩, .string ⟨#[68, 69]⟩, .string ⟨#[72, 76]⟩, .string ⟨#[83, 80]⟩, .string ⟨#[65, 70]⟩]) (.int .i64 4)).run Tryd.prog w = .ok (.string ⟨#[65, 70]⟩) w := fun w => by kernel_rfl
      replace hk : a0 % 5 = 4 := hk
      go_enter Tryd.func67, Tryd.ntmps67
      go_wp2
      go_ret
      exact ⟨rfl, Drawn0.refl _⟩
    · omega
end Go.Proofs.YtpjbfpheenamiaaDoor.PF
