/- The walks of slices' stable sort at api.Obj: each function leaves in the row what the plain functions of GSortD say; condition: the row holds the elements, the bounds lie inside it. -/
import Derived.Test.YtgffjhbmggmcoaaGSortD
import Derived.Test.YtgffjhbmggmcoaaPF0
import Derived.Shelf.SlSortCmp.KitK
import Derived.Deep.LoopGhost
import Derived.WalkKit
import Derived.WalkSpells
import Derived.WalkLawsBesides
import Derived.BigRegion
import Derived.BigQuiet
import Derived.Deep.QuietTactic
import Derived.Outline
namespace Go.Proofs.Ytgffjhbmggmcoaa.PF
open Go.RowKit Go.Shelf Go.Lib Go.Sort Go.Proofs.Ytgffjhbmggmcoaa.SortD
set_option linter.unusedVariables false

def encO (x : S28) : List Value := [.int .u8 x.f0, .int .u8 x.f1, .int .u8 x.f2, .int .u8 x.f3, .int .u8 x.f4]
theorem encO_len (x : S28) : (encO x).length = 5 := rfl
theorem encO_one (x : S28) : ∀ v ∈ encO x, v.oneCell' = true := by
  intro v hv
  simp [encO] at hv
  rcases hv with rfl | rfl | rfl | rfl | rfl <;> rfl
instance : Inhabited S28 := ⟨z28⟩
theorem isAggO (w : World) : (isAgg 28).run Try.prog w = .ok true w := by kernel_rfl
theorem sizeO (w : World) : (Go.sizeOf 28).run Try.prog w = .ok 5 w := by kernel_rfl

/-- A load, a store of a whole object, not laid open. -/
def ldO (a : Addr) : Sem Value := loadVar 28 a
def stO (a : Addr) (v : Value) : Sem Unit := storeVar 28 a v
theorem loadVar_O (a : Addr) : loadVar 28 a = ldO a := rfl
theorem storeVar_O (a : Addr) (v : Value) : storeVar 28 a v = stO a v := rfl
theorem run_ldO {a : Addr} {cs : Array Value} {w : World} (h : Sem.run Try.prog (loadCellsFrom a 0 5 #[]) w = .ok cs w) : Sem.run Try.prog (ldO a) w = .ok (.agg cs) w := by
  unfold ldO loadVar
  simp only [Sem.run_bind, isAggO, sizeO, Result.andThen, if_true, loadCells, h]
  rfl
theorem run_stO {a : Addr} {cs : List Value} {w w' : World} (hl : cs.length = 5) (h : Sem.run Try.prog (storeCells a cs 0) w = .ok () w') : Sem.run Try.prog (stO a (.agg cs.toArray)) w = .ok () w' := by
  unfold stO storeVar
  have e : (Value.agg cs.toArray).cells = cs.toArray := rfl
  simp only [Sem.run_bind, sizeO, Result.andThen, e, List.size_toArray, hl]
  simpa using h
attribute [local go_sem ↓] loadVar_O storeVar_O

set_option maxHeartbeats 1000000 in
set_option maxRecDepth 100000 in
/-- slices.swapRangeCmpFunc. -/
theorem swapRange_calls (g : Nat) (cb : Array Value) (blk off cap a b n : Nat) (d0 d : Array S28) (w0 w : World)
    (R : RowK encO 5 w0 blk off d0) (hs : d0.size = d.size) (S : SWK encO 5 w0 blk off d w) (ha : a + n ≤ d.size) (hb : b + n ≤ d.size) (hsz : d.size < 4611686018427387904) :
    Calls Try.prog 26 #[.slice (some ⟨blk, off, none⟩) d.size cap, .int .i64 a, .int .i64 b, .int .i64 n, .func (.func g) #[] cb] w fun e w' => e = .returned (.tuple #[]) ∧ SWK encO 5 w0 blk off (swapRange d a b n) w' := by
  have aE := isAggO; have zE := sizeO
  have S0 : Aside (SWK encO 5 w0 blk off d w) := S
  clear S
  go_enter Try.func26, Try.ntmps26
  go_wp2
  go_loopg [10] (n) (fun kx s10 wr => ∃ (i : Nat) (dk : Array S28), s10 = .int .i64 i ∧ i ≤ n ∧ n - i ≤ kx ∧ dk.size = d.size ∧ Aside (SWK encO 5 w0 blk off dk wr) ∧ Hid (swapFrom dk a b i (n - i) = swapRange d a b n))
  case atStart => exact ⟨0, d, rfl, by omega, by omega, rfl, S0, rfl⟩
  case round =>
    clear S0
    obtain ⟨i, dk, rfl, hin, hkx, hds, S1, HQ⟩ := hrel
    by_cases hlt : i < n
    · have hltz : (i : Int) < (n : Int) := by omega
      have ea : ((a : Int) + (i : Int)).toNat = a + i := by omega
      have pa : (0 : Int) ≤ (a : Int) + (i : Int) := by omega
      have ba : (a : Int) + (i : Int) < (d.size : Int) := by omega
      have ra : IntKind.i64.wrap ((a : Int) + (i : Int)) = (a : Int) + (i : Int) := by rw [IntKind.wrap_i64]; omega
      have eb : ((b : Int) + (i : Int)).toNat = b + i := by omega
      have pb : (0 : Int) ≤ (b : Int) + (i : Int) := by omega
      have bb : (b : Int) + (i : Int) < (d.size : Int) := by omega
      have rb : IntKind.i64.wrap ((b : Int) + (i : Int)) = (b : Int) + (i : Int) := by rw [IntKind.wrap_i64]; omega
      have hia : a + i < dk.size := by omega
      have hib : b + i < dk.size := by omega
      have S4 : Aside (SWK encO 5 w0 blk off (swp dk (a + i) (b + i)) ((wr.drew.setCells blk (off + (a + i) * 5) (encO dk[b + i]!)).setCells blk (off + (b + i) * 5) (encO dk[a + i]!))) := S1.out.swapped R (a + i) (b + i) hia hib
      have l1 := run_ldO (S1.out.ld1 R (by omega) Try.prog (a + i) hia)
      have l2 := run_ldO (S1.out.ld1 R (by omega) Try.prog (b + i) hib)
      have s1 := run_stO (R.hk _) (S1.out.st1 R (by omega) Try.prog (a + i) hia dk[b + i]!)
      have s2 := run_stO (R.hk _) (S1.out.st2 R (by omega) Try.prog (a + i) (b + i) hia hib dk[b + i]! dk[a + i]!)
      have HQ2 : Hid (swapFrom (swp dk (a + i) (b + i)) a b (i + 1) (n - (i + 1)) = swapRange d a b n) := by
        show _ = _
        rw [← HQ.out, show n - i = (n - (i + 1)) + 1 by omega]
        rfl
      generalize encO dk[a + i]! = cI at S4 l1 s2
      generalize encO dk[b + i]! = cJ at S4 l2 s1 s2
      clear S1 HQ
      go_wp2_with fail
      go_big_region
      clear l1 l2 s1 s2
      generalize (wr.drew.setCells blk (off + (a + i) * 5) cJ).setCells blk (off + (b + i) * 5) cI = w4 at S4 ⊢
      go_wp2
      go_roundg (n - (i + 1))
      case measure => omega
      case rel => exact ⟨i + 1, swp dk (a + i) (b + i), by go_num, by omega, by omega, by rw [size_swp]; exact hds, S4, HQ2⟩
    · have hltz : ¬ (i : Int) < (n : Int) := by omega
      go_wp2
      go_end0
      refine ⟨rfl, ?_⟩
      rw [← HQ.out, show n - i = 0 by omega]
      exact S1.out

set_option maxHeartbeats 1000000 in
set_option maxRecDepth 100000 in
/-- slices.rotateCmpFunc. -/
theorem rotate_calls (g : Nat) (cb : Array Value) (blk off cap a m b : Nat) (d0 d : Array S28) (w0 w : World)
    (R : RowK encO 5 w0 blk off d0) (hs : d0.size = d.size) (S : SWK encO 5 w0 blk off d w) (ham : a < m) (hmb : m < b) (hb : b ≤ d.size) (hsz : d.size < 4611686018427387904) :
    Calls Try.prog 25 #[.slice (some ⟨blk, off, none⟩) d.size cap, .int .i64 a, .int .i64 m, .int .i64 b, .func (.func g) #[] cb] w fun e w' => e = .returned (.tuple #[]) ∧ SWK encO 5 w0 blk off (rotate d a m b) w' := by
  have S0 : Aside (SWK encO 5 w0 blk off d w) := S
  have HR : Aside _ := R
  clear S R
  have e1 : IntKind.i64.wrap ((m : Int) - (a : Int)) = ((m - a : Nat) : Int) := by rw [IntKind.wrap_i64]; omega
  have e2 : IntKind.i64.wrap ((b : Int) - (m : Int)) = ((b - m : Nat) : Int) := by rw [IntKind.wrap_i64]; omega
  go_enter Try.func25, Try.ntmps25
  go_wp2
  go_loopg [10, 11] (b - a) (fun kx s10 s11 wr => ∃ (i j k : Nat) (dk : Array S28), s10 = .int .i64 i ∧ s11 = .int .i64 j ∧ 0 < i ∧ i ≤ m - a ∧ 0 < j ∧ j ≤ b - m ∧ i + j ≤ k ∧ k ≤ kx ∧ dk.size = d.size ∧ Aside (SWK encO 5 w0 blk off dk wr) ∧ Hid (rotGo dk m i j k = rotate d a m b))
  case atStart => exact ⟨m - a, b - m, b - a, d, by go_num, by go_num, by omega, by omega, by omega, by omega, by omega, by omega, rfl, S0, rfl⟩
  case round =>
    clear S0
    obtain ⟨i, j, k, dk, rfl, rfl, hi0, hi1, hj0, hj1, hk0, hk1, hds, S1, HQ⟩ := hrel
    obtain ⟨k, rfl⟩ : ∃ k', k = k' + 1 := ⟨k - 1, by omega⟩
    have emi : IntKind.i64.wrap ((m : Int) - (i : Int)) = ((m - i : Nat) : Int) := by rw [IntKind.wrap_i64]; omega
    have emi' : wrap64 ((m : Int) - (i : Int)) = ((m - i : Nat) : Int) := by unfold wrap64; omega
    by_cases hij : i = j
    · subst hij
      have h1 : ((i : Int) != (i : Int)) = false := by simp
      have hc := fun W (S : SWK encO 5 w0 blk off dk W) => swapRange_calls g cb blk off cap (m - i) m i d0 dk w0 W HR.out (by omega) S (by omega) (by omega) (by omega)
      rw [hds] at hc
      have HC : Hid _ := hc
      have HQ2 : Hid (swapRange dk (m - i) m i = rotate d a m b) := by
        show _ = _
        rw [← HQ.out, rotGo, if_pos rfl]
      clear hc HQ
      go_wp2_with fail
      refine (HC.out _ S1.out).mono ?_
      rintro e w' ⟨rfl, S2⟩
      rw [HQ2.out] at S2
      go_wp2
      go_end0
      exact ⟨rfl, S2⟩
    · by_cases hji : j < i
      · have h1 : ((i : Int) != (j : Int)) = true := by simp; omega
        have h2 : (j : Int) < (i : Int) := by omega
        have hc := fun W (S : SWK encO 5 w0 blk off dk W) => swapRange_calls g cb blk off cap (m - i) m j d0 dk w0 W HR.out (by omega) S (by omega) (by omega) (by omega)
        rw [hds] at hc
        have HC : Hid _ := hc
        have HQ2 : Hid (rotGo (swapRange dk (m - i) m j) m (i - j) j k = rotate d a m b) := by
          show _ = _
          rw [← HQ.out, rotGo, if_neg hij, if_pos hji]
        clear hc HQ
        go_wp2_with fail
        refine (HC.out _ S1.out).mono ?_
        rintro e w' ⟨rfl, S2⟩
        have S3 : Aside (SWK encO 5 w0 blk off (swapRange dk (m - i) m j) w') := S2
        clear S2 S1
        go_wp2
        go_roundg k
        case measure => omega
        case rel => exact ⟨i - j, j, k, _, by go_num, rfl, by omega, by omega, by omega, by omega, by omega, by omega, by rw [size_swapRange]; exact hds, S3, HQ2⟩
      · have h1 : ((i : Int) != (j : Int)) = true := by simp; omega
        have h2 : ¬ (j : Int) < (i : Int) := by omega
        have hc := fun W (S : SWK encO 5 w0 blk off dk W) => swapRange_calls g cb blk off cap (m - i) (m + j - i) i d0 dk w0 W HR.out (by omega) S (by omega) (by omega) (by omega)
        rw [hds] at hc
        have HC : Hid _ := hc
        have HQ2 : Hid (rotGo (swapRange dk (m - i) (m + j - i) i) m i (j - i) k = rotate d a m b) := by
          show _ = _
          rw [← HQ.out, rotGo, if_neg hij, if_neg hji]
        have emw : IntKind.i64.wrap ((m : Int) + (j : Int) - (i : Int)) = ((m + j - i : Nat) : Int) := by rw [IntKind.wrap_i64]; omega
        clear hc HQ
        go_wp2_with fail
        refine (HC.out _ S1.out).mono ?_
        rintro e w' ⟨rfl, S2⟩
        have S3 : Aside (SWK encO 5 w0 blk off (swapRange dk (m - i) (m + j - i) i) w') := S2
        clear S2 S1
        go_wp2
        go_roundg k
        case measure => omega
        case rel => exact ⟨i, j - i, k, _, rfl, by go_num, by omega, by omega, by omega, by omega, by omega, by omega, by rw [size_swapRange]; exact hds, S3, HQ2⟩
end Go.Proofs.Ytgffjhbmggmcoaa.PF
