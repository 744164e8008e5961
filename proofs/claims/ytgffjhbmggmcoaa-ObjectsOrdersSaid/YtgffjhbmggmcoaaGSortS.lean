/- The walk of slices' symmetric merge at api.Obj: it leaves in the row what the plain function says; condition: as the insertion sort's, the bounds in order. -/
import Derived.Test.YtgffjhbmggmcoaaGSortI
namespace Go.Proofs.Ytgffjhbmggmcoaa.PF
open Go.RowKit Go.Shelf Go.Lib Go.Sort Go.Proofs.Ytgffjhbmggmcoaa.SortD
set_option linter.unusedVariables false
attribute [local go_sem ↓] loadVar_O storeVar_O

set_option maxHeartbeats 2000000 in
set_option maxRecDepth 100000 in
theorem symMerge_one (cf : S28 → S28 → Int) (g : Nat) (cb : Array Value) (blk off cap a m b : Nat) (d0 d : Array S28) (w0 w : World)
    (eg : ∀ args w, (callFunc g args).run Try.prog w = .ok (.enter g args) w) (HC : CmpLays Try.prog g cb encO 5 cf blk off d.size w0)
    (R : RowK encO 5 w0 blk off d0) (hs : d0.size = d.size) (S : SWK encO 5 w0 blk off d w) (ham : a < m) (hmb : m < b) (hb : b ≤ d.size) (hsz : d.size < 4611686018427387904) (h1 : m - a = 1) :
    Calls Try.prog 24 #[.slice (some ⟨blk, off, none⟩) d.size cap, .int .i64 a, .int .i64 m, .int .i64 b, .func (.func g) #[] cb] w fun e w' => e = .returned (.tuple #[]) ∧
      SWK encO 5 w0 blk off (moveUp d a (bs (fun h => ltOf cf d[h]! d[a]!) (b - m) m b - 1 - a)) w' := by
  have S0 : Aside (SWK encO 5 w0 blk off d w) := S
  have HR : Aside _ := R
  have HCC : Aside _ := HC
  have mixed : Try.prog.follows Departure.mixedOrders = true := by kernel_rfl
  clear S R HC
  have t1 : (wrap64 ((m : Int) - (a : Int)) == 1) = true := by unfold wrap64; rw [beq_iff_eq]; omega
  have t2 : ((m : Int) - (a : Int) == 1) = true := by rw [beq_iff_eq]; omega
  have H1 : Hid (m - a = 1) := h1
  clear h1
  go_enter Try.func24, Try.ntmps24
  go_wp2
  clear t1 t2
  go_loopg [10, 11, 12] (b - m) (fun g1 vi vj vh wr => ∃ (i j k : Nat), vi = .int .i64 i ∧ vj = .int .i64 j ∧ m ≤ i ∧ i ≤ j ∧ j ≤ b ∧ j - i ≤ k ∧ k ≤ g1 ∧ Aside (SWK encO 5 w0 blk off d wr) ∧ Hid (bs (fun h => ltOf cf d[h]! d[a]!) k i j = bs (fun h => ltOf cf d[h]! d[a]!) (b - m) m b))
  case atStart => exact ⟨m, b, b - m, rfl, rfl, by omega, by omega, by omega, by omega, Nat.le_refl _, S0, rfl⟩
  case round =>
    clear S0
    obtain ⟨i, j, k, rfl, rfl, hmi, hij, hjb, hk, hkg, S1, HQ⟩ := hrel
    by_cases hlt : i < j
    · have hltz : (i : Int) < (j : Int) := by omega
      obtain ⟨k, rfl⟩ : ∃ k', k = k' + 1 := ⟨k - 1, by omega⟩
      obtain ⟨q, hq⟩ : ∃ q, q = (i + j) / 2 := ⟨_, rfl⟩
      have eq : ((i : Int) + (j : Int)) / 2 = (q : Int) := by omega
      have bq1 : i ≤ q := by omega
      have bq2 : q < j := by omega
      have z1 : (q : Int) < (d.size : Int) := by omega
      have z2 : (a : Int) < (d.size : Int) := by omega
      have wq : IntKind.i64.wrap (q : Int) = (q : Int) := by rw [IntKind.wrap_i64]; omega
      have wa : IntKind.i64.wrap (a : Int) = (a : Int) := by rw [IntKind.wrap_i64]; omega
      have l1 := SWK.ldv S1.out HR.out (by omega) q (by omega)
      have l2 := SWK.ldv S1.out HR.out (by omega) a (by omega)
      have hcg := S1.out.cmp HCC.out rfl d[q]! d[a]!
      have HB : Hid (bs (fun h => ltOf cf d[h]! d[a]!) (k + 1) i j = if ltOf cf d[q]! d[a]! then bs (fun h => ltOf cf d[h]! d[a]!) k (q + 1) j else bs (fun h => ltOf cf d[h]! d[a]!) k i q) := by
        show _ = _
        rw [bs, if_pos hlt, hq]
      have HL : Hid (ltOf cf d[q]! d[a]! = decide (cf d[q]! d[a]! < 0)) := rfl
      clear hq
      generalize cf d[q]! d[a]! = cc at hcg HL
      generalize encO d[q]! = c1 at l1 hcg
      generalize encO d[a]! = c2 at l2 hcg
      by_cases hlv : cc < 0
      · go_wp2_with fail
        go_quiet_grown (first | (go_at_fn g; refine Calls.grown_of (hcg _ _)))
        clear l1 l2 hcg
        have S3 : Aside (SWK encO 5 w0 blk off d (grow (wr.drewN nq) osq)) := S1.out.grown nq osq
        clear S1
        go_wp2
        go_roundg k
        case measure => omega
        case rel => exact ⟨q + 1, j, k, by go_num, rfl, by omega, by omega, by omega, by omega, Nat.le_refl _, S3, (show Hid _ from by show _ = _; rw [← HQ.out, HB.out, HL.out, if_pos (by simpa using hlv)])⟩
      · go_wp2_with fail
        go_quiet_grown (first | (go_at_fn g; refine Calls.grown_of (hcg _ _)))
        clear l1 l2 hcg
        have S3 : Aside (SWK encO 5 w0 blk off d (grow (wr.drewN nq) osq)) := S1.out.grown nq osq
        clear S1
        go_wp2
        go_roundg k
        case measure => omega
        case rel => exact ⟨i, q, k, rfl, rfl, by omega, by omega, by omega, by omega, Nat.le_refl _, S3, (show Hid _ from by show _ = _; rw [← HQ.out, HB.out, HL.out, if_neg (by simpa using hlv)])⟩
    · have hltz : ¬ (i : Int) < (j : Int) := by omega
      obtain rfl : i = j := by omega
      have HI : Hid (bs (fun h => ltOf cf d[h]! d[a]!) (b - m) m b = i) := by
        show _ = _
        rw [← HQ.out]
        cases k with
        | zero => rfl
        | succ k => rw [bs, if_neg (by omega)]
      clear HQ hk hlt
      have wa : IntKind.i64.wrap ((i : Int) - 1) = (i : Int) - 1 := by rw [IntKind.wrap_i64]; omega
      have HR2 : Hid (moveUp d a (i - 1 - a) = moveUp d a (bs (fun h => ltOf cf d[h]! d[a]!) (b - m) m b - 1 - a)) := by show _ = _; rw [HI.out]
      clear HI
      go_wp2
      go_loopg [13] b (fun g1 vk wr => ∃ (k n : Nat) (dk : Array S28), vk = .int .i64 k ∧ a ≤ k ∧ k + n + 1 = i ∧ n ≤ g1 ∧ dk.size = d.size ∧ Aside (SWK encO 5 w0 blk off dk wr) ∧ Hid (moveUp dk k n = moveUp d a (i - 1 - a)))
      case atStart => exact ⟨a, i - 1 - a, d, rfl, Nat.le_refl _, by have := H1.out; omega, by omega, rfl, S1, rfl⟩
      case round =>
        clear S1
        obtain ⟨k, n, dk, rfl, hak, hkn, hng, hds, S2, HQ⟩ := hrel
        cases n with
        | zero =>
          have hz : ¬ (k : Int) < (i : Int) - 1 := by omega
          have HKN : Hid (k + 0 + 1 = i) := hkn
          clear hkn
          go_wp2
          (try simp only [Exit.inBlock, Exit.then])
          refine bodyPost_ret (results_none rfl _ _ _) rfl ?_
          refine ⟨rfl, ?_⟩
          rw [← HR2.out, ← HQ.out]
          exact S2.out
        | succ n =>
          have hz : (k : Int) < (i : Int) - 1 := by omega
          have z1 : (k : Int) < (d.size : Int) := by omega
          have z2 : (k : Int) + 1 < (d.size : Int) := by omega
          have z3 : (0 : Int) ≤ (k : Int) + 1 := by omega
          have e1 : ((k : Int) + 1).toNat = k + 1 := by omega
          have wk : IntKind.i64.wrap (k : Int) = (k : Int) := by rw [IntKind.wrap_i64]; omega
          have wk1 : IntKind.i64.wrap ((k : Int) + 1) = (k : Int) + 1 := by rw [IntKind.wrap_i64]; omega
          have S4 : Aside (SWK encO 5 w0 blk off (swp dk k (k + 1)) ((wr.drew.setCells blk (off + k * 5) (encO dk[k + 1]!)).setCells blk (off + (k + 1) * 5) (encO dk[k]!))) := S2.out.swapped HR.out k (k + 1) (by omega) (by omega)
          have l1 := run_ldO (S2.out.ld1 HR.out (by omega) Try.prog k (by omega))
          have l2 := run_ldO (S2.out.ld1 HR.out (by omega) Try.prog (k + 1) (by omega))
          have s1 := run_stO (HR.out.hk _) (S2.out.st1 HR.out (by omega) Try.prog k (by omega) dk[k + 1]!)
          have s2 := run_stO (HR.out.hk _) (S2.out.st2 HR.out (by omega) Try.prog k (k + 1) (by omega) (by omega) dk[k + 1]! dk[k]!)
          generalize encO dk[k]! = cI at S4 l1 s2
          generalize encO dk[k + 1]! = cJ at S4 l2 s1 s2
          have HQ2 : Hid (moveUp (swp dk k (k + 1)) (k + 1) n = moveUp d a (i - 1 - a)) := by show _ = _; rw [← HQ.out, moveUp]
          have HKN : Hid (k + (n + 1) + 1 = i) := hkn
          clear S2 HQ hkn
          go_wp2_with fail
          go_big_region
          clear l1 l2 s1 s2
          generalize (wr.drew.setCells blk (off + k * 5) cJ).setCells blk (off + (k + 1) * 5) cI = w4 at S4 ⊢
          go_wp2
          go_roundg n
          case measure => omega
          case rel => exact ⟨k + 1, n, swp dk k (k + 1), by go_num, by omega, by have := HKN.out; omega, by omega, by rw [size_swp]; exact hds, S4, HQ2⟩

set_option maxHeartbeats 2000000 in
set_option maxRecDepth 100000 in
theorem symMerge_two (cf : S28 → S28 → Int) (g : Nat) (cb : Array Value) (blk off cap a m b : Nat) (d0 d : Array S28) (w0 w : World)
    (eg : ∀ args w, (callFunc g args).run Try.prog w = .ok (.enter g args) w) (HC : CmpLays Try.prog g cb encO 5 cf blk off d.size w0)
    (R : RowK encO 5 w0 blk off d0) (hs : d0.size = d.size) (S : SWK encO 5 w0 blk off d w) (ham : a < m) (hmb : m < b) (hb : b ≤ d.size) (hsz : d.size < 4611686018427387904) (h1 : ¬ m - a = 1) (h2 : b - m = 1) :
    Calls Try.prog 24 #[.slice (some ⟨blk, off, none⟩) d.size cap, .int .i64 a, .int .i64 m, .int .i64 b, .func (.func g) #[] cb] w fun e w' => e = .returned (.tuple #[]) ∧
      SWK encO 5 w0 blk off (moveDown d m (m - bs (fun h => !ltOf cf d[m]! d[h]!) (m - a) a m)) w' := by
  have S0 : Aside (SWK encO 5 w0 blk off d w) := S
  have HR : Aside _ := R
  have HCC : Aside _ := HC
  have mixed : Try.prog.follows Departure.mixedOrders = true := by kernel_rfl
  clear S R HC
  have t1 : (wrap64 ((m : Int) - (a : Int)) == 1) = false := by unfold wrap64; rw [beq_eq_false_iff_ne]; omega
  have t2 : ((m : Int) - (a : Int) == 1) = false := by rw [beq_eq_false_iff_ne]; omega
  have t3 : ((b : Int) - (m : Int) == 1) = true := by rw [beq_iff_eq]; omega
  have t4 : (wrap64 ((b : Int) - (m : Int)) == 1) = true := by unfold wrap64; rw [beq_iff_eq]; omega
  have H1 : Hid (¬ m - a = 1 ∧ b - m = 1) := ⟨h1, h2⟩
  clear h1 h2
  go_enter Try.func24, Try.ntmps24
  go_wp2
  clear t1 t2 t3 t4
  go_loopg [14, 15, 16] (m - a) (fun g1 vi vj vh wr => ∃ (i j k : Nat), vi = .int .i64 i ∧ vj = .int .i64 j ∧ a ≤ i ∧ i ≤ j ∧ j ≤ m ∧ j - i ≤ k ∧ k ≤ g1 ∧ Aside (SWK encO 5 w0 blk off d wr) ∧ Hid (bs (fun h => !ltOf cf d[m]! d[h]!) k i j = bs (fun h => !ltOf cf d[m]! d[h]!) (m - a) a m))
  case atStart => exact ⟨a, m, m - a, rfl, rfl, by omega, by omega, by omega, by omega, Nat.le_refl _, S0, rfl⟩
  case round =>
    clear S0
    obtain ⟨i, j, k, rfl, rfl, hmi, hij, hjb, hk, hkg, S1, HQ⟩ := hrel
    by_cases hlt : i < j
    · have hltz : (i : Int) < (j : Int) := by omega
      obtain ⟨k, rfl⟩ : ∃ k', k = k' + 1 := ⟨k - 1, by omega⟩
      obtain ⟨q, hq⟩ : ∃ q, q = (i + j) / 2 := ⟨_, rfl⟩
      have eq : ((i : Int) + (j : Int)) / 2 = (q : Int) := by omega
      have bq1 : i ≤ q := by omega
      have bq2 : q < j := by omega
      have z1 : (q : Int) < (d.size : Int) := by omega
      have z2 : (m : Int) < (d.size : Int) := by omega
      have wq : IntKind.i64.wrap (q : Int) = (q : Int) := by rw [IntKind.wrap_i64]; omega
      have wa : IntKind.i64.wrap (m : Int) = (m : Int) := by rw [IntKind.wrap_i64]; omega
      have l1 := SWK.ldv S1.out HR.out (by omega) q (by omega)
      have l2 := SWK.ldv S1.out HR.out (by omega) m (by omega)
      have hcg := S1.out.cmp HCC.out rfl d[m]! d[q]!
      have HB : Hid (bs (fun h => !ltOf cf d[m]! d[h]!) (k + 1) i j = if ltOf cf d[m]! d[q]! then bs (fun h => !ltOf cf d[m]! d[h]!) k i q else bs (fun h => !ltOf cf d[m]! d[h]!) k (q + 1) j) := by
        show _ = _
        rw [bs, if_pos hlt, hq]
        cases ltOf cf d[m]! d[(i + j) / 2]! <;> rfl
      have HL : Hid (ltOf cf d[m]! d[q]! = decide (cf d[m]! d[q]! < 0)) := rfl
      clear hq
      generalize cf d[m]! d[q]! = cc at hcg HL
      generalize encO d[q]! = c1 at l1 hcg
      generalize encO d[m]! = c2 at l2 hcg
      by_cases hlv : cc < 0
      · have hd1 : decide (cc < 0) = true := decide_eq_true hlv
        go_wp2_with fail
        go_quiet_grown (first | (go_at_fn g; refine Calls.grown_of (hcg _ _)))
        clear l1 l2 hcg
        have S3 : Aside (SWK encO 5 w0 blk off d (grow (wr.drewN nq) osq)) := S1.out.grown nq osq
        clear S1
        go_wp2
        go_roundg k
        case measure => omega
        case rel => exact ⟨i, q, k, rfl, rfl, by omega, by omega, by omega, by omega, Nat.le_refl _, S3, (show Hid _ from by show _ = _; rw [← HQ.out, HB.out, HL.out, if_pos (by simpa using hlv)])⟩
      · have hd1 : decide (cc < 0) = false := decide_eq_false hlv
        go_wp2_with fail
        go_quiet_grown (first | (go_at_fn g; refine Calls.grown_of (hcg _ _)))
        clear l1 l2 hcg
        have S3 : Aside (SWK encO 5 w0 blk off d (grow (wr.drewN nq) osq)) := S1.out.grown nq osq
        clear S1
        go_wp2
        go_roundg k
        case measure => omega
        case rel => exact ⟨q + 1, j, k, by go_num, rfl, by omega, by omega, by omega, by omega, Nat.le_refl _, S3, (show Hid _ from by show _ = _; rw [← HQ.out, HB.out, HL.out, if_neg (by simpa using hlv)])⟩
    · have hltz : ¬ (i : Int) < (j : Int) := by omega
      obtain rfl : i = j := by omega
      have HI : Hid (bs (fun h => !ltOf cf d[m]! d[h]!) (m - a) a m = i) := by
        show _ = _
        rw [← HQ.out]
        cases k with
        | zero => rfl
        | succ k => rw [bs, if_neg (by omega)]
      clear HQ hk hlt
      have HR2 : Hid (moveDown d m (m - i) = moveDown d m (m - bs (fun h => !ltOf cf d[m]! d[h]!) (m - a) a m)) := by show _ = _; rw [HI.out]
      clear HI
      go_wp2
      go_loopg [17] b (fun g1 vk wr => ∃ (k n : Nat) (dk : Array S28), vk = .int .i64 k ∧ k ≤ m ∧ k = i + n ∧ n ≤ g1 ∧ dk.size = d.size ∧ Aside (SWK encO 5 w0 blk off dk wr) ∧ Hid (moveDown dk k n = moveDown d m (m - i)))
      case atStart => exact ⟨m, m - i, d, rfl, Nat.le_refl _, by omega, by omega, rfl, S1, rfl⟩
      case round =>
        clear S1
        obtain ⟨k, n, dk, rfl, hak, hkn, hng, hds, S2, HQ⟩ := hrel
        cases n with
        | zero =>
          have hz : ¬ (i : Int) < (k : Int) := by omega
          have HKN : Hid (k = i + 0) := hkn
          clear hkn
          go_wp2
          (try simp only [Exit.inBlock, Exit.then])
          refine bodyPost_ret (results_none rfl _ _ _) rfl ?_
          refine ⟨rfl, ?_⟩
          rw [← HR2.out, ← HQ.out]
          exact S2.out
        | succ n =>
          obtain ⟨kp, rfl⟩ : ∃ kp, k = kp + 1 := ⟨k - 1, by omega⟩
          have hz : (i : Int) < (kp : Int) + 1 := by omega
          have z1 : (kp : Int) < (d.size : Int) := by omega
          have z2 : (kp : Int) + 1 < (d.size : Int) := by omega
          have z3 : (0 : Int) ≤ (kp : Int) + 1 := by omega
          have e1 : ((kp : Int) + 1).toNat = kp + 1 := by omega
          have wk : IntKind.i64.wrap (kp : Int) = (kp : Int) := by rw [IntKind.wrap_i64]; omega
          have wk1 : IntKind.i64.wrap ((kp : Int) + 1) = (kp : Int) + 1 := by rw [IntKind.wrap_i64]; omega
          have S4 : Aside (SWK encO 5 w0 blk off (swp dk (kp + 1) kp) ((wr.drew.setCells blk (off + (kp + 1) * 5) (encO dk[kp]!)).setCells blk (off + kp * 5) (encO dk[kp + 1]!))) := S2.out.swapped HR.out (kp + 1) kp (by omega) (by omega)
          have l1 := run_ldO (S2.out.ld1 HR.out (by omega) Try.prog kp (by omega))
          have l2 := run_ldO (S2.out.ld1 HR.out (by omega) Try.prog (kp + 1) (by omega))
          have s1 := run_stO (HR.out.hk _) (S2.out.st1 HR.out (by omega) Try.prog (kp + 1) (by omega) dk[kp]!)
          have s2 := run_stO (HR.out.hk _) (S2.out.st2 HR.out (by omega) Try.prog (kp + 1) kp (by omega) (by omega) dk[kp]! dk[kp + 1]!)
          generalize encO dk[kp]! = cI at S4 l1 s1 s2
          generalize encO dk[kp + 1]! = cJ at S4 l2 s2
          have HQ2 : Hid (moveDown (swp dk (kp + 1) kp) kp n = moveDown d m (m - i)) := by show _ = _; rw [← HQ.out, moveDown, Nat.add_sub_cancel]
          have HKN : Hid (kp + 1 = i + (n + 1)) := hkn
          clear S2 HQ hkn
          go_wp2_with fail
          go_big_region
          clear l1 l2 s1 s2
          generalize (wr.drew.setCells blk (off + (kp + 1) * 5) cI).setCells blk (off + kp * 5) cJ = w4 at S4 ⊢
          go_wp2
          go_roundg n
          case measure => omega
          case rel => exact ⟨kp, n, swp dk (kp + 1) kp, by first | rfl | go_num | (congr 1; omega), by omega, by have := HKN.out; omega, by omega, by rw [size_swp]; exact hds, S4, HQ2⟩
end Go.Proofs.Ytgffjhbmggmcoaa.PF
