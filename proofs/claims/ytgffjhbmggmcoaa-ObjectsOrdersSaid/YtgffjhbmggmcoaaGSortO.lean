/- The walks of slices.SortStableFunc with the objects' comparison, and of objects.Order: the result is a new row that holds the stable sort; condition: what came in reads as a list of objects. -/
import Derived.Test.YtgffjhbmggmcoaaGSortM
namespace Go.Proofs.Ytgffjhbmggmcoaa.PF
open Go.RowKit Go.Shelf Go.Lib Go.Sort Go.Proofs.Ytgffjhbmggmcoaa.SortD Go.Proofs.YtgffjhbmggmcoaaW.PrintWords
set_option linter.unusedVariables false
attribute [local go_sem ↓] loadVar_O storeVar_O

theorem isNaN_calls (a : Int) (w : World) : Calls Try.prog 22 #[.int .u8 a] w fun e w' => e = .returned (.bool false) ∧ w = w' := by
  have h : (a != a) = false := by simp
  go_enter Try.func22, Try.ntmps22
  go_wp2
  go_ret
  exact ⟨rfl, rfl⟩

def cmpI (a b : Int) : Int := if a < b then -1 else if b < a then 1 else 0
set_option maxHeartbeats 400000 in
theorem compare_calls (a b : Int) (w : World) : Calls Try.prog 16 #[.int .u8 a, .int .u8 b] w fun e w' => e = .returned (.int .i64 (cmpI a b)) ∧ w = w' := by
  by_cases h1 : a < b
  · have e : cmpI a b = -1 := by unfold cmpI; rw [if_pos h1]
    rw [e]
    go_enter Try.func16, Try.ntmps16
    go_wp2_with (go_at_call 22; refine (isNaN_calls _ _).mono ?_; rintro e w' ⟨rfl, rfl⟩)
    go_ret
    exact ⟨rfl, rfl⟩
  · by_cases h2 : b < a
    · have e : cmpI a b = 1 := by unfold cmpI; rw [if_neg h1, if_pos h2]
      rw [e]
      go_enter Try.func16, Try.ntmps16
      go_wp2_with (go_at_call 22; refine (isNaN_calls _ _).mono ?_; rintro e w' ⟨rfl, rfl⟩)
      go_ret
      exact ⟨rfl, rfl⟩
    · have e : cmpI a b = 0 := by unfold cmpI; rw [if_neg h1, if_neg h2]
      rw [e]
      go_enter Try.func16, Try.ntmps16
      go_wp2_with (go_at_call 22; refine (isNaN_calls _ _).mono ?_; rintro e w' ⟨rfl, rfl⟩)
      go_ret
      exact ⟨rfl, rfl⟩

def cfO (x y : S28) : Int := if cmpI x.f1 y.f1 = 0 then cmpI x.f4 y.f4 else cmpI x.f1 y.f1
set_option maxHeartbeats 1000000 in
theorem closure_calls (x y : S28) (w : World) : Calls Try.prog 15 #[.agg (encO x).toArray, .agg (encO y).toArray] w fun e w' => e = .returned (.int .i64 (cfO x y)) ∧ ∃ q os', w' = grow (w.drewN q) os' := by
  have c1 := fun W => compare_calls x.f1 y.f1 W
  have c2 := fun W => compare_calls x.f4 y.f4 W
  have HF : Hid (cfO x y = if cmpI x.f1 y.f1 = 0 then cmpI x.f4 y.f4 else cmpI x.f1 y.f1) := rfl
  generalize cmpI x.f1 y.f1 = r1 at c1 HF
  generalize cmpI x.f4 y.f4 = r2 at c2 HF
  unfold encO
  by_cases h : r1 = 0
  · have h1 : (r1 != 0) = false := by simpa using h
    have HH : Hid (r1 = 0) := h
    clear h
    go_enter Try.func15, Try.ntmps15
    go_wp2_with fail
    refine (c1 _).mono ?_
    rintro e w' ⟨rfl, rfl⟩
    go_wp2_with fail
    refine (c2 _).mono ?_
    rintro e w' ⟨rfl, rfl⟩
    go_wp2
    go_ret
    exact ⟨by rw [HF.out, if_pos HH.out]; rfl, 0, _, by rw [alloc_eq_grow, alloc_eq_grow, grow_grow]; rfl⟩
  · have h1 : (r1 != 0) = true := by simpa using h
    have HH : Hid (¬ r1 = 0) := h
    clear h
    go_enter Try.func15, Try.ntmps15
    go_wp2_with fail
    refine (c1 _).mono ?_
    rintro e w' ⟨rfl, rfl⟩
    go_wp2
    go_ret
    exact ⟨by rw [HF.out, if_neg HH.out]; rfl, 0, _, by rw [alloc_eq_grow, alloc_eq_grow, grow_grow]; rfl⟩

theorem cmpLaysO (blk off size : Nat) (w : World) : CmpLays Try.prog 15 #[] encO 5 cfO blk off size w := fun _ _ _ _ x y => closure_calls x y _

set_option maxHeartbeats 4000000 in
set_option maxRecDepth 100000 in
/-- slices.stableCmpFunc. -/
theorem stable_calls (cf : S28 → S28 → Int) (g : Nat) (cb : Array Value) (blk off cap : Nat) (d : Array S28) (w0 w : World)
    (eg : ∀ args w, (callFunc g args).run Try.prog w = .ok (.enter g args) w) (HC : CmpLays Try.prog g cb encO 5 cf blk off d.size w0)
    (R : RowK encO 5 w0 blk off d) (S : SWK encO 5 w0 blk off d w) (hsz : d.size < 1000000000000000000) :
    Calls Try.prog 21 #[.slice (some ⟨blk, off, none⟩) d.size cap, .int .i64 d.size, .func (.func g) #[] cb] w fun e w' => e = .returned (.tuple #[]) ∧ SWK encO 5 w0 blk off (stable (ltOf cf) d) w' := by
  have S0 : Aside (SWK encO 5 w0 blk off d w) := S
  have hins : Aside (∀ (a b : Nat) (dk : Array S28) (W : World), dk.size = d.size → SWK encO 5 w0 blk off dk W → a ≤ b → b ≤ d.size →
      Calls Try.prog 23 #[.slice (some ⟨blk, off, none⟩) d.size cap, .int .i64 a, .int .i64 b, .func (.func g) #[] cb] W fun e w' => e = .returned (.tuple #[]) ∧ SWK encO 5 w0 blk off (Sort.insertionSort (ltOf cf) dk a b) w') := fun a b dk W h1 h2 h3 h4 => by
    have h := insertion_calls cf g cb blk off cap a b d dk w0 W eg (by rw [h1]; exact HC) R h1.symm h2 h3 (by omega) (by omega)
    rw [h1] at h
    exact h
  have hsym : Aside (∀ f, SymSaid cf g cb blk off cap d w0 f) := symMerge_calls cf g cb blk off cap d w0 eg HC R (by omega)
  clear S R HC
  go_enter Try.func21, Try.ntmps21
  go_wp2
  -- the blocks of 20
  go_loopg [7, 8] (d.size + 1) (fun g1 va vb wr => ∃ (a k : Nat) (dk : Array S28), va = .int .i64 a ∧ vb = .int .i64 ((a + 20 : Nat) : Int) ∧ a ≤ d.size ∧ k ≤ g1 ∧ d.size - a ≤ k ∧ dk.size = d.size ∧ Aside (SWK encO 5 w0 blk off dk wr) ∧ Hid (blocksGo (ltOf cf) d.size k a dk = blocksGo (ltOf cf) d.size (d.size + 1) 0 d))
  case atStart => exact ⟨0, d.size + 1, d, rfl, rfl, by omega, by omega, by omega, rfl, S0, rfl⟩
  case round =>
    clear S0
    obtain ⟨a, k, dk, rfl, rfl, had, hkg, hka, hds, S1, HQ⟩ := hrel
    by_cases hlt : a + 20 ≤ d.size
    · obtain ⟨k, rfl⟩ : ∃ k', k = k' + 1 := ⟨k - 1, by omega⟩
      have hltz : (((a + 20 : Nat) : Int)) ≤ (d.size : Int) := by omega
      have hltz' : (a : Int) + 20 ≤ (d.size : Int) := by omega
      have hc := fun W (S : SWK encO 5 w0 blk off dk W) => hins a (a + 20) dk W hds S (by omega) hlt
      have HC : Hid _ := hc
      have HQ2 : Hid (blocksGo (ltOf cf) d.size k (a + 20) (Sort.insertionSort (ltOf cf) dk a (a + 20)) = blocksGo (ltOf cf) d.size (d.size + 1) 0 d) := by show _ = _; rw [← HQ.out, blocksGo, if_pos hlt]
      clear hc HQ
      obtain ⟨a2, ha2⟩ : ∃ a2, a2 = a + 20 := ⟨_, rfl⟩
      rw [← ha2] at HC HQ2 hltz ⊢
      have HA2 : Hid (a2 = a + 20) := ha2
      have wa2 : IntKind.i64.wrap ((a2 : Int) + 20) = ((a2 + 20 : Nat) : Int) := by rw [IntKind.wrap_i64]; omega
      clear ha2 hltz'
      go_wp2_with fail
      refine (HC.out _ S1.out).mono ?_
      rintro e w' ⟨rfl, S2⟩
      have S3 : Aside _ := S2
      clear S1 S2
      go_wp2
      go_roundg k
      case measure => omega
      case rel => exact ⟨a2, k, _, rfl, by first | rfl | go_num, by have := HA2.out; omega, Nat.le_refl _, by have := HA2.out; omega, by rw [size_insertionSort]; exact hds, S3, HQ2⟩
    · have hltz : ¬ (((a + 20 : Nat) : Int)) ≤ (d.size : Int) := by omega
      have hltz' : ¬ (a : Int) + 20 ≤ (d.size : Int) := by omega
      have hc := fun W (S : SWK encO 5 w0 blk off dk W) => hins a d.size dk W hds S (by omega) (Nat.le_refl _)
      have HC : Hid _ := hc
      obtain ⟨db, hdb⟩ : ∃ x, x = Sort.insertionSort (ltOf cf) dk a d.size := ⟨_, rfl⟩
      rw [← hdb] at HC
      have hdbs : db.size = d.size := by rw [hdb, size_insertionSort]; exact hds
      have HQ2 : Hid (db = blocksGo (ltOf cf) d.size (d.size + 1) 0 d) := by
        show _ = _
        rw [← HQ.out, hdb]
        cases k with
        | zero => rw [blocksGo]
        | succ k => rw [blocksGo, if_neg hlt]
      clear hc HQ hdb
      go_wp2_with fail
      refine (HC.out _ S1.out).mono ?_
      rintro e w' ⟨rfl, S2⟩
      have S3 : Aside _ := S2
      clear S1 S2 HC
      go_wp2_with fail
      go_loopg [6, 7, 8, 9] (d.size + 1) (fun g1 vs _va _vb _vm wr => ∃ (s k : Nat) (dk : Array S28), vs = .int .i64 s ∧ 0 < s ∧ s < 4000000000000000000 ∧ k ≤ g1 ∧ d.size - s < k ∧ dk.size = d.size ∧ Aside (SWK encO 5 w0 blk off dk wr) ∧ Hid (sizesGo (ltOf cf) d.size k s dk = stable (ltOf cf) d))
      case atStart => exact ⟨20, d.size + 1, db, rfl, by omega, by omega, by omega, by omega, hdbs, S3, (show Hid _ from by show _ = _; rw [HQ2.out]; rfl)⟩
      case round =>
        clear S3 HQ2 hdbs hka hkg had
        obtain ⟨s, k, dk, rfl, hs0, hs1, hkg, hks, hds, S1, HQ⟩ := hrel
        obtain ⟨k, rfl⟩ : ∃ k', k = k' + 1 := ⟨k - 1, by omega⟩
        by_cases hss : s < d.size
        · have hssz : (s : Int) < (d.size : Int) := by omega
          obtain ⟨s2, hs2⟩ : ∃ s2, s2 = 2 * s := ⟨_, rfl⟩
          have es2 : IntKind.i64.wrap (2 * (s : Int)) = (s2 : Int) := by rw [IntKind.wrap_i64]; omega
          have ez2 : 2 * (s : Int) = (s2 : Int) := by omega
          have HS2 : Hid (s2 = 2 * s) := hs2
          have bs2 : s2 < 2000000000000000000 := by omega
          have HQ2 : Hid (sizesGo (ltOf cf) d.size k s2 (mergesGo (ltOf cf) d.size s (d.size + 1) 0 dk) = stable (ltOf cf) d) := by show _ = _; rw [← HQ.out, sizesGo, if_pos hss, hs2]
          clear hs2 HQ
          go_wp2_with fail
          go_loopg [7, 8] (d.size + 1) (fun g2 va vb wr => ∃ (a k : Nat) (dj : Array S28), va = .int .i64 a ∧ vb = .int .i64 ((a + s2 : Nat) : Int) ∧ a ≤ d.size ∧ k ≤ g2 ∧ d.size - a < k ∧ dj.size = d.size ∧ Aside (SWK encO 5 w0 blk off dj wr) ∧ Hid (mergesGo (ltOf cf) d.size s k a dj = mergesGo (ltOf cf) d.size s (d.size + 1) 0 dk))
          case atStart => exact ⟨0, d.size + 1, dk, rfl, by first | rfl | go_num | (congr 1; omega), by omega, by omega, by omega, hds, S1, rfl⟩
          case round =>
            clear S1
            obtain ⟨a', k', dj, rfl, rfl, had, hkg', hka, hdj, S2, HM⟩ := hrel
            obtain ⟨k', rfl⟩ : ∃ k2, k' = k2 + 1 := ⟨k' - 1, by omega⟩
            obtain ⟨a2, ha2⟩ : ∃ a2, a2 = a' + s2 := ⟨_, rfl⟩
            rw [← ha2]
            have wa2 : IntKind.i64.wrap ((a2 : Int) + (s2 : Int)) = ((a2 + s2 : Nat) : Int) := by rw [IntKind.wrap_i64]; omega
            have wm : IntKind.i64.wrap ((a' : Int) + (s : Int)) = ((a' + s : Nat) : Int) := by rw [IntKind.wrap_i64]; omega
            obtain ⟨am, ham⟩ : ∃ am, am = a' + s := ⟨_, rfl⟩
            rw [← ham] at wm
            by_cases hle : a2 ≤ d.size
            · have hlez : (a2 : Int) ≤ (d.size : Int) := by omega
              have hc := fun W (S : SWK encO 5 w0 blk off dj W) => hsym.out s2 a' am a2 dj W hdj S (by omega) (by have := HS2.out; omega) hle (by omega)
              have HC : Hid _ := hc
              have HM2 : Hid (mergesGo (ltOf cf) d.size s k' a2 (symMerge (ltOf cf) s2 dj a' am a2) = mergesGo (ltOf cf) d.size s (d.size + 1) 0 dk) := by
                show _ = _
                rw [← HM.out, mergesGo, if_pos (by have := HS2.out; omega), ham, ha2, HS2.out]
              have HA2 : Hid (a2 = a' + s2) := ha2
              have HAM : Hid (am = a' + s) := ham
              clear ha2 ham hc HM
              go_wp2_with fail
              refine (HC.out _ S2.out).mono ?_
              rintro e w' ⟨rfl, S3⟩
              have S4 : Aside _ := S3
              clear S2 S3
              go_wp2
              go_roundg k'
              case measure => omega
              case rel => exact ⟨a2, k', _, rfl, by first | rfl | go_num, hle, Nat.le_refl _, by have := HA2.out; have := HS2.out; omega, by rw [size_symMerge]; exact hdj, S4, HM2⟩
            · have hlez : ¬ (a2 : Int) ≤ (d.size : Int) := by omega
              by_cases hmn : am < d.size
              · have hmnz : (am : Int) < (d.size : Int) := by omega
                have hc := fun W (S : SWK encO 5 w0 blk off dj W) => hsym.out (d.size - a') a' am d.size dj W hdj S (by omega) hmn (Nat.le_refl _) (Nat.le_refl _)
                have HC : Hid _ := hc
                have HQ3 : Hid (sizesGo (ltOf cf) d.size k s2 (symMerge (ltOf cf) (d.size - a') dj a' am d.size) = stable (ltOf cf) d) := by
                  show _ = _
                  rw [← HQ2.out, ← HM.out, mergesGo, if_neg (by have := HS2.out; omega), if_pos (by omega), ham]
                have HA2 : Hid (a2 = a' + s2) := ha2
                have HAM : Hid (am = a' + s) := ham
                clear ha2 ham hc HM HQ2
                go_wp2_with fail
                refine (HC.out _ S2.out).mono ?_
                rintro e w' ⟨rfl, S3⟩
                have S4 : Aside _ := S3
                clear S2 S3
                go_wp2
                go_roundg k
                case measure => omega
                case rel => exact ⟨s2, k, _, by first | rfl | (have := HS2.out; congr 1; omega), by have := HS2.out; omega, by omega, Nat.le_refl _, by have := HS2.out; omega, by rw [size_symMerge]; exact hdj, S4, HQ3⟩
              · have hmnz : ¬ (am : Int) < (d.size : Int) := by omega
                have HQ3 : Hid (sizesGo (ltOf cf) d.size k s2 dj = stable (ltOf cf) d) := by
                  show _ = _
                  rw [← HQ2.out, ← HM.out, mergesGo, if_neg (by have := HS2.out; omega), if_neg (by omega)]
                have HA2 : Hid (a2 = a' + s2) := ha2
                have HAM : Hid (am = a' + s) := ham
                clear ha2 ham HM HQ2
                go_wp2
                go_roundg k
                case measure => omega
                case rel => exact ⟨s2, k, dj, by first | rfl | (have := HS2.out; congr 1; omega), by have := HS2.out; omega, by omega, Nat.le_refl _, by have := HS2.out; omega, hdj, S2, HQ3⟩
        · have hssz : ¬ (s : Int) < (d.size : Int) := by omega
          have HR2 : Hid (dk = stable (ltOf cf) d) := by show _ = _; rw [← HQ.out, sizesGo, if_neg hss]
          clear HQ
          go_wp2
          go_end0
          refine ⟨rfl, ?_⟩
          rw [← HR2.out]
          exact S1.out
end Go.Proofs.Ytgffjhbmggmcoaa.PF
