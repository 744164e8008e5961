/- The walk of slices' insertion sort at api.Obj: it leaves in the row what the plain function says; condition: the comparison is a plain function that lays blocks of its own alone. -/
import Derived.Test.YtgffjhbmggmcoaaGSortW
namespace Go.Proofs.Ytgffjhbmggmcoaa.PF
open Go.RowKit Go.Shelf Go.Lib Go.Sort Go.Proofs.Ytgffjhbmggmcoaa.SortD
set_option linter.unusedVariables false
attribute [local go_sem ↓] loadVar_O storeVar_O

theorem SWK.ldv {w0 W : World} {blk off : Nat} {dk d0 : Array S28} (h : SWK encO 5 w0 blk off dk W) (R : RowK encO 5 w0 blk off d0) (hs : dk.size = d0.size) (i : Nat) (hi : i < dk.size) (n : Nat) (os : Array Obj) :
    Sem.run Try.prog (ldO ⟨blk, off + i * 5, none⟩) (grow (W.drewN n) os) = .ok (.agg (encO dk[i]!).toArray) (grow (W.drewN n) os) := run_ldO (h.ld R hs _ i hi n os)

set_option maxHeartbeats 2000000 in
set_option maxRecDepth 100000 in
theorem insertion_calls (cf : S28 → S28 → Int) (g : Nat) (cb : Array Value) (blk off cap a b : Nat) (d0 d : Array S28) (w0 w : World)
    (eg : ∀ args w, (callFunc g args).run Try.prog w = .ok (.enter g args) w) (HC : CmpLays Try.prog g cb encO 5 cf blk off d.size w0)
    (R : RowK encO 5 w0 blk off d0) (hs : d0.size = d.size) (S : SWK encO 5 w0 blk off d w) (hab : a ≤ b) (hb : b ≤ d.size) (hsz : d.size < 4611686018427387904) :
    Calls Try.prog 23 #[.slice (some ⟨blk, off, none⟩) d.size cap, .int .i64 a, .int .i64 b, .func (.func g) #[] cb] w fun e w' => e = .returned (.tuple #[]) ∧ SWK encO 5 w0 blk off (Sort.insertionSort (ltOf cf) d a b) w' := by
  have S0 : Aside (SWK encO 5 w0 blk off d w) := S
  have HR : Aside _ := R
  have HCC : Aside _ := HC
  have mixed : Try.prog.follows Departure.mixedOrders = true := by kernel_rfl
  clear S R HC
  go_enter Try.func23, Try.ntmps23
  go_wp2
  go_loopg [8] (b - a) (fun g1 vi wr => ∃ (i : Nat) (dk : Array S28), vi = .int .i64 i ∧ a < i ∧ i ≤ b + 1 ∧ b + 1 - i ≤ g1 + 1 ∧ dk.size = d.size ∧ Aside (SWK encO 5 w0 blk off dk wr) ∧ Hid (insOuter (ltOf cf) a b i dk = insOuter (ltOf cf) a b (a + 1) d))
  case atStart => exact ⟨a + 1, d, by go_num, by omega, by omega, by omega, rfl, S0, rfl⟩
  case round =>
    clear S0
    obtain ⟨i, dk, rfl, hai, hib, hg1, hsk, S1, HO⟩ := hrel
    by_cases hlt : i < b
    · have hltz : (i : Int) < (b : Int) := by omega
      go_wp2
      go_loopg [9] i (fun g2 vj wr2 => ∃ (j : Nat) (dj : Array S28), vj = .int .i64 j ∧ a ≤ j ∧ j ≤ i ∧ j ≤ g2 ∧ dj.size = d.size ∧ Aside (SWK encO 5 w0 blk off dj wr2) ∧ Hid (insInner (ltOf cf) a j dj = insInner (ltOf cf) a i dk))
      case atStart => exact ⟨i, dk, rfl, by omega, Nat.le_refl _, Nat.le_refl _, hsk, S1, rfl⟩
      case round =>
        clear S1
        obtain ⟨j, dj, rfl, haj, hji, hg2, hsj, S2, HI⟩ := hrel
        have out : (j ≤ a ∨ ltOf cf dj[j]! dj[j - 1]! = false) → Hid (insOuter (ltOf cf) a b (i + 1) dj = insOuter (ltOf cf) a b (a + 1) d) := fun hs => by
          show _ = _
          rw [← HO.out, insOuter_go _ _ _ _ _ hlt, ← HI.out, insInner_stop _ _ _ _ hs]
        have OUT : Aside _ := out
        clear out
        by_cases hja : a < j
        · obtain ⟨jp, rfl⟩ : ∃ jp, j = jp + 1 := ⟨j - 1, by omega⟩
          obtain ⟨xj, hxj⟩ : ∃ x, dj[jp + 1]! = x := ⟨_, rfl⟩
          obtain ⟨xp, hxp⟩ : ∃ x, dj[jp]! = x := ⟨_, rfl⟩
          have hwp : IntKind.i64.wrap (jp : Int) = (jp : Int) := by rw [IntKind.wrap_i64]; omega
          have jz : (jp : Int) + 1 < (d.size : Int) := by omega
          have jz1 : (jp : Int) < (d.size : Int) := by omega
          have hjaz' : (a : Int) < (jp : Int) + 1 := by omega
          have p0 : (0 : Int) ≤ (jp : Int) + 1 := by omega
          have e0 : ((jp : Int) + 1).toNat = jp + 1 := by omega
          have lj := SWK.ldv S2.out HR.out (by omega) (jp + 1) (by omega)
          have lp := SWK.ldv S2.out HR.out (by omega) jp (by omega)
          rw [hxj] at lj
          rw [hxp] at lp
          have hcg := S2.out.cmp HCC.out hsj xj xp
          have HX : Hid (dj[jp + 1]! = xj ∧ dj[jp]! = xp) := ⟨hxj, hxp⟩
          clear hxj hxp
          by_cases hlv : cf xj xp < 0
          · go_wp2_with fail
            go_quiet_grown (first | (go_at_fn g; refine Calls.grown_of (hcg _ _)))
            clear lj lp hcg
            have S3 : Aside (SWK encO 5 w0 blk off dj (grow (wr.drewN nq) osq)) := S2.out.grown nq osq
            clear S2
            generalize grow (wr.drewN nq) osq = wq2 at S3 ⊢
            go_wp2_with fail
            have S4 : Aside (SWK encO 5 w0 blk off (swp dj (jp + 1) jp) ((wq2.drew.setCells blk (off + (jp + 1) * 5) (encO dj[jp]!)).setCells blk (off + jp * 5) (encO dj[jp + 1]!))) := S3.out.swapped HR.out (jp + 1) jp (by omega) (by omega)
            have l1 := run_ldO (S3.out.ld1 HR.out (by omega) Try.prog (jp + 1) (by omega))
            have l2 := run_ldO (S3.out.ld1 HR.out (by omega) Try.prog jp (by omega))
            have s1 := run_stO (HR.out.hk _) (S3.out.st1 HR.out (by omega) Try.prog (jp + 1) (by omega) dj[jp]!)
            have s2 := run_stO (HR.out.hk _) (S3.out.st2 HR.out (by omega) Try.prog (jp + 1) jp (by omega) (by omega) dj[jp]! dj[jp + 1]!)
            generalize encO dj[jp + 1]! = cI at S4 l1 s2
            generalize encO dj[jp]! = cJ at S4 l2 s1 s2
            clear S3
            go_big_region
            clear l1 l2 s1 s2
            generalize (wq2.drew.setCells blk (off + (jp + 1) * 5) cJ).setCells blk (off + jp * 5) cI = w4 at S4 ⊢
            go_wp2
            go_roundg jp
            case measure => omega
            case rel =>
              refine ⟨jp, swp dj (jp + 1) jp, by first | rfl | go_num | (congr 1; omega), by omega, by omega, Nat.le_refl _, by rw [size_swp]; exact hsj, S4, (show Hid _ from ?_)⟩
              show _ = _
              have := insInner_go (ltOf cf) a (jp + 1) dj hja (by simp only [Nat.add_sub_cancel]; rw [HX.out.1, HX.out.2]; exact decide_eq_true hlv)
              simp only [Nat.add_sub_cancel] at this
              rw [← HI.out, this]
          · go_wp2_with fail
            go_quiet_grown (first | (go_at_fn g; refine Calls.grown_of (hcg _ _)))
            clear lj lp hcg
            have S3 : Aside (SWK encO 5 w0 blk off dj (grow (wr.drewN nq) osq)) := S2.out.grown nq osq
            clear S2
            go_wp2
            go_roundg (b - (i + 1))
            case measure => omega
            case rel => exact ⟨i + 1, dj, by go_num, by omega, by omega, by omega, hsj, S3, OUT.out (Or.inr (by simp only [Nat.add_sub_cancel]; rw [HX.out.1, HX.out.2]; exact decide_eq_false (by omega)))⟩
        · have hjaz : decide ((j : Int) > (a : Int)) = false := decide_eq_false (by omega)
          have hjaz' : ¬ (a : Int) < (j : Int) := by omega
          have S3 : Aside (SWK encO 5 w0 blk off dj wr.drew) := S2.out.drew
          clear S2
          go_wp2_with fail
          go_big_region
          all_goals go_wp2
          go_roundg (b - (i + 1))
          case measure => omega
          case rel => exact ⟨i + 1, dj, by go_num, by omega, by omega, by omega, hsj, S3, OUT.out (Or.inl (by omega))⟩
    · have hltz : ¬ (i : Int) < (b : Int) := by omega
      go_wp2
      go_end0
      refine ⟨rfl, ?_⟩
      unfold Sort.insertionSort
      rw [← HO.out, insOuter_stop _ _ _ _ _ hlt]
      exact S1.out
end Go.Proofs.Ytgffjhbmggmcoaa.PF
