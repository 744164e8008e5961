/- Texts of this claim, put together: GOpcL3. -/
import Derived.Test.YtpjbfpheenamiaaDoorB8
import Derived.Deep.RegionHeld3
import Derived.Outline
import Derived.WalkKit
import Derived.WalkSpells
import Derived.WalkLawsBesides
/- The walks of opcode.last at given numbers: each answers its form. No condition. -/
namespace Go.Proofs.YtpjbfpheenamiaaDoor.PF
open Go.RowKit Go.Proofs.YtpjbfpheenamiaaDoorW.PrintWords
set_option linter.unusedVariables false
set_option linter.unusedSimpArgs false
set_option maxRecDepth 100000 in
set_option maxHeartbeats 1500000 in
theorem last_0_3 (w : World) : Calls Tryd.prog 56 #[.int .i64 0, .int .i64 3] w fun e w' => e = .returned (.agg #[.int .i64 37, .int .i64 4, .int .i64 0, .int .i64 3, .int .i64 4, .int .i64 4]) ∧ Below w.heap.size w w' := by
  have hi : ∀ w, (Instr.index 90 (.agg #[.int .i64 37, .int .i64 4, .int .i64 0, .int .i64 3, .int .i64 4, .int .i64 4, .int .i64 6, .int .i64 0, .int .i64 0, .int .i64 1, .int .i64 1, .int .i64 1, .int .i64 5, .int .i64 0, .int .i64 0, .int .i64 1, .int .i64 1, .int .i64 1, .int .i64 5, .int .i64 0, .int .i64 0, .int .i64 1, .int .i64 1, .int .i64 1, .int .i64 5, .int .i64 0, .int .i64 0, .int .i64 1, .int .i64 1, .int .i64 1, .int .i64 5, .int .i64 0, .int .i64 0, .int .i64 1, .int .i64 1, .int .i64 1, .int .i64 3, .int .i64 0, .int .i64 0, .int .i64 1, .int .i64 1, .int .i64 1, .int .i64 4, .int .i64 0, .int .i64 0, .int .i64 1, .int .i64 1, .int .i64 1]) (.int .i64 0)).run Tryd.prog w = .ok (.agg #[.int .i64 37, .int .i64 4, .int .i64 0, .int .i64 3, .int .i64 4, .int .i64 4]) w := fun w => by kernel_rfl
  go_enter Tryd.func56, Tryd.ntmps56
  go_wp2_with (first | (go_at_call 54; refine (form_exact _ _ _ _ _ _).mono ?_; rintro e w' ⟨rfl, rfl⟩) | (go_at_call 74; refine (on_exact _ _ _ _ _ _).mono ?_; rintro e w' ⟨rfl, rfl⟩) | (go_at_call 75; refine (stack_other 0 _ (by decide)).mono ?_; rintro e w' ⟨rfl, rfl⟩))
  generalize hwx : ((w.alloc (.cells #[.int .i64 0, .int .i64 0, .int .i64 0, .int .i64 0, .int .i64 0, .int .i64 0] 46)).alloc (.cells #[.int .i64 5, .int .i64 0, .int .i64 0, .int .i64 1, .int .i64 1, .int .i64 1] 46)).alloc (.cells #[.int .i64 5, .int .i64 0, .int .i64 0, .int .i64 1, .int .i64 1, .int .i64 1] 46) = wx
  have hb0 : Below w.heap.size w wx := by rw [← hwx]; exact (((Below.refl _ _).alloc (Nat.le_refl _) _).alloc (by simp) _).alloc (by simp; omega) _
  have hs0 : w.heap.size + 1 + 1 < wx.heap.size := by rw [← hwx]; simp <;> omega
  have hs1 : w.heap.size < wx.heap.size := by rw [← hwx]; simp <;> omega
  have f0 : wx.cell? ⟨w.heap.size + 1 + 1, 0, none⟩ = some (.int .i64 5) := by rw [← hwx]; rw [World.cell?_alloc_at _ _ _ _ (by simp)]; rfl
  have f1 : wx.cell? ⟨w.heap.size + 1 + 1, 1, none⟩ = some (.int .i64 0) := by rw [← hwx]; rw [World.cell?_alloc_at _ _ _ _ (by simp)]; rfl
  have f2 : wx.cell? ⟨w.heap.size + 1 + 1, 2, none⟩ = some (.int .i64 0) := by rw [← hwx]; rw [World.cell?_alloc_at _ _ _ _ (by simp)]; rfl
  have f3 : wx.cell? ⟨w.heap.size + 1 + 1, 3, none⟩ = some (.int .i64 1) := by rw [← hwx]; rw [World.cell?_alloc_at _ _ _ _ (by simp)]; rfl
  have f4 : wx.cell? ⟨w.heap.size + 1 + 1, 4, none⟩ = some (.int .i64 1) := by rw [← hwx]; rw [World.cell?_alloc_at _ _ _ _ (by simp)]; rfl
  have f5 : wx.cell? ⟨w.heap.size + 1 + 1, 5, none⟩ = some (.int .i64 1) := by rw [← hwx]; rw [World.cell?_alloc_at _ _ _ _ (by simp)]; rfl
  have f6 : wx.cell? ⟨w.heap.size, 0, none⟩ = some (.int .i64 0) := by rw [← hwx]; rw [World.cell?_alloc_past _ _ _ (by simp <;> omega), World.cell?_alloc_past _ _ _ (by simp <;> omega), World.cell?_alloc_at _ _ _ _ (by simp <;> omega)]; rfl
  have f7 : wx.cell? ⟨w.heap.size, 1, none⟩ = some (.int .i64 0) := by rw [← hwx]; rw [World.cell?_alloc_past _ _ _ (by simp <;> omega), World.cell?_alloc_past _ _ _ (by simp <;> omega), World.cell?_alloc_at _ _ _ _ (by simp <;> omega)]; rfl
  have f8 : wx.cell? ⟨w.heap.size, 2, none⟩ = some (.int .i64 0) := by rw [← hwx]; rw [World.cell?_alloc_past _ _ _ (by simp <;> omega), World.cell?_alloc_past _ _ _ (by simp <;> omega), World.cell?_alloc_at _ _ _ _ (by simp <;> omega)]; rfl
  have f9 : wx.cell? ⟨w.heap.size, 3, none⟩ = some (.int .i64 0) := by rw [← hwx]; rw [World.cell?_alloc_past _ _ _ (by simp <;> omega), World.cell?_alloc_past _ _ _ (by simp <;> omega), World.cell?_alloc_at _ _ _ _ (by simp <;> omega)]; rfl
  have f10 : wx.cell? ⟨w.heap.size, 4, none⟩ = some (.int .i64 0) := by rw [← hwx]; rw [World.cell?_alloc_past _ _ _ (by simp <;> omega), World.cell?_alloc_past _ _ _ (by simp <;> omega), World.cell?_alloc_at _ _ _ _ (by simp <;> omega)]; rfl
  have f11 : wx.cell? ⟨w.heap.size, 5, none⟩ = some (.int .i64 0) := by rw [← hwx]; rw [World.cell?_alloc_past _ _ _ (by simp <;> omega), World.cell?_alloc_past _ _ _ (by simp <;> omega), World.cell?_alloc_at _ _ _ _ (by simp <;> omega)]; rfl
  have f12 : wx.frozen? ⟨w.heap.size, 0, none⟩ = false := by rw [← hwx]; rw [World.frozen?_alloc_past _ _ _ (by simp <;> omega), World.frozen?_alloc_past _ _ _ (by simp <;> omega), World.frozen?_alloc_at _ _ _ _ (by simp <;> omega)]
  have f13 : wx.frozen? ⟨w.heap.size, 1, none⟩ = false := by rw [← hwx]; rw [World.frozen?_alloc_past _ _ _ (by simp <;> omega), World.frozen?_alloc_past _ _ _ (by simp <;> omega), World.frozen?_alloc_at _ _ _ _ (by simp <;> omega)]
  have f14 : wx.frozen? ⟨w.heap.size, 2, none⟩ = false := by rw [← hwx]; rw [World.frozen?_alloc_past _ _ _ (by simp <;> omega), World.frozen?_alloc_past _ _ _ (by simp <;> omega), World.frozen?_alloc_at _ _ _ _ (by simp <;> omega)]
  have f15 : wx.frozen? ⟨w.heap.size, 3, none⟩ = false := by rw [← hwx]; rw [World.frozen?_alloc_past _ _ _ (by simp <;> omega), World.frozen?_alloc_past _ _ _ (by simp <;> omega), World.frozen?_alloc_at _ _ _ _ (by simp <;> omega)]
  have f16 : wx.frozen? ⟨w.heap.size, 4, none⟩ = false := by rw [← hwx]; rw [World.frozen?_alloc_past _ _ _ (by simp <;> omega), World.frozen?_alloc_past _ _ _ (by simp <;> omega), World.frozen?_alloc_at _ _ _ _ (by simp <;> omega)]
  have f17 : wx.frozen? ⟨w.heap.size, 5, none⟩ = false := by rw [← hwx]; rw [World.frozen?_alloc_past _ _ _ (by simp <;> omega), World.frozen?_alloc_past _ _ _ (by simp <;> omega), World.frozen?_alloc_at _ _ _ _ (by simp <;> omega)]
  clear hwx
  obtain ⟨nb, hnb⟩ : ∃ nb, nb = w.heap.size + 1 + 1 := ⟨_, rfl⟩
  rw [← hnb] at hs0 f0 f1 f2 f3 f4 f5 ⊢
  have hne : nb ≠ w.heap.size := by omega
  have hne2 : w.heap.size ≠ nb := by omega
  clear hnb
  have hd3 : ∀ (W : World) (o : Obj) (j : Nat), w.heap.size < W.heap.size → (W.alloc o).frozen? ⟨w.heap.size, j, none⟩ = W.frozen? ⟨w.heap.size, j, none⟩ := fun W o j h => ((Below.refl W.heap.size W).alloc (Nat.le_refl _) o).frozen (p := ⟨w.heap.size, j, none⟩) h
  have hd4 : ∀ (W : World) (o : Obj) (j : Nat), w.heap.size < W.heap.size → (W.alloc o).drew.frozen? ⟨w.heap.size, j, none⟩ = W.frozen? ⟨w.heap.size, j, none⟩ := hd3
  have hd5 : ∀ (W : World) (o : Obj), nb < W.heap.size → nb < (W.alloc o).heap.size := fun W o h => by simp; omega
  have hd6 : ∀ (W : World) (o : Obj), nb < W.heap.size → nb < (W.alloc o).drew.heap.size := hd5
  have hd7 : ∀ (W : World) (o : Obj), w.heap.size < W.heap.size → w.heap.size < (W.alloc o).heap.size := fun W o h => by simp; omega
  have hd8 : ∀ (W : World) (o : Obj), w.heap.size < W.heap.size → w.heap.size < (W.alloc o).drew.heap.size := hd7
  have he1 : ∀ n, nb < n → nb < n + 1 := fun n h => by omega
  have hf1 : ∀ n, w.heap.size < n → w.heap.size < n + 1 := fun n h => by omega
  have he2 : ∀ n, nb < n → nb < n + 2 := fun n h => by omega
  have hf2 : ∀ n, w.heap.size < n → w.heap.size < n + 2 := fun n h => by omega
  have he3 : ∀ n, nb < n → nb < n + 3 := fun n h => by omega
  have hf3 : ∀ n, w.heap.size < n → w.heap.size < n + 3 := fun n h => by omega
  have he4 : ∀ n, nb < n → nb < n + 4 := fun n h => by omega
  have hf4 : ∀ n, w.heap.size < n → w.heap.size < n + 4 := fun n h => by omega
  have he5 : ∀ n, nb < n → nb < n + 5 := fun n h => by omega
  have hf5 : ∀ n, w.heap.size < n → w.heap.size < n + 5 := fun n h => by omega
  have he6 : ∀ n, nb < n → nb < n + 6 := fun n h => by omega
  have hf6 : ∀ n, w.heap.size < n → w.heap.size < n + 6 := fun n h => by omega
  have hg1 : ∀ (W : World) (o : Obj) (j : Nat), nb < W.heap.size → (W.alloc o).cell? ⟨nb, j, none⟩ = W.cell? ⟨nb, j, none⟩ := fun W o j h => World.cell?_alloc_past _ _ _ (by omega)
  have hg2 : ∀ (W : World) (o : Obj) (j : Nat), w.heap.size < W.heap.size → (W.alloc o).cell? ⟨w.heap.size, j, none⟩ = W.cell? ⟨w.heap.size, j, none⟩ := fun W o j h => World.cell?_alloc_past _ _ _ (by omega)
  go_region_held3 (fun w' => w'.cell? ⟨nb, 0, none⟩ = some (.int .i64 5) ∧ w'.cell? ⟨nb, 1, none⟩ = some (.int .i64 0) ∧ w'.cell? ⟨nb, 2, none⟩ = some (.int .i64 0) ∧ w'.cell? ⟨nb, 3, none⟩ = some (.int .i64 1) ∧ w'.cell? ⟨nb, 4, none⟩ = some (.int .i64 1) ∧ w'.cell? ⟨nb, 5, none⟩ = some (.int .i64 1) ∧ w'.frozen? ⟨w.heap.size, 0, none⟩ = false ∧ w'.frozen? ⟨w.heap.size, 1, none⟩ = false ∧ w'.frozen? ⟨w.heap.size, 2, none⟩ = false ∧ w'.frozen? ⟨w.heap.size, 3, none⟩ = false ∧ w'.frozen? ⟨w.heap.size, 4, none⟩ = false ∧ w'.frozen? ⟨w.heap.size, 5, none⟩ = false ∧ nb < w'.heap.size ∧ w.heap.size < w'.heap.size) (go_keep) ((go_at_call 54; refine (form_exact _ _ _ _ _ _).mono ?_; rintro e w' ⟨rfl, rfl⟩))
  go_wp2
  (try simp only [Exit.inBlock, Exit.then])
  refine bodyPost_ret (v := .agg #[.int .i64 37, .int .i64 4, .int .i64 0, .int .i64 3, .int .i64 4, .int .i64 4]) (by simp [results, Tryd.results56, go_sem, hg2, hs1, hf1, hf2, hf3, hf4, hf5, hf6, f6, f7, f8, f9, f10, f11]) rfl ?_
  refine ⟨rfl, ?_⟩
  repeat (first | with_reducible exact hb0 | with_reducible refine below_drew ?_ | with_reducible refine below_alloc ?_ _ | with_reducible refine Below.setCell (p := ⟨w.heap.size, _, none⟩) ?_ (by exact Nat.le_refl _) _)
set_option maxRecDepth 100000 in
set_option maxHeartbeats 1500000 in
theorem last_1_3 (w : World) : Calls Tryd.prog 56 #[.int .i64 1, .int .i64 3] w fun e w' => e = .returned (.agg #[.int .i64 6, .int .i64 0, .int .i64 0, .int .i64 1, .int .i64 1, .int .i64 1]) ∧ Below w.heap.size w w' := by
  have hi : ∀ w, (Instr.index 90 (.agg #[.int .i64 37, .int .i64 4, .int .i64 0, .int .i64 3, .int .i64 4, .int .i64 4, .int .i64 6, .int .i64 0, .int .i64 0, .int .i64 1, .int .i64 1, .int .i64 1, .int .i64 5, .int .i64 0, .int .i64 0, .int .i64 1, .int .i64 1, .int .i64 1, .int .i64 5, .int .i64 0, .int .i64 0, .int .i64 1, .int .i64 1, .int .i64 1, .int .i64 5, .int .i64 0, .int .i64 0, .int .i64 1, .int .i64 1, .int .i64 1, .int .i64 5, .int .i64 0, .int .i64 0, .int .i64 1, .int .i64 1, .int .i64 1, .int .i64 3, .int .i64 0, .int .i64 0, .int .i64 1, .int .i64 1, .int .i64 1, .int .i64 4, .int .i64 0, .int .i64 0, .int .i64 1, .int .i64 1, .int .i64 1]) (.int .i64 1)).run Tryd.prog w = .ok (.agg #[.int .i64 6, .int .i64 0, .int .i64 0, .int .i64 1, .int .i64 1, .int .i64 1]) w := fun w => by kernel_rfl
  go_enter Tryd.func56, Tryd.ntmps56
  go_wp2_with (first | (go_at_call 54; refine (form_exact _ _ _ _ _ _).mono ?_; rintro e w' ⟨rfl, rfl⟩) | (go_at_call 74; refine (on_exact _ _ _ _ _ _).mono ?_; rintro e w' ⟨rfl, rfl⟩) | (go_at_call 75; refine (stack_other 0 _ (by decide)).mono ?_; rintro e w' ⟨rfl, rfl⟩))
  generalize hwx : ((w.alloc (.cells #[.int .i64 0, .int .i64 0, .int .i64 0, .int .i64 0, .int .i64 0, .int .i64 0] 46)).alloc (.cells #[.int .i64 5, .int .i64 0, .int .i64 0, .int .i64 1, .int .i64 1, .int .i64 1] 46)).alloc (.cells #[.int .i64 5, .int .i64 0, .int .i64 0, .int .i64 1, .int .i64 1, .int .i64 1] 46) = wx
  have hb0 : Below w.heap.size w wx := by rw [← hwx]; exact (((Below.refl _ _).alloc (Nat.le_refl _) _).alloc (by simp) _).alloc (by simp; omega) _
  have hs0 : w.heap.size + 1 + 1 < wx.heap.size := by rw [← hwx]; simp <;> omega
  have hs1 : w.heap.size < wx.heap.size := by rw [← hwx]; simp <;> omega
  have f0 : wx.cell? ⟨w.heap.size + 1 + 1, 0, none⟩ = some (.int .i64 5) := by rw [← hwx]; rw [World.cell?_alloc_at _ _ _ _ (by simp)]; rfl
  have f1 : wx.cell? ⟨w.heap.size + 1 + 1, 1, none⟩ = some (.int .i64 0) := by rw [← hwx]; rw [World.cell?_alloc_at _ _ _ _ (by simp)]; rfl
  have f2 : wx.cell? ⟨w.heap.size + 1 + 1, 2, none⟩ = some (.int .i64 0) := by rw [← hwx]; rw [World.cell?_alloc_at _ _ _ _ (by simp)]; rfl
  have f3 : wx.cell? ⟨w.heap.size + 1 + 1, 3, none⟩ = some (.int .i64 1) := by rw [← hwx]; rw [World.cell?_alloc_at _ _ _ _ (by simp)]; rfl
  have f4 : wx.cell? ⟨w.heap.size + 1 + 1, 4, none⟩ = some (.int .i64 1) := by rw [← hwx]; rw [World.cell?_alloc_at _ _ _ _ (by simp)]; rfl
  have f5 : wx.cell? ⟨w.heap.size + 1 + 1, 5, none⟩ = some (.int .i64 1) := by rw [← hwx]; rw [World.cell?_alloc_at _ _ _ _ (by simp)]; rfl
  have f6 : wx.cell? ⟨w.heap.size, 0, none⟩ = some (.int .i64 0) := by rw [← hwx]; rw [World.cell?_alloc_past _ _ _ (by simp <;> omega), World.cell?_alloc_past _ _ _ (by simp <;> omega), World.cell?_alloc_at _ _ _ _ (by simp <;> omega)]; rfl
  have f7 : wx.cell? ⟨w.heap.size, 1, none⟩ = some (.int .i64 0) := by rw [← hwx]; rw [World.cell?_alloc_past _ _ _ (by simp <;> omega), World.cell?_alloc_past _ _ _ (by simp <;> omega), World.cell?_alloc_at _ _ _ _ (by simp <;> omega)]; rfl
  have f8 : wx.cell? ⟨w.heap.size, 2, none⟩ = some (.int .i64 0) := by rw [← hwx]; rw [World.cell?_alloc_past _ _ _ (by simp <;> omega), World.cell?_alloc_past _ _ _ (by simp <;> omega), World.cell?_alloc_at _ _ _ _ (by simp <;> omega)]; rfl
  have f9 : wx.cell? ⟨w.heap.size, 3, none⟩ = some (.int .i64 0) := by rw [← hwx]; rw [World.cell?_alloc_past _ _ _ (by simp <;> omega), World.cell?_alloc_past _ _ _ (by simp <;> omega), World.cell?_alloc_at _ _ _ _ (by simp <;> omega)]; rfl
  have f10 : wx.cell? ⟨w.heap.size, 4, none⟩ = some (.int .i64 0) := by rw [← hwx]; rw [World.cell?_alloc_past _ _ _ (by simp <;> omega), World.cell?_alloc_past _ _ _ (by simp <;> omega), World.cell?_alloc_at _ _ _ _ (by simp <;> omega)]; rfl
  have f11 : wx.cell? ⟨w.heap.size, 5, none⟩ = some (.int .i64 0) := by rw [← hwx]; rw [World.cell?_alloc_past _ _ _ (by simp <;> omega), World.cell?_alloc_past _ _ _ (by simp <;> omega), World.cell?_alloc_at _ _ _ _ (by simp <;> omega)]; rfl
  have f12 : wx.frozen? ⟨w.heap.size, 0, none⟩ = false := by rw [← hwx]; rw [World.frozen?_alloc_past _ _ _ (by simp <;> omega), World.frozen?_alloc_past _ _ _ (by simp <;> omega), World.frozen?_alloc_at _ _ _ _ (by simp <;> omega)]
  have f13 : wx.frozen? ⟨w.heap.size, 1, none⟩ = false := by rw [← hwx]; rw [World.frozen?_alloc_past _ _ _ (by simp <;> omega), World.frozen?_alloc_past _ _ _ (by simp <;> omega), World.frozen?_alloc_at _ _ _ _ (by simp <;> omega)]
  have f14 : wx.frozen? ⟨w.heap.size, 2, none⟩ = false := by rw [← hwx]; rw [World.frozen?_alloc_past _ _ _ (by simp <;> omega), World.frozen?_alloc_past _ _ _ (by simp <;> omega), World.frozen?_alloc_at _ _ _ _ (by simp <;> omega)]
  have f15 : wx.frozen? ⟨w.heap.size, 3, none⟩ = false := by rw [← hwx]; rw [World.frozen?_alloc_past _ _ _ (by simp <;> omega), World.frozen?_alloc_past _ _ _ (by simp <;> omega), World.frozen?_alloc_at _ _ _ _ (by simp <;> omega)]
  have f16 : wx.frozen? ⟨w.heap.size, 4, none⟩ = false := by rw [← hwx]; rw [World.frozen?_alloc_past _ _ _ (by simp <;> omega), World.frozen?_alloc_past _ _ _ (by simp <;> omega), World.frozen?_alloc_at _ _ _ _ (by simp <;> omega)]
  have f17 : wx.frozen? ⟨w.heap.size, 5, none⟩ = false := by rw [← hwx]; rw [World.frozen?_alloc_past _ _ _ (by simp <;> omega), World.frozen?_alloc_past _ _ _ (by simp <;> omega), World.frozen?_alloc_at _ _ _ _ (by simp <;> omega)]
  clear hwx
  obtain ⟨nb, hnb⟩ : ∃ nb, nb = w.heap.size + 1 + 1 := ⟨_, rfl⟩
  rw [← hnb] at hs0 f0 f1 f2 f3 f4 f5 ⊢
  have hne : nb ≠ w.heap.size := by omega
  have hne2 : w.heap.size ≠ nb := by omega
  clear hnb
  have hd3 : ∀ (W : World) (o : Obj) (j : Nat), w.heap.size < W.heap.size → (W.alloc o).frozen? ⟨w.heap.size, j, none⟩ = W.frozen? ⟨w.heap.size, j, none⟩ := fun W o j h => ((Below.refl W.heap.size W).alloc (Nat.le_refl _) o).frozen (p := ⟨w.heap.size, j, none⟩) h
  have hd4 : ∀ (W : World) (o : Obj) (j : Nat), w.heap.size < W.heap.size → (W.alloc o).drew.frozen? ⟨w.heap.size, j, none⟩ = W.frozen? ⟨w.heap.size, j, none⟩ := hd3
  have hd5 : ∀ (W : World) (o : Obj), nb < W.heap.size → nb < (W.alloc o).heap.size := fun W o h => by simp; omega
  have hd6 : ∀ (W : World) (o : Obj), nb < W.heap.size → nb < (W.alloc o).drew.heap.size := hd5
  have hd7 : ∀ (W : World) (o : Obj), w.heap.size < W.heap.size → w.heap.size < (W.alloc o).heap.size := fun W o h => by simp; omega
  have hd8 : ∀ (W : World) (o : Obj), w.heap.size < W.heap.size → w.heap.size < (W.alloc o).drew.heap.size := hd7
  have he1 : ∀ n, nb < n → nb < n + 1 := fun n h => by omega
  have hf1 : ∀ n, w.heap.size < n → w.heap.size < n + 1 := fun n h => by omega
  have he2 : ∀ n, nb < n → nb < n + 2 := fun n h => by omega
  have hf2 : ∀ n, w.heap.size < n → w.heap.size < n + 2 := fun n h => by omega
  have he3 : ∀ n, nb < n → nb < n + 3 := fun n h => by omega
  have hf3 : ∀ n, w.heap.size < n → w.heap.size < n + 3 := fun n h => by omega
  have he4 : ∀ n, nb < n → nb < n + 4 := fun n h => by omega
  have hf4 : ∀ n, w.heap.size < n → w.heap.size < n + 4 := fun n h => by omega
  have he5 : ∀ n, nb < n → nb < n + 5 := fun n h => by omega
  have hf5 : ∀ n, w.heap.size < n → w.heap.size < n + 5 := fun n h => by omega
  have he6 : ∀ n, nb < n → nb < n + 6 := fun n h => by omega
  have hf6 : ∀ n, w.heap.size < n → w.heap.size < n + 6 := fun n h => by omega
  have hg1 : ∀ (W : World) (o : Obj) (j : Nat), nb < W.heap.size → (W.alloc o).cell? ⟨nb, j, none⟩ = W.cell? ⟨nb, j, none⟩ := fun W o j h => World.cell?_alloc_past _ _ _ (by omega)
  have hg2 : ∀ (W : World) (o : Obj) (j : Nat), w.heap.size < W.heap.size → (W.alloc o).cell? ⟨w.heap.size, j, none⟩ = W.cell? ⟨w.heap.size, j, none⟩ := fun W o j h => World.cell?_alloc_past _ _ _ (by omega)
  go_region_held3 (fun w' => w'.cell? ⟨nb, 0, none⟩ = some (.int .i64 5) ∧ w'.cell? ⟨nb, 1, none⟩ = some (.int .i64 0) ∧ w'.cell? ⟨nb, 2, none⟩ = some (.int .i64 0) ∧ w'.cell? ⟨nb, 3, none⟩ = some (.int .i64 1) ∧ w'.cell? ⟨nb, 4, none⟩ = some (.int .i64 1) ∧ w'.cell? ⟨nb, 5, none⟩ = some (.int .i64 1) ∧ w'.frozen? ⟨w.heap.size, 0, none⟩ = false ∧ w'.frozen? ⟨w.heap.size, 1, none⟩ = false ∧ w'.frozen? ⟨w.heap.size, 2, none⟩ = false ∧ w'.frozen? ⟨w.heap.size, 3, none⟩ = false ∧ w'.frozen? ⟨w.heap.size, 4, none⟩ = false ∧ w'.frozen? ⟨w.heap.size, 5, none⟩ = false ∧ nb < w'.heap.size ∧ w.heap.size < w'.heap.size) (go_keep) ((go_at_call 54; refine (form_exact _ _ _ _ _ _).mono ?_; rintro e w' ⟨rfl, rfl⟩))
  go_wp2
  (try simp only [Exit.inBlock, Exit.then])
  refine bodyPost_ret (v := .agg #[.int .i64 6, .int .i64 0, .int .i64 0, .int .i64 1, .int .i64 1, .int .i64 1]) (by simp [results, Tryd.results56, go_sem, hg2, hs1, hf1, hf2, hf3, hf4, hf5, hf6, f6, f7, f8, f9, f10, f11]) rfl ?_
  refine ⟨rfl, ?_⟩
  repeat (first | with_reducible exact hb0 | with_reducible refine below_drew ?_ | with_reducible refine below_alloc ?_ _ | with_reducible refine Below.setCell (p := ⟨w.heap.size, _, none⟩) ?_ (by exact Nat.le_refl _) _)
set_option maxRecDepth 100000 in
set_option maxHeartbeats 1500000 in
theorem last_2_3 (w : World) : Calls Tryd.prog 56 #[.int .i64 2, .int .i64 3] w fun e w' => e = .returned (.agg #[.int .i64 5, .int .i64 0, .int .i64 0, .int .i64 1, .int .i64 1, .int .i64 1]) ∧ Below w.heap.size w w' := by
  have hi : ∀ w, (Instr.index 90 (.agg #[.int .i64 37, .int .i64 4, .int .i64 0, .int .i64 3, .int .i64 4, .int .i64 4, .int .i64 6, .int .i64 0, .int .i64 0, .int .i64 1, .int .i64 1, .int .i64 1, .int .i64 5, .int .i64 0, .int .i64 0, .int .i64 1, .int .i64 1, .int .i64 1, .int .i64 5, .int .i64 0, .int .i64 0, .int .i64 1, .int .i64 1, .int .i64 1, .int .i64 5, .int .i64 0, .int .i64 0, .int .i64 1, .int .i64 1, .int .i64 1, .int .i64 5, .int .i64 0, .int .i64 0, .int .i64 1, .int .i64 1, .int .i64 1, .int .i64 3, .int .i64 0, .int .i64 0, .int .i64 1, .int .i64 1, .int .i64 1, .int .i64 4, .int .i64 0, .int .i64 0, .int .i64 1, .int .i64 1, .int .i64 1]) (.int .i64 2)).run Tryd.prog w = .ok (.agg #[.int .i64 5, .int .i64 0, .int .i64 0, .int .i64 1, .int .i64 1, .int .i64 1]) w := fun w => by kernel_rfl
  go_enter Tryd.func56, Tryd.ntmps56
  go_wp2_with (first | (go_at_call 54; refine (form_exact _ _ _ _ _ _).mono ?_; rintro e w' ⟨rfl, rfl⟩) | (go_at_call 74; refine (on_exact _ _ _ _ _ _).mono ?_; rintro e w' ⟨rfl, rfl⟩) | (go_at_call 75; refine (stack_other 1 _ (by decide)).mono ?_; rintro e w' ⟨rfl, rfl⟩))
  generalize hwx : ((w.alloc (.cells #[.int .i64 0, .int .i64 0, .int .i64 0, .int .i64 0, .int .i64 0, .int .i64 0] 46)).alloc (.cells #[.int .i64 5, .int .i64 0, .int .i64 0, .int .i64 1, .int .i64 1, .int .i64 1] 46)).alloc (.cells #[.int .i64 5, .int .i64 0, .int .i64 0, .int .i64 1, .int .i64 1, .int .i64 1] 46) = wx
  have hb0 : Below w.heap.size w wx := by rw [← hwx]; exact (((Below.refl _ _).alloc (Nat.le_refl _) _).alloc (by simp) _).alloc (by simp; omega) _
  have hs0 : w.heap.size + 1 + 1 < wx.heap.size := by rw [← hwx]; simp <;> omega
  have hs1 : w.heap.size < wx.heap.size := by rw [← hwx]; simp <;> omega
  have f0 : wx.cell? ⟨w.heap.size + 1 + 1, 0, none⟩ = some (.int .i64 5) := by rw [← hwx]; rw [World.cell?_alloc_at _ _ _ _ (by simp)]; rfl
  have f1 : wx.cell? ⟨w.heap.size + 1 + 1, 1, none⟩ = some (.int .i64 0) := by rw [← hwx]; rw [World.cell?_alloc_at _ _ _ _ (by simp)]; rfl
  have f2 : wx.cell? ⟨w.heap.size + 1 + 1, 2, none⟩ = some (.int .i64 0) := by rw [← hwx]; rw [World.cell?_alloc_at _ _ _ _ (by simp)]; rfl
  have f3 : wx.cell? ⟨w.heap.size + 1 + 1, 3, none⟩ = some (.int .i64 1) := by rw [← hwx]; rw [World.cell?_alloc_at _ _ _ _ (by simp)]; rfl
  have f4 : wx.cell? ⟨w.heap.size + 1 + 1, 4, none⟩ = some (.int .i64 1) := by rw [← hwx]; rw [World.cell?_alloc_at _ _ _ _ (by simp)]; rfl
  have f5 : wx.cell? ⟨w.heap.size + 1 + 1, 5, none⟩ = some (.int .i64 1) := by rw [← hwx]; rw [World.cell?_alloc_at _ _ _ _ (by simp)]; rfl
  have f6 : wx.cell? ⟨w.heap.size, 0, none⟩ = some (.int .i64 0) := by rw [← hwx]; rw [World.cell?_alloc_past _ _ _ (by simp <;> omega), World.cell?_alloc_past _ _ _ (by simp <;> omega), World.cell?_alloc_at _ _ _ _ (by simp <;> omega)]; rfl
  have f7 : wx.cell? ⟨w.heap.size, 1, none⟩ = some (.int .i64 0) := by rw [← hwx]; rw [World.cell?_alloc_past _ _ _ (by simp <;> omega), World.cell?_alloc_past _ _ _ (by simp <;> omega), World.cell?_alloc_at _ _ _ _ (by simp <;> omega)]; rfl
  have f8 : wx.cell? ⟨w.heap.size, 2, none⟩ = some (.int .i64 0) := by rw [← hwx]; rw [World.cell?_alloc_past _ _ _ (by simp <;> omega), World.cell?_alloc_past _ _ _ (by simp <;> omega), World.cell?_alloc_at _ _ _ _ (by simp <;> omega)]; rfl
  have f9 : wx.cell? ⟨w.heap.size, 3, none⟩ = some (.int .i64 0) := by rw [← hwx]; rw [World.cell?_alloc_past _ _ _ (by simp <;> omega), World.cell?_alloc_past _ _ _ (by simp <;> omega), World.cell?_alloc_at _ _ _ _ (by simp <;> omega)]; rfl
  have f10 : wx.cell? ⟨w.heap.size, 4, none⟩ = some (.int .i64 0) := by rw [← hwx]; rw [World.cell?_alloc_past _ _ _ (by simp <;> omega), World.cell?_alloc_past _ _ _ (by simp <;> omega), World.cell?_alloc_at _ _ _ _ (by simp <;> omega)]; rfl
  have f11 : wx.cell? ⟨w.heap.size, 5, none⟩ = some (.int .i64 0) := by rw [← hwx]; rw [World.cell?_alloc_past _ _ _ (by simp <;> omega), World.cell?_alloc_past _ _ _ (by simp <;> omega), World.cell?_alloc_at _ _ _ _ (by simp <;> omega)]; rfl
  have f12 : wx.frozen? ⟨w.heap.size, 0, none⟩ = false := by rw [← hwx]; rw [World.frozen?_alloc_past _ _ _ (by simp <;> omega), World.frozen?_alloc_past _ _ _ (by simp <;> omega), World.frozen?_alloc_at _ _ _ _ (by simp <;> omega)]
  have f13 : wx.frozen? ⟨w.heap.size, 1, none⟩ = false := by rw [← hwx]; rw [World.frozen?_alloc_past _ _ _ (by simp <;> omega), World.frozen?_alloc_past _ _ _ (by simp <;> omega), World.frozen?_alloc_at _ _ _ _ (by simp <;> omega)]
  have f14 : wx.frozen? ⟨w.heap.size, 2, none⟩ = false := by rw [← hwx]; rw [World.frozen?_alloc_past _ _ _ (by simp <;> omega), World.frozen?_alloc_past _ _ _ (by simp <;> omega), World.frozen?_alloc_at _ _ _ _ (by simp <;> omega)]
  have f15 : wx.frozen? ⟨w.heap.size, 3, none⟩ = false := by rw [← hwx]; rw [World.frozen?_alloc_past _ _ _ (by simp <;> omega), World.frozen?_alloc_past _ _ _ (by simp <;> omega), World.frozen?_alloc_at _ _ _ _ (by simp <;> omega)]
  have f16 : wx.frozen? ⟨w.heap.size, 4, none⟩ = false := by rw [← hwx]; rw [World.frozen?_alloc_past _ _ _ (by simp <;> omega), World.frozen?_alloc_past _ _ _ (by simp <;> omega), World.frozen?_alloc_at _ _ _ _ (by simp <;> omega)]
  have f17 : wx.frozen? ⟨w.heap.size, 5, none⟩ = false := by rw [← hwx]; rw [World.frozen?_alloc_past _ _ _ (by simp <;> omega), World.frozen?_alloc_past _ _ _ (by simp <;> omega), World.frozen?_alloc_at _ _ _ _ (by simp <;> omega)]
  clear hwx
  obtain ⟨nb, hnb⟩ : ∃ nb, nb = w.heap.size + 1 + 1 := ⟨_, rfl⟩
  rw [← hnb] at hs0 f0 f1 f2 f3 f4 f5 ⊢
  have hne : nb ≠ w.heap.size := by omega
  have hne2 : w.heap.size ≠ nb := by omega
  clear hnb
  have hd3 : ∀ (W : World) (o : Obj) (j : Nat), w.heap.size < W.heap.size → (W.alloc o).frozen? ⟨w.heap.size, j, none⟩ = W.frozen? ⟨w.heap.size, j, none⟩ := fun W o j h => ((Below.refl W.heap.size W).alloc (Nat.le_refl _) o).frozen (p := ⟨w.heap.size, j, none⟩) h
  have hd4 : ∀ (W : World) (o : Obj) (j : Nat), w.heap.size < W.heap.size → (W.alloc o).drew.frozen? ⟨w.heap.size, j, none⟩ = W.frozen? ⟨w.heap.size, j, none⟩ := hd3
  have hd5 : ∀ (W : World) (o : Obj), nb < W.heap.size → nb < (W.alloc o).heap.size := fun W o h => by simp; omega
  have hd6 : ∀ (W : World) (o : Obj), nb < W.heap.size → nb < (W.alloc o).drew.heap.size := hd5
  have hd7 : ∀ (W : World) (o : Obj), w.heap.size < W.heap.size → w.heap.size < (W.alloc o).heap.size := fun W o h => by simp; omega
  have hd8 : ∀ (W : World) (o : Obj), w.heap.size < W.heap.size → w.heap.size < (W.alloc o).drew.heap.size := hd7
  have he1 : ∀ n, nb < n → nb < n + 1 := fun n h => by omega
  have hf1 : ∀ n, w.heap.size < n → w.heap.size < n + 1 := fun n h => by omega
  have he2 : ∀ n, nb < n → nb < n + 2 := fun n h => by omega
  have hf2 : ∀ n, w.heap.size < n → w.heap.size < n + 2 := fun n h => by omega
  have he3 : ∀ n, nb < n → nb < n + 3 := fun n h => by omega
  have hf3 : ∀ n, w.heap.size < n → w.heap.size < n + 3 := fun n h => by omega
  have he4 : ∀ n, nb < n → nb < n + 4 := fun n h => by omega
  have hf4 : ∀ n, w.heap.size < n → w.heap.size < n + 4 := fun n h => by omega
  have he5 : ∀ n, nb < n → nb < n + 5 := fun n h => by omega
  have hf5 : ∀ n, w.heap.size < n → w.heap.size < n + 5 := fun n h => by omega
  have he6 : ∀ n, nb < n → nb < n + 6 := fun n h => by omega
  have hf6 : ∀ n, w.heap.size < n → w.heap.size < n + 6 := fun n h => by omega
  have hg1 : ∀ (W : World) (o : Obj) (j : Nat), nb < W.heap.size → (W.alloc o).cell? ⟨nb, j, none⟩ = W.cell? ⟨nb, j, none⟩ := fun W o j h => World.cell?_alloc_past _ _ _ (by omega)
  have hg2 : ∀ (W : World) (o : Obj) (j : Nat), w.heap.size < W.heap.size → (W.alloc o).cell? ⟨w.heap.size, j, none⟩ = W.cell? ⟨w.heap.size, j, none⟩ := fun W o j h => World.cell?_alloc_past _ _ _ (by omega)
  go_region_held3 (fun w' => w'.cell? ⟨nb, 0, none⟩ = some (.int .i64 5) ∧ w'.cell? ⟨nb, 1, none⟩ = some (.int .i64 0) ∧ w'.cell? ⟨nb, 2, none⟩ = some (.int .i64 0) ∧ w'.cell? ⟨nb, 3, none⟩ = some (.int .i64 1) ∧ w'.cell? ⟨nb, 4, none⟩ = some (.int .i64 1) ∧ w'.cell? ⟨nb, 5, none⟩ = some (.int .i64 1) ∧ w'.frozen? ⟨w.heap.size, 0, none⟩ = false ∧ w'.frozen? ⟨w.heap.size, 1, none⟩ = false ∧ w'.frozen? ⟨w.heap.size, 2, none⟩ = false ∧ w'.frozen? ⟨w.heap.size, 3, none⟩ = false ∧ w'.frozen? ⟨w.heap.size, 4, none⟩ = false ∧ w'.frozen? ⟨w.heap.size, 5, none⟩ = false ∧ nb < w'.heap.size ∧ w.heap.size < w'.heap.size) (go_keep) ((go_at_call 54; refine (form_exact _ _ _ _ _ _).mono ?_; rintro e w' ⟨rfl, rfl⟩))
  go_wp2
  (try simp only [Exit.inBlock, Exit.then])
  refine bodyPost_ret (v := .agg #[.int .i64 5, .int .i64 0, .int .i64 0, .int .i64 1, .int .i64 1, .int .i64 1]) (by simp [results, Tryd.results56, go_sem, hg2, hs1, hf1, hf2, hf3, hf4, hf5, hf6, f6, f7, f8, f9, f10, f11]) rfl ?_
  refine ⟨rfl, ?_⟩
  repeat (first | with_reducible exact hb0 | with_reducible refine below_drew ?_ | with_reducible refine below_alloc ?_ _ | with_reducible refine Below.setCell (p := ⟨w.heap.size, _, none⟩) ?_ (by exact Nat.le_refl _) _)
set_option maxRecDepth 100000 in
set_option maxHeartbeats 1500000 in
theorem last_3_3 (w : World) : Calls Tryd.prog 56 #[.int .i64 3, .int .i64 3] w fun e w' => e = .returned (.agg #[.int .i64 5, .int .i64 0, .int .i64 0, .int .i64 1, .int .i64 1, .int .i64 1]) ∧ Below w.heap.size w w' := by
  have hi : ∀ w, (Instr.index 90 (.agg #[.int .i64 37, .int .i64 4, .int .i64 0, .int .i64 3, .int .i64 4, .int .i64 4, .int .i64 6, .int .i64 0, .int .i64 0, .int .i64 1, .int .i64 1, .int .i64 1, .int .i64 5, .int .i64 0, .int .i64 0, .int .i64 1, .int .i64 1, .int .i64 1, .int .i64 5, .int .i64 0, .int .i64 0, .int .i64 1, .int .i64 1, .int .i64 1, .int .i64 5, .int .i64 0, .int .i64 0, .int .i64 1, .int .i64 1, .int .i64 1, .int .i64 5, .int .i64 0, .int .i64 0, .int .i64 1, .int .i64 1, .int .i64 1, .int .i64 3, .int .i64 0, .int .i64 0, .int .i64 1, .int .i64 1, .int .i64 1, .int .i64 4, .int .i64 0, .int .i64 0, .int .i64 1, .int .i64 1, .int .i64 1]) (.int .i64 3)).run Tryd.prog w = .ok (.agg #[.int .i64 5, .int .i64 0, .int .i64 0, .int .i64 1, .int .i64 1, .int .i64 1]) w := fun w => by kernel_rfl
  go_enter Tryd.func56, Tryd.ntmps56
  go_wp2_with (first | (go_at_call 54; refine (form_exact _ _ _ _ _ _).mono ?_; rintro e w' ⟨rfl, rfl⟩) | (go_at_call 74; refine (on_exact _ _ _ _ _ _).mono ?_; rintro e w' ⟨rfl, rfl⟩) | (go_at_call 75; refine (stack_other 1 _ (by decide)).mono ?_; rintro e w' ⟨rfl, rfl⟩))
  generalize hwx : ((w.alloc (.cells #[.int .i64 0, .int .i64 0, .int .i64 0, .int .i64 0, .int .i64 0, .int .i64 0] 46)).alloc (.cells #[.int .i64 5, .int .i64 0, .int .i64 0, .int .i64 1, .int .i64 1, .int .i64 1] 46)).alloc (.cells #[.int .i64 5, .int .i64 0, .int .i64 0, .int .i64 1, .int .i64 1, .int .i64 1] 46) = wx
  have hb0 : Below w.heap.size w wx := by rw [← hwx]; exact (((Below.refl _ _).alloc (Nat.le_refl _) _).alloc (by simp) _).alloc (by simp; omega) _
  have hs0 : w.heap.size + 1 + 1 < wx.heap.size := by rw [← hwx]; simp <;> omega
  have hs1 : w.heap.size < wx.heap.size := by rw [← hwx]; simp <;> omega
  have f0 : wx.cell? ⟨w.heap.size + 1 + 1, 0, none⟩ = some (.int .i64 5) := by rw [← hwx]; rw [World.cell?_alloc_at _ _ _ _ (by simp)]; rfl
  have f1 : wx.cell? ⟨w.heap.size + 1 + 1, 1, none⟩ = some (.int .i64 0) := by rw [← hwx]; rw [World.cell?_alloc_at _ _ _ _ (by simp)]; rfl
  have f2 : wx.cell? ⟨w.heap.size + 1 + 1, 2, none⟩ = some (.int .i64 0) := by rw [← hwx]; rw [World.cell?_alloc_at _ _ _ _ (by simp)]; rfl
  have f3 : wx.cell? ⟨w.heap.size + 1 + 1, 3, none⟩ = some (.int .i64 1) := by rw [← hwx]; rw [World.cell?_alloc_at _ _ _ _ (by simp)]; rfl
  have f4 : wx.cell? ⟨w.heap.size + 1 + 1, 4, none⟩ = some (.int .i64 1) := by rw [← hwx]; rw [World.cell?_alloc_at _ _ _ _ (by simp)]; rfl
  have f5 : wx.cell? ⟨w.heap.size + 1 + 1, 5, none⟩ = some (.int .i64 1) := by rw [← hwx]; rw [World.cell?_alloc_at _ _ _ _ (by simp)]; rfl
  have f6 : wx.cell? ⟨w.heap.size, 0, none⟩ = some (.int .i64 0) := by rw [← hwx]; rw [World.cell?_alloc_past _ _ _ (by simp <;> omega), World.cell?_alloc_past _ _ _ (by simp <;> omega), World.cell?_alloc_at _ _ _ _ (by simp <;> omega)]; rfl
  have f7 : wx.cell? ⟨w.heap.size, 1, none⟩ = some (.int .i64 0) := by rw [← hwx]; rw [World.cell?_alloc_past _ _ _ (by simp <;> omega), World.cell?_alloc_past _ _ _ (by simp <;> omega), World.cell?_alloc_at _ _ _ _ (by simp <;> omega)]; rfl
  have f8 : wx.cell? ⟨w.heap.size, 2, none⟩ = some (.int .i64 0) := by rw [← hwx]; rw [World.cell?_alloc_past _ _ _ (by simp <;> omega), World.cell?_alloc_past _ _ _ (by simp <;> omega), World.cell?_alloc_at _ _ _ _ (by simp <;> omega)]; rfl
  have f9 : wx.cell? ⟨w.heap.size, 3, none⟩ = some (.int .i64 0) := by rw [← hwx]; rw [World.cell?_alloc_past _ _ _ (by simp <;> omega), World.cell?_alloc_past _ _ _ (by simp <;> omega), World.cell?_alloc_at _ _ _ _ (by simp <;> omega)]; rfl
  have f10 : wx.cell? ⟨w.heap.size, 4, none⟩ = some (.int .i64 0) := by rw [← hwx]; rw [World.cell?_alloc_past _ _ _ (by simp <;> omega), World.cell?_alloc_past _ _ _ (by simp <;> omega), World.cell?_alloc_at _ _ _ _ (by simp <;> omega)]; rfl
  have f11 : wx.cell? ⟨w.heap.size, 5, none⟩ = some (.int .i64 0) := by rw [← hwx]; rw [World.cell?_alloc_past _ _ _ (by simp <;> omega), World.cell?_alloc_past _ _ _ (by simp <;> omega), World.cell?_alloc_at _ _ _ _ (by simp <;> omega)]; rfl
  have f12 : wx.frozen? ⟨w.heap.size, 0, none⟩ = false := by rw [← hwx]; rw [World.frozen?_alloc_past _ _ _ (by simp <;> omega), World.frozen?_alloc_past _ _ _ (by simp <;> omega), World.frozen?_alloc_at _ _ _ _ (by simp <;> omega)]
  have f13 : wx.frozen? ⟨w.heap.size, 1, none⟩ = false := by rw [← hwx]; rw [World.frozen?_alloc_past _ _ _ (by simp <;> omega), World.frozen?_alloc_past _ _ _ (by simp <;> omega), World.frozen?_alloc_at _ _ _ _ (by simp <;> omega)]
  have f14 : wx.frozen? ⟨w.heap.size, 2, none⟩ = false := by rw [← hwx]; rw [World.frozen?_alloc_past _ _ _ (by simp <;> omega), World.frozen?_alloc_past _ _ _ (by simp <;> omega), World.frozen?_alloc_at _ _ _ _ (by simp <;> omega)]
  have f15 : wx.frozen? ⟨w.heap.size, 3, none⟩ = false := by rw [← hwx]; rw [World.frozen?_alloc_past _ _ _ (by simp <;> omega), World.frozen?_alloc_past _ _ _ (by simp <;> omega), World.frozen?_alloc_at _ _ _ _ (by simp <;> omega)]
  have f16 : wx.frozen? ⟨w.heap.size, 4, none⟩ = false := by rw [← hwx]; rw [World.frozen?_alloc_past _ _ _ (by simp <;> omega), World.frozen?_alloc_past _ _ _ (by simp <;> omega), World.frozen?_alloc_at _ _ _ _ (by simp <;> omega)]
  have f17 : wx.frozen? ⟨w.heap.size, 5, none⟩ = false := by rw [← hwx]; rw [World.frozen?_alloc_past _ _ _ (by simp <;> omega), World.frozen?_alloc_past _ _ _ (by simp <;> omega), World.frozen?_alloc_at _ _ _ _ (by simp <;> omega)]
  clear hwx
  obtain ⟨nb, hnb⟩ : ∃ nb, nb = w.heap.size + 1 + 1 := ⟨_, rfl⟩
  rw [← hnb] at hs0 f0 f1 f2 f3 f4 f5 ⊢
  have hne : nb ≠ w.heap.size := by omega
  have hne2 : w.heap.size ≠ nb := by omega
  clear hnb
  have hd3 : ∀ (W : World) (o : Obj) (j : Nat), w.heap.size < W.heap.size → (W.alloc o).frozen? ⟨w.heap.size, j, none⟩ = W.frozen? ⟨w.heap.size, j, none⟩ := fun W o j h => ((Below.refl W.heap.size W).alloc (Nat.le_refl _) o).frozen (p := ⟨w.heap.size, j, none⟩) h
  have hd4 : ∀ (W : World) (o : Obj) (j : Nat), w.heap.size < W.heap.size → (W.alloc o).drew.frozen? ⟨w.heap.size, j, none⟩ = W.frozen? ⟨w.heap.size, j, none⟩ := hd3
  have hd5 : ∀ (W : World) (o : Obj), nb < W.heap.size → nb < (W.alloc o).heap.size := fun W o h => by simp; omega
  have hd6 : ∀ (W : World) (o : Obj), nb < W.heap.size → nb < (W.alloc o).drew.heap.size := hd5
  have hd7 : ∀ (W : World) (o : Obj), w.heap.size < W.heap.size → w.heap.size < (W.alloc o).heap.size := fun W o h => by simp; omega
  have hd8 : ∀ (W : World) (o : Obj), w.heap.size < W.heap.size → w.heap.size < (W.alloc o).drew.heap.size := hd7
  have he1 : ∀ n, nb < n → nb < n + 1 := fun n h => by omega
  have hf1 : ∀ n, w.heap.size < n → w.heap.size < n + 1 := fun n h => by omega
  have he2 : ∀ n, nb < n → nb < n + 2 := fun n h => by omega
  have hf2 : ∀ n, w.heap.size < n → w.heap.size < n + 2 := fun n h => by omega
  have he3 : ∀ n, nb < n → nb < n + 3 := fun n h => by omega
  have hf3 : ∀ n, w.heap.size < n → w.heap.size < n + 3 := fun n h => by omega
  have he4 : ∀ n, nb < n → nb < n + 4 := fun n h => by omega
  have hf4 : ∀ n, w.heap.size < n → w.heap.size < n + 4 := fun n h => by omega
  have he5 : ∀ n, nb < n → nb < n + 5 := fun n h => by omega
  have hf5 : ∀ n, w.heap.size < n → w.heap.size < n + 5 := fun n h => by omega
  have he6 : ∀ n, nb < n → nb < n + 6 := fun n h => by omega
  have hf6 : ∀ n, w.heap.size < n → w.heap.size < n + 6 := fun n h => by omega
  have hg1 : ∀ (W : World) (o : Obj) (j : Nat), nb < W.heap.size → (W.alloc o).cell? ⟨nb, j, none⟩ = W.cell? ⟨nb, j, none⟩ := fun W o j h => World.cell?_alloc_past _ _ _ (by omega)
  have hg2 : ∀ (W : World) (o : Obj) (j : Nat), w.heap.size < W.heap.size → (W.alloc o).cell? ⟨w.heap.size, j, none⟩ = W.cell? ⟨w.heap.size, j, none⟩ := fun W o j h => World.cell?_alloc_past _ _ _ (by omega)
  go_region_held3 (fun w' => w'.cell? ⟨nb, 0, none⟩ = some (.int .i64 5) ∧ w'.cell? ⟨nb, 1, none⟩ = some (.int .i64 0) ∧ w'.cell? ⟨nb, 2, none⟩ = some (.int .i64 0) ∧ w'.cell? ⟨nb, 3, none⟩ = some (.int .i64 1) ∧ w'.cell? ⟨nb, 4, none⟩ = some (.int .i64 1) ∧ w'.cell? ⟨nb, 5, none⟩ = some (.int .i64 1) ∧ w'.frozen? ⟨w.heap.size, 0, none⟩ = false ∧ w'.frozen? ⟨w.heap.size, 1, none⟩ = false ∧ w'.frozen? ⟨w.heap.size, 2, none⟩ = false ∧ w'.frozen? ⟨w.heap.size, 3, none⟩ = false ∧ w'.frozen? ⟨w.heap.size, 4, none⟩ = false ∧ w'.frozen? ⟨w.heap.size, 5, none⟩ = false ∧ nb < w'.heap.size ∧ w.heap.size < w'.heap.size) (go_keep) ((go_at_call 54; refine (form_exact _ _ _ _ _ _).mono ?_; rintro e w' ⟨rfl, rfl⟩))
  go_wp2
  (try simp only [Exit.inBlock, Exit.then])
  refine bodyPost_ret (v := .agg #[.int .i64 5, .int .i64 0, .int .i64 0, .int .i64 1, .int .i64 1, .int .i64 1]) (by simp [results, Tryd.results56, go_sem, hg2, hs1, hf1, hf2, hf3, hf4, hf5, hf6, f6, f7, f8, f9, f10, f11]) rfl ?_
  refine ⟨rfl, ?_⟩
  repeat (first | with_reducible exact hb0 | with_reducible refine below_drew ?_ | with_reducible refine below_alloc ?_ _ | with_reducible refine Below.setCell (p := ⟨w.heap.size, _, none⟩) ?_ (by exact Nat.le_refl _) _)
set_option maxRecDepth 100000 in
set_option maxHeartbeats 1500000 in
theorem last_4_3 (w : World) : Calls Tryd.prog 56 #[.int .i64 4, .int .i64 3] w fun e w' => e = .returned (.agg #[.int .i64 5, .int .i64 0, .int .i64 0, .int .i64 1, .int .i64 1, .int .i64 1]) ∧ Below w.heap.size w w' := by
  have hi : ∀ w, (Instr.index 90 (.agg #[.int .i64 37, .int .i64 4, .int .i64 0, .int .i64 3, .int .i64 4, .int .i64 4, .int .i64 6, .int .i64 0, .int .i64 0, .int .i64 1, .int .i64 1, .int .i64 1, .int .i64 5, .int .i64 0, .int .i64 0, .int .i64 1, .int .i64 1, .int .i64 1, .int .i64 5, .int .i64 0, .int .i64 0, .int .i64 1, .int .i64 1, .int .i64 1, .int .i64 5, .int .i64 0, .int .i64 0, .int .i64 1, .int .i64 1, .int .i64 1, .int .i64 5, .int .i64 0, .int .i64 0, .int .i64 1, .int .i64 1, .int .i64 1, .int .i64 3, .int .i64 0, .int .i64 0, .int .i64 1, .int .i64 1, .int .i64 1, .int .i64 4, .int .i64 0, .int .i64 0, .int .i64 1, .int .i64 1, .int .i64 1]) (.int .i64 4)).run Tryd.prog w = .ok (.agg #[.int .i64 5, .int .i64 0, .int .i64 0, .int .i64 1, .int .i64 1, .int .i64 1]) w := fun w => by kernel_rfl
  go_enter Tryd.func56, Tryd.ntmps56
  go_wp2_with (first | (go_at_call 54; refine (form_exact _ _ _ _ _ _).mono ?_; rintro e w' ⟨rfl, rfl⟩) | (go_at_call 74; refine (on_exact _ _ _ _ _ _).mono ?_; rintro e w' ⟨rfl, rfl⟩) | (go_at_call 75; refine (stack_other 2 _ (by decide)).mono ?_; rintro e w' ⟨rfl, rfl⟩))
  generalize hwx : ((w.alloc (.cells #[.int .i64 0, .int .i64 0, .int .i64 0, .int .i64 0, .int .i64 0, .int .i64 0] 46)).alloc (.cells #[.int .i64 5, .int .i64 0, .int .i64 0, .int .i64 1, .int .i64 1, .int .i64 1] 46)).alloc (.cells #[.int .i64 5, .int .i64 0, .int .i64 0, .int .i64 1, .int .i64 1, .int .i64 1] 46) = wx
  have hb0 : Below w.heap.size w wx := by rw [← hwx]; exact (((Below.refl _ _).alloc (Nat.le_refl _) _).alloc (by simp) _).alloc (by simp; omega) _
  have hs0 : w.heap.size + 1 + 1 < wx.heap.size := by rw [← hwx]; simp <;> omega
  have hs1 : w.heap.size < wx.heap.size := by rw [← hwx]; simp <;> omega
  have f0 : wx.cell? ⟨w.heap.size + 1 + 1, 0, none⟩ = some (.int .i64 5) := by rw [← hwx]; rw [World.cell?_alloc_at _ _ _ _ (by simp)]; rfl
  have f1 : wx.cell? ⟨w.heap.size + 1 + 1, 1, none⟩ = some (.int .i64 0) := by rw [← hwx]; rw [World.cell?_alloc_at _ _ _ _ (by simp)]; rfl
  have f2 : wx.cell? ⟨w.heap.size + 1 + 1, 2, none⟩ = some (.int .i64 0) := by rw [← hwx]; rw [World.cell?_alloc_at _ _ _ _ (by simp)]; rfl
  have f3 : wx.cell? ⟨w.heap.size + 1 + 1, 3, none⟩ = some (.int .i64 1) := by rw [← hwx]; rw [World.cell?_alloc_at _ _ _ _ (by simp)]; rfl
  have f4 : wx.cell? ⟨w.heap.size + 1 + 1, 4, none⟩ = some (.int .i64 1) := by rw [← hwx]; rw [World.cell?_alloc_at _ _ _ _ (by simp)]; rfl
  have f5 : wx.cell? ⟨w.heap.size + 1 + 1, 5, none⟩ = some (.int .i64 1) := by rw [← hwx]; rw [World.cell?_alloc_at _ _ _ _ (by simp)]; rfl
  have f6 : wx.cell? ⟨w.heap.size, 0, none⟩ = some (.int .i64 0) := by rw [← hwx]; rw [World.cell?_alloc_past _ _ _ (by simp <;> omega), World.cell?_alloc_past _ _ _ (by simp <;> omega), World.cell?_alloc_at _ _ _ _ (by simp <;> omega)]; rfl
  have f7 : wx.cell? ⟨w.heap.size, 1, none⟩ = some (.int .i64 0) := by rw [← hwx]; rw [World.cell?_alloc_past _ _ _ (by simp <;> omega), World.cell?_alloc_past _ _ _ (by simp <;> omega), World.cell?_alloc_at _ _ _ _ (by simp <;> omega)]; rfl
  have f8 : wx.cell? ⟨w.heap.size, 2, none⟩ = some (.int .i64 0) := by rw [← hwx]; rw [World.cell?_alloc_past _ _ _ (by simp <;> omega), World.cell?_alloc_past _ _ _ (by simp <;> omega), World.cell?_alloc_at _ _ _ _ (by simp <;> omega)]; rfl
  have f9 : wx.cell? ⟨w.heap.size, 3, none⟩ = some (.int .i64 0) := by rw [← hwx]; rw [World.cell?_alloc_past _ _ _ (by simp <;> omega), World.cell?_alloc_past _ _ _ (by simp <;> omega), World.cell?_alloc_at _ _ _ _ (by simp <;> omega)]; rfl
  have f10 : wx.cell? ⟨w.heap.size, 4, none⟩ = some (.int .i64 0) := by rw [← hwx]; rw [World.cell?_alloc_past _ _ _ (by simp <;> omega), World.cell?_alloc_past _ _ _ (by simp <;> omega), World.cell?_alloc_at _ _ _ _ (by simp <;> omega)]; rfl
  have f11 : wx.cell? ⟨w.heap.size, 5, none⟩ = some (.int .i64 0) := by rw [← hwx]; rw [World.cell?_alloc_past _ _ _ (by simp <;> omega), World.cell?_alloc_past _ _ _ (by simp <;> omega), World.cell?_alloc_at _ _ _ _ (by simp <;> omega)]; rfl
  have f12 : wx.frozen? ⟨w.heap.size, 0, none⟩ = false := by rw [← hwx]; rw [World.frozen?_alloc_past _ _ _ (by simp <;> omega), World.frozen?_alloc_past _ _ _ (by simp <;> omega), World.frozen?_alloc_at _ _ _ _ (by simp <;> omega)]
  have f13 : wx.frozen? ⟨w.heap.size, 1, none⟩ = false := by rw [← hwx]; rw [World.frozen?_alloc_past _ _ _ (by simp <;> omega), World.frozen?_alloc_past _ _ _ (by simp <;> omega), World.frozen?_alloc_at _ _ _ _ (by simp <;> omega)]
  have f14 : wx.frozen? ⟨w.heap.size, 2, none⟩ = false := by rw [← hwx]; rw [World.frozen?_alloc_past _ _ _ (by simp <;> omega), World.frozen?_alloc_past _ _ _ (by simp <;> omega), World.frozen?_alloc_at _ _ _ _ (by simp <;> omega)]
  have f15 : wx.frozen? ⟨w.heap.size, 3, none⟩ = false := by rw [← hwx]; rw [World.frozen?_alloc_past _ _ _ (by simp <;> omega), World.frozen?_alloc_past _ _ _ (by simp <;> omega), World.frozen?_alloc_at _ _ _ _ (by simp <;> omega)]
  have f16 : wx.frozen? ⟨w.heap.size, 4, none⟩ = false := by rw [← hwx]; rw [World.frozen?_alloc_past _ _ _ (by simp <;> omega), World.frozen?_alloc_past _ _ _ (by simp <;> omega), World.frozen?_alloc_at _ _ _ _ (by simp <;> omega)]
  have f17 : wx.frozen? ⟨w.heap.size, 5, none⟩ = false := by rw [← hwx]; rw [World.frozen?_alloc_past _ _ _ (by simp <;> omega), World.frozen?_alloc_past _ _ _ (by simp <;> omega), World.frozen?_alloc_at _ _ _ _ (by simp <;> omega)]
  clear hwx
  obtain ⟨nb, hnb⟩ : ∃ nb, nb = w.heap.size + 1 + 1 := ⟨_, rfl⟩
  rw [← hnb] at hs0 f0 f1 f2 f3 f4 f5 ⊢
  have hne : nb ≠ w.heap.size := by omega
  have hne2 : w.heap.size ≠ nb := by omega
  clear hnb
  have hd3 : ∀ (W : World) (o : Obj) (j : Nat), w.heap.size < W.heap.size → (W.alloc o).frozen? ⟨w.heap.size, j, none⟩ = W.frozen? ⟨w.heap.size, j, none⟩ := fun W o j h => ((Below.refl W.heap.size W).alloc (Nat.le_refl _) o).frozen (p := ⟨w.heap.size, j, none⟩) h
  have hd4 : ∀ (W : World) (o : Obj) (j : Nat), w.heap.size < W.heap.size → (W.alloc o).drew.frozen? ⟨w.heap.size, j, none⟩ = W.frozen? ⟨w.heap.size, j, none⟩ := hd3
  have hd5 : ∀ (W : World) (o : Obj), nb < W.heap.size → nb < (W.alloc o).heap.size := fun W o h => by simp; omega
  have hd6 : ∀ (W : World) (o : Obj), nb < W.heap.size → nb < (W.alloc o).drew.heap.size := hd5
  have hd7 : ∀ (W : World) (o : Obj), w.heap.size < W.heap.size → w.heap.size < (W.alloc o).heap.size := fun W o h => by simp; omega
  have hd8 : ∀ (W : World) (o : Obj), w.heap.size < W.heap.size → w.heap.size < (W.alloc o).drew.heap.size := hd7
  have he1 : ∀ n, nb < n → nb < n + 1 := fun n h => by omega
  have hf1 : ∀ n, w.heap.size < n → w.heap.size < n + 1 := fun n h => by omega
  have he2 : ∀ n, nb < n → nb < n + 2 := fun n h => by omega
  have hf2 : ∀ n, w.heap.size < n → w.heap.size < n + 2 := fun n h => by omega
  have he3 : ∀ n, nb < n → nb < n + 3 := fun n h => by omega
  have hf3 : ∀ n, w.heap.size < n → w.heap.size < n + 3 := fun n h => by omega
  have he4 : ∀ n, nb < n → nb < n + 4 := fun n h => by omega
  have hf4 : ∀ n, w.heap.size < n → w.heap.size < n + 4 := fun n h => by omega
  have he5 : ∀ n, nb < n → nb < n + 5 := fun n h => by omega
  have hf5 : ∀ n, w.heap.size < n → w.heap.size < n + 5 := fun n h => by omega
  have he6 : ∀ n, nb < n → nb < n + 6 := fun n h => by omega
  have hf6 : ∀ n, w.heap.size < n → w.heap.size < n + 6 := fun n h => by omega
  have hg1 : ∀ (W : World) (o : Obj) (j : Nat), nb < W.heap.size → (W.alloc o).cell? ⟨nb, j, none⟩ = W.cell? ⟨nb, j, none⟩ := fun W o j h => World.cell?_alloc_past _ _ _ (by omega)
  have hg2 : ∀ (W : World) (o : Obj) (j : Nat), w.heap.size < W.heap.size → (W.alloc o).cell? ⟨w.heap.size, j, none⟩ = W.cell? ⟨w.heap.size, j, none⟩ := fun W o j h => World.cell?_alloc_past _ _ _ (by omega)
  go_region_held3 (fun w' => w'.cell? ⟨nb, 0, none⟩ = some (.int .i64 5) ∧ w'.cell? ⟨nb, 1, none⟩ = some (.int .i64 0) ∧ w'.cell? ⟨nb, 2, none⟩ = some (.int .i64 0) ∧ w'.cell? ⟨nb, 3, none⟩ = some (.int .i64 1) ∧ w'.cell? ⟨nb, 4, none⟩ = some (.int .i64 1) ∧ w'.cell? ⟨nb, 5, none⟩ = some (.int .i64 1) ∧ w'.frozen? ⟨w.heap.size, 0, none⟩ = false ∧ w'.frozen? ⟨w.heap.size, 1, none⟩ = false ∧ w'.frozen? ⟨w.heap.size, 2, none⟩ = false ∧ w'.frozen? ⟨w.heap.size, 3, none⟩ = false ∧ w'.frozen? ⟨w.heap.size, 4, none⟩ = false ∧ w'.frozen? ⟨w.heap.size, 5, none⟩ = false ∧ nb < w'.heap.size ∧ w.heap.size < w'.heap.size) (go_keep) ((go_at_call 54; refine (form_exact _ _ _ _ _ _).mono ?_; rintro e w' ⟨rfl, rfl⟩))
  go_wp2
  (try simp only [Exit.inBlock, Exit.then])
  refine bodyPost_ret (v := .agg #[.int .i64 5, .int .i64 0, .int .i64 0, .int .i64 1, .int .i64 1, .int .i64 1]) (by simp [results, Tryd.results56, go_sem, hg2, hs1, hf1, hf2, hf3, hf4, hf5, hf6, f6, f7, f8, f9, f10, f11]) rfl ?_
  refine ⟨rfl, ?_⟩
  repeat (first | with_reducible exact hb0 | with_reducible refine below_drew ?_ | with_reducible refine below_alloc ?_ _ | with_reducible refine Below.setCell (p := ⟨w.heap.size, _, none⟩) ?_ (by exact Nat.le_refl _) _)
set_option maxRecDepth 100000 in
set_option maxHeartbeats 1500000 in
theorem last_5_3 (w : World) : Calls Tryd.prog 56 #[.int .i64 5, .int .i64 3] w fun e w' => e = .returned (.agg #[.int .i64 5, .int .i64 0, .int .i64 0, .int .i64 1, .int .i64 1, .int .i64 1]) ∧ Below w.heap.size w w' := by
  have hi : ∀ w, (Instr.index 90 (.agg #[.int .i64 37, .int .i64 4, .int .i64 0, .int .i64 3, .int .i64 4, .int .i64 4, .int .i64 6, .int .i64 0, .int .i64 0, .int .i64 1, .int .i64 1, .int .i64 1, .int .i64 5, .int .i64 0, .int .i64 0, .int .i64 1, .int .i64 1, .int .i64 1, .int .i64 5, .int .i64 0, .int .i64 0, .int .i64 1, .int .i64 1, .int .i64 1, .int .i64 5, .int .i64 0, .int .i64 0, .int .i64 1, .int .i64 1, .int .i64 1, .int .i64 5, .int .i64 0, .int .i64 0, .int .i64 1, .int .i64 1, .int .i64 1, .int .i64 3, .int .i64 0, .int .i64 0, .int .i64 1, .int .i64 1, .int .i64 1, .int .i64 4, .int .i64 0, .int .i64 0, .int .i64 1, .int .i64 1, .int .i64 1]) (.int .i64 5)).run Tryd.prog w = .ok (.agg #[.int .i64 5, .int .i64 0, .int .i64 0, .int .i64 1, .int .i64 1, .int .i64 1]) w := fun w => by kernel_rfl
  go_enter Tryd.func56, Tryd.ntmps56
  go_wp2_with (first | (go_at_call 54; refine (form_exact _ _ _ _ _ _).mono ?_; rintro e w' ⟨rfl, rfl⟩) | (go_at_call 74; refine (on_exact _ _ _ _ _ _).mono ?_; rintro e w' ⟨rfl, rfl⟩) | (go_at_call 75; refine (stack_other 2 _ (by decide)).mono ?_; rintro e w' ⟨rfl, rfl⟩))
  generalize hwx : ((w.alloc (.cells #[.int .i64 0, .int .i64 0, .int .i64 0, .int .i64 0, .int .i64 0, .int .i64 0] 46)).alloc (.cells #[.int .i64 5, .int .i64 0, .int .i64 0, .int .i64 1, .int .i64 1, .int .i64 1] 46)).alloc (.cells #[.int .i64 5, .int .i64 0, .int .i64 0, .int .i64 1, .int .i64 1, .int .i64 1] 46) = wx
  have hb0 : Below w.heap.size w wx := by rw [← hwx]; exact (((Below.refl _ _).alloc (Nat.le_refl _) _).alloc (by simp) _).alloc (by simp; omega) _
  have hs0 : w.heap.size + 1 + 1 < wx.heap.size := by rw [← hwx]; simp <;> omega
  have hs1 : w.heap.size < wx.heap.size := by rw [← hwx]; simp <;> omega
  have f0 : wx.cell? ⟨w.heap.size + 1 + 1, 0, none⟩ = some (.int .i64 5) := by rw [← hwx]; rw [World.cell?_alloc_at _ _ _ _ (by simp)]; rfl
  have f1 : wx.cell? ⟨w.heap.size + 1 + 1, 1, none⟩ = some (.int .i64 0) := by rw [← hwx]; rw [World.cell?_alloc_at _ _ _ _ (by simp)]; rfl
  have f2 : wx.cell? ⟨w.heap.size + 1 + 1, 2, none⟩ = some (.int .i64 0) := by rw [← hwx]; rw [World.cell?_alloc_at _ _ _ _ (by simp)]; rfl
  have f3 : wx.cell? ⟨w.heap.size + 1 + 1, 3, none⟩ = some (.int .i64 1) := by rw [← hwx]; rw [World.cell?_alloc_at _ _ _ _ (by simp)]; rfl
  have f4 : wx.cell? ⟨w.heap.size + 1 + 1, 4, none⟩ = some (.int .i64 1) := by rw [← hwx]; rw [World.cell?_alloc_at _ _ _ _ (by simp)]; rfl
  have f5 : wx.cell? ⟨w.heap.size + 1 + 1, 5, none⟩ = some (.int .i64 1) := by rw [← hwx]; rw [World.cell?_alloc_at _ _ _ _ (by simp)]; rfl
  have f6 : wx.cell? ⟨w.heap.size, 0, none⟩ = some (.int .i64 0) := by rw [← hwx]; rw [World.cell?_alloc_past _ _ _ (by simp <;> omega), World.cell?_alloc_past _ _ _ (by simp <;> omega), World.cell?_alloc_at _ _ _ _ (by simp <;> omega)]; rfl
  have f7 : wx.cell? ⟨w.heap.size, 1, none⟩ = some (.int .i64 0) := by rw [← hwx]; rw [World.cell?_alloc_past _ _ _ (by simp <;> omega), World.cell?_alloc_past _ _ _ (by simp <;> omega), World.cell?_alloc_at _ _ _ _ (by simp <;> omega)]; rfl
  have f8 : wx.cell? ⟨w.heap.size, 2, none⟩ = some (.int .i64 0) := by rw [← hwx]; rw [World.cell?_alloc_past _ _ _ (by simp <;> omega), World.cell?_alloc_past _ _ _ (by simp <;> omega), World.cell?_alloc_at _ _ _ _ (by simp <;> omega)]; rfl
  have f9 : wx.cell? ⟨w.heap.size, 3, none⟩ = some (.int .i64 0) := by rw [← hwx]; rw [World.cell?_alloc_past _ _ _ (by simp <;> omega), World.cell?_alloc_past _ _ _ (by simp <;> omega), World.cell?_alloc_at _ _ _ _ (by simp <;> omega)]; rfl
  have f10 : wx.cell? ⟨w.heap.size, 4, none⟩ = some (.int .i64 0) := by rw [← hwx]; rw [World.cell?_alloc_past _ _ _ (by simp <;> omega), World.cell?_alloc_past _ _ _ (by simp <;> omega), World.cell?_alloc_at _ _ _ _ (by simp <;> omega)]; rfl
  have f11 : wx.cell? ⟨w.heap.size, 5, none⟩ = some (.int .i64 0) := by rw [← hwx]; rw [World.cell?_alloc_past _ _ _ (by simp <;> omega), World.cell?_alloc_past _ _ _ (by simp <;> omega), World.cell?_alloc_at _ _ _ _ (by simp <;> omega)]; rfl
  have f12 : wx.frozen? ⟨w.heap.size, 0, none⟩ = false := by rw [← hwx]; rw [World.frozen?_alloc_past _ _ _ (by simp <;> omega), World.frozen?_alloc_past _ _ _ (by simp <;> omega), World.frozen?_alloc_at _ _ _ _ (by simp <;> omega)]
  have f13 : wx.frozen? ⟨w.heap.size, 1, none⟩ = false := by rw [← hwx]; rw [World.frozen?_alloc_past _ _ _ (by simp <;> omega), World.frozen?_alloc_past _ _ _ (by simp <;> omega), World.frozen?_alloc_at _ _ _ _ (by simp <;> omega)]
  have f14 : wx.frozen? ⟨w.heap.size, 2, none⟩ = false := by rw [← hwx]; rw [World.frozen?_alloc_past _ _ _ (by simp <;> omega), World.frozen?_alloc_past _ _ _ (by simp <;> omega), World.frozen?_alloc_at _ _ _ _ (by simp <;> omega)]
  have f15 : wx.frozen? ⟨w.heap.size, 3, none⟩ = false := by rw [← hwx]; rw [World.frozen?_alloc_past _ _ _ (by simp <;> omega), World.frozen?_alloc_past _ _ _ (by simp <;> omega), World.frozen?_alloc_at _ _ _ _ (by simp <;> omega)]
  have f16 : wx.frozen? ⟨w.heap.size, 4, none⟩ = false := by rw [← hwx]; rw [World.frozen?_alloc_past _ _ _ (by simp <;> omega), World.frozen?_alloc_past _ _ _ (by simp <;> omega), World.frozen?_alloc_at _ _ _ _ (by simp <;> omega)]
  have f17 : wx.frozen? ⟨w.heap.size, 5, none⟩ = false := by rw [← hwx]; rw [World.frozen?_alloc_past _ _ _ (by simp <;> omega), World.frozen?_alloc_past _ _ _ (by simp <;> omega), World.frozen?_alloc_at _ _ _ _ (by simp <;> omega)]
  clear hwx
  obtain ⟨nb, hnb⟩ : ∃ nb, nb = w.heap.size + 1 + 1 := ⟨_, rfl⟩
  rw [← hnb] at hs0 f0 f1 f2 f3 f4 f5 ⊢
  have hne : nb ≠ w.heap.size := by omega
  have hne2 : w.heap.size ≠ nb := by omega
  clear hnb
  have hd3 : ∀ (W : World) (o : Obj) (j : Nat), w.heap.size < W.heap.size → (W.alloc o).frozen? ⟨w.heap.size, j, none⟩ = W.frozen? ⟨w.heap.size, j, none⟩ := fun W o j h => ((Below.refl W.heap.size W).alloc (Nat.le_refl _) o).frozen (p := ⟨w.heap.size, j, none⟩) h
  have hd4 : ∀ (W : World) (o : Obj) (j : Nat), w.heap.size < W.heap.size → (W.alloc o).drew.frozen? ⟨w.heap.size, j, none⟩ = W.frozen? ⟨w.heap.size, j, none⟩ := hd3
  have hd5 : ∀ (W : World) (o : Obj), nb < W.heap.size → nb < (W.alloc o).heap.size := fun W o h => by simp; omega
  have hd6 : ∀ (W : World) (o : Obj), nb < W.heap.size → nb < (W.alloc o).drew.heap.size := hd5
  have hd7 : ∀ (W : World) (o : Obj), w.heap.size < W.heap.size → w.heap.size < (W.alloc o).heap.size := fun W o h => by simp; omega
  have hd8 : ∀ (W : World) (o : Obj), w.heap.size < W.heap.size → w.heap.size < (W.alloc o).drew.heap.size := hd7
  have he1 : ∀ n, nb < n → nb < n + 1 := fun n h => by omega
  have hf1 : ∀ n, w.heap.size < n → w.heap.size < n + 1 := fun n h => by omega
  have he2 : ∀ n, nb < n → nb < n + 2 := fun n h => by omega
  have hf2 : ∀ n, w.heap.size < n → w.heap.size < n + 2 := fun n h => by omega
  have he3 : ∀ n, nb < n → nb < n + 3 := fun n h => by omega
  have hf3 : ∀ n, w.heap.size < n → w.heap.size < n + 3 := fun n h => by omega
  have he4 : ∀ n, nb < n → nb < n + 4 := fun n h => by omega
  have hf4 : ∀ n, w.heap.size < n → w.heap.size < n + 4 := fun n h => by omega
  have he5 : ∀ n, nb < n → nb < n + 5 := fun n h => by omega
  have hf5 : ∀ n, w.heap.size < n → w.heap.size < n + 5 := fun n h => by omega
  have he6 : ∀ n, nb < n → nb < n + 6 := fun n h => by omega
  have hf6 : ∀ n, w.heap.size < n → w.heap.size < n + 6 := fun n h => by omega
  have hg1 : ∀ (W : World) (o : Obj) (j : Nat), nb < W.heap.size → (W.alloc o).cell? ⟨nb, j, none⟩ = W.cell? ⟨nb, j, none⟩ := fun W o j h => World.cell?_alloc_past _ _ _ (by omega)
  have hg2 : ∀ (W : World) (o : Obj) (j : Nat), w.heap.size < W.heap.size → (W.alloc o).cell? ⟨w.heap.size, j, none⟩ = W.cell? ⟨w.heap.size, j, none⟩ := fun W o j h => World.cell?_alloc_past _ _ _ (by omega)
  go_region_held3 (fun w' => w'.cell? ⟨nb, 0, none⟩ = some (.int .i64 5) ∧ w'.cell? ⟨nb, 1, none⟩ = some (.int .i64 0) ∧ w'.cell? ⟨nb, 2, none⟩ = some (.int .i64 0) ∧ w'.cell? ⟨nb, 3, none⟩ = some (.int .i64 1) ∧ w'.cell? ⟨nb, 4, none⟩ = some (.int .i64 1) ∧ w'.cell? ⟨nb, 5, none⟩ = some (.int .i64 1) ∧ w'.frozen? ⟨w.heap.size, 0, none⟩ = false ∧ w'.frozen? ⟨w.heap.size, 1, none⟩ = false ∧ w'.frozen? ⟨w.heap.size, 2, none⟩ = false ∧ w'.frozen? ⟨w.heap.size, 3, none⟩ = false ∧ w'.frozen? ⟨w.heap.size, 4, none⟩ = false ∧ w'.frozen? ⟨w.heap.size, 5, none⟩ = false ∧ nb < w'.heap.size ∧ w.heap.size < w'.heap.size) (go_keep) ((go_at_call 54; refine (form_exact _ _ _ _ _ _).mono ?_; rintro e w' ⟨rfl, rfl⟩))
  go_wp2
  (try simp only [Exit.inBlock, Exit.then])
  refine bodyPost_ret (v := .agg #[.int .i64 5, .int .i64 0, .int .i64 0, .int .i64 1, .int .i64 1, .int .i64 1]) (by simp [results, Tryd.results56, go_sem, hg2, hs1, hf1, hf2, hf3, hf4, hf5, hf6, f6, f7, f8, f9, f10, f11]) rfl ?_
  refine ⟨rfl, ?_⟩
  repeat (first | with_reducible exact hb0 | with_reducible refine below_drew ?_ | with_reducible refine below_alloc ?_ _ | with_reducible refine Below.setCell (p := ⟨w.heap.size, _, none⟩) ?_ (by exact Nat.le_refl _) _)
set_option maxRecDepth 100000 in
set_option maxHeartbeats 1500000 in
theorem last_6_3 (w : World) : Calls Tryd.prog 56 #[.int .i64 6, .int .i64 3] w fun e w' => e = .returned (.agg #[.int .i64 3, .int .i64 0, .int .i64 0, .int .i64 1, .int .i64 1, .int .i64 1]) ∧ Below w.heap.size w w' := by
  have hi : ∀ w, (Instr.index 90 (.agg #[.int .i64 37, .int .i64 4, .int .i64 0, .int .i64 3, .int .i64 4, .int .i64 4, .int .i64 6, .int .i64 0, .int .i64 0, .int .i64 1, .int .i64 1, .int .i64 1, .int .i64 5, .int .i64 0, .int .i64 0, .int .i64 1, .int .i64 1, .int .i64 1, .int .i64 5, .int .i64 0, .int .i64 0, .int .i64 1, .int .i64 1, .int .i64 1, .int .i64 5, .int .i64 0, .int .i64 0, .int .i64 1, .int .i64 1, .int .i64 1, .int .i64 5, .int .i64 0, .int .i64 0, .int .i64 1, .int .i64 1, .int .i64 1, .int .i64 3, .int .i64 0, .int .i64 0, .int .i64 1, .int .i64 1, .int .i64 1, .int .i64 4, .int .i64 0, .int .i64 0, .int .i64 1, .int .i64 1, .int .i64 1]) (.int .i64 6)).run Tryd.prog w = .ok (.agg #[.int .i64 3, .int .i64 0, .int .i64 0, .int .i64 1, .int .i64 1, .int .i64 1]) w := fun w => by kernel_rfl
  go_enter Tryd.func56, Tryd.ntmps56
  go_wp2_with (first | (go_at_call 54; refine (form_exact _ _ _ _ _ _).mono ?_; rintro e w' ⟨rfl, rfl⟩) | (go_at_call 74; refine (on_exact _ _ _ _ _ _).mono ?_; rintro e w' ⟨rfl, rfl⟩) | (go_at_call 75; refine (stack_three _).mono ?_; rintro e w' ⟨rfl, rfl⟩))
  generalize hwx : ((w.alloc (.cells #[.int .i64 0, .int .i64 0, .int .i64 0, .int .i64 0, .int .i64 0, .int .i64 0] 46)).alloc (.cells #[.int .i64 5, .int .i64 0, .int .i64 0, .int .i64 1, .int .i64 1, .int .i64 1] 46)).alloc (.cells #[.int .i64 5, .int .i64 0, .int .i64 0, .int .i64 1, .int .i64 1, .int .i64 1] 46) = wx
  have hb0 : Below w.heap.size w wx := by rw [← hwx]; exact (((Below.refl _ _).alloc (Nat.le_refl _) _).alloc (by simp) _).alloc (by simp; omega) _
  have hs0 : w.heap.size + 1 + 1 < wx.heap.size := by rw [← hwx]; simp <;> omega
  have hs1 : w.heap.size < wx.heap.size := by rw [← hwx]; simp <;> omega
  have f0 : wx.cell? ⟨w.heap.size + 1 + 1, 0, none⟩ = some (.int .i64 5) := by rw [← hwx]; rw [World.cell?_alloc_at _ _ _ _ (by simp)]; rfl
  have f1 : wx.cell? ⟨w.heap.size + 1 + 1, 1, none⟩ = some (.int .i64 0) := by rw [← hwx]; rw [World.cell?_alloc_at _ _ _ _ (by simp)]; rfl
  have f2 : wx.cell? ⟨w.heap.size + 1 + 1, 2, none⟩ = some (.int .i64 0) := by rw [← hwx]; rw [World.cell?_alloc_at _ _ _ _ (by simp)]; rfl
  have f3 : wx.cell? ⟨w.heap.size + 1 + 1, 3, none⟩ = some (.int .i64 1) := by rw [← hwx]; rw [World.cell?_alloc_at _ _ _ _ (by simp)]; rfl
  have f4 : wx.cell? ⟨w.heap.size + 1 + 1, 4, none⟩ = some (.int .i64 1) := by rw [← hwx]; rw [World.cell?_alloc_at _ _ _ _ (by simp)]; rfl
  have f5 : wx.cell? ⟨w.heap.size + 1 + 1, 5, none⟩ = some (.int .i64 1) := by rw [← hwx]; rw [World.cell?_alloc_at _ _ _ _ (by simp)]; rfl
  have f6 : wx.cell? ⟨w.heap.size, 0, none⟩ = some (.int .i64 0) := by rw [← hwx]; rw [World.cell?_alloc_past _ _ _ (by simp <;> omega), World.cell?_alloc_past _ _ _ (by simp <;> omega), World.cell?_alloc_at _ _ _ _ (by simp <;> omega)]; rfl
  have f7 : wx.cell? ⟨w.heap.size, 1, none⟩ = some (.int .i64 0) := by rw [← hwx]; rw [World.cell?_alloc_past _ _ _ (by simp <;> omega), World.cell?_alloc_past _ _ _ (by simp <;> omega), World.cell?_alloc_at _ _ _ _ (by simp <;> omega)]; rfl
  have f8 : wx.cell? ⟨w.heap.size, 2, none⟩ = some (.int .i64 0) := by rw [← hwx]; rw [World.cell?_alloc_past _ _ _ (by simp <;> omega), World.cell?_alloc_past _ _ _ (by simp <;> omega), World.cell?_alloc_at _ _ _ _ (by simp <;> omega)]; rfl
  have f9 : wx.cell? ⟨w.heap.size, 3, none⟩ = some (.int .i64 0) := by rw [← hwx]; rw [World.cell?_alloc_past _ _ _ (by simp <;> omega), World.cell?_alloc_past _ _ _ (by simp <;> omega), World.cell?_alloc_at _ _ _ _ (by simp <;> omega)]; rfl
  have f10 : wx.cell? ⟨w.heap.size, 4, none⟩ = some (.int .i64 0) := by rw [← hwx]; rw [World.cell?_alloc_past _ _ _ (by simp <;> omega), World.cell?_alloc_past _ _ _ (by simp <;> omega), World.cell?_alloc_at _ _ _ _ (by simp <;> omega)]; rfl
  have f11 : wx.cell? ⟨w.heap.size, 5, none⟩ = some (.int .i64 0) := by rw [← hwx]; rw [World.cell?_alloc_past _ _ _ (by simp <;> omega), World.cell?_alloc_past _ _ _ (by simp <;> omega), World.cell?_alloc_at _ _ _ _ (by simp <;> omega)]; rfl
  have f12 : wx.frozen? ⟨w.heap.size, 0, none⟩ = false := by rw [← hwx]; rw [World.frozen?_alloc_past _ _ _ (by simp <;> omega), World.frozen?_alloc_past _ _ _ (by simp <;> omega), World.frozen?_alloc_at _ _ _ _ (by simp <;> omega)]
  have f13 : wx.frozen? ⟨w.heap.size, 1, none⟩ = false := by rw [← hwx]; rw [World.frozen?_alloc_past _ _ _ (by simp <;> omega), World.frozen?_alloc_past _ _ _ (by simp <;> omega), World.frozen?_alloc_at _ _ _ _ (by simp <;> omega)]
  have f14 : wx.frozen? ⟨w.heap.size, 2, none⟩ = false := by rw [← hwx]; rw [World.frozen?_alloc_past _ _ _ (by simp <;> omega), World.frozen?_alloc_past _ _ _ (by simp <;> omega), World.frozen?_alloc_at _ _ _ _ (by simp <;> omega)]
  have f15 : wx.frozen? ⟨w.heap.size, 3, none⟩ = false := by rw [← hwx]; rw [World.frozen?_alloc_past _ _ _ (by simp <;> omega), World.frozen?_alloc_past _ _ _ (by simp <;> omega), World.frozen?_alloc_at _ _ _ _ (by simp <;> omega)]
  have f16 : wx.frozen? ⟨w.heap.size, 4, none⟩ = false := by rw [← hwx]; rw [World.frozen?_alloc_past _ _ _ (by simp <;> omega), World.frozen?_alloc_past _ _ _ (by simp <;> omega), World.frozen?_alloc_at _ _ _ _ (by simp <;> omega)]
  have f17 : wx.frozen? ⟨w.heap.size, 5, none⟩ = false := by rw [← hwx]; rw [World.frozen?_alloc_past _ _ _ (by simp <;> omega), World.frozen?_alloc_past _ _ _ (by simp <;> omega), World.frozen?_alloc_at _ _ _ _ (by simp <;> omega)]
  clear hwx
  obtain ⟨nb, hnb⟩ : ∃ nb, nb = w.heap.size + 1 + 1 := ⟨_, rfl⟩
  rw [← hnb] at hs0 f0 f1 f2 f3 f4 f5 ⊢
  have hne : nb ≠ w.heap.size := by omega
  have hne2 : w.heap.size ≠ nb := by omega
  clear hnb
  have hd3 : ∀ (W : World) (o : Obj) (j : Nat), w.heap.size < W.heap.size → (W.alloc o).frozen? ⟨w.heap.size, j, none⟩ = W.frozen? ⟨w.heap.size, j, none⟩ := fun W o j h => ((Below.refl W.heap.size W).alloc (Nat.le_refl _) o).frozen (p := ⟨w.heap.size, j, none⟩) h
  have hd4 : ∀ (W : World) (o : Obj) (j : Nat), w.heap.size < W.heap.size → (W.alloc o).drew.frozen? ⟨w.heap.size, j, none⟩ = W.frozen? ⟨w.heap.size, j, none⟩ := hd3
  have hd5 : ∀ (W : World) (o : Obj), nb < W.heap.size → nb < (W.alloc o).heap.size := fun W o h => by simp; omega
  have hd6 : ∀ (W : World) (o : Obj), nb < W.heap.size → nb < (W.alloc o).drew.heap.size := hd5
  have hd7 : ∀ (W : World) (o : Obj), w.heap.size < W.heap.size → w.heap.size < (W.alloc o).heap.size := fun W o h => by simp; omega
  have hd8 : ∀ (W : World) (o : Obj), w.heap.size < W.heap.size → w.heap.size < (W.alloc o).drew.heap.size := hd7
  have he1 : ∀ n, nb < n → nb < n + 1 := fun n h => by omega
  have hf1 : ∀ n, w.heap.size < n → w.heap.size < n + 1 := fun n h => by omega
  have he2 : ∀ n, nb < n → nb < n + 2 := fun n h => by omega
  have hf2 : ∀ n, w.heap.size < n → w.heap.size < n + 2 := fun n h => by omega
  have he3 : ∀ n, nb < n → nb < n + 3 := fun n h => by omega
  have hf3 : ∀ n, w.heap.size < n → w.heap.size < n + 3 := fun n h => by omega
  have he4 : ∀ n, nb < n → nb < n + 4 := fun n h => by omega
  have hf4 : ∀ n, w.heap.size < n → w.heap.size < n + 4 := fun n h => by omega
  have he5 : ∀ n, nb < n → nb < n + 5 := fun n h => by omega
  have hf5 : ∀ n, w.heap.size < n → w.heap.size < n + 5 := fun n h => by omega
  have he6 : ∀ n, nb < n → nb < n + 6 := fun n h => by omega
  have hf6 : ∀ n, w.heap.size < n → w.heap.size < n + 6 := fun n h => by omega
  have hg1 : ∀ (W : World) (o : Obj) (j : Nat), nb < W.heap.size → (W.alloc o).cell? ⟨nb, j, none⟩ = W.cell? ⟨nb, j, none⟩ := fun W o j h => World.cell?_alloc_past _ _ _ (by omega)
  have hg2 : ∀ (W : World) (o : Obj) (j : Nat), w.heap.size < W.heap.size → (W.alloc o).cell? ⟨w.heap.size, j, none⟩ = W.cell? ⟨w.heap.size, j, none⟩ := fun W o j h => World.cell?_alloc_past _ _ _ (by omega)
  go_region_held3 (fun w' => w'.cell? ⟨nb, 0, none⟩ = some (.int .i64 5) ∧ w'.cell? ⟨nb, 1, none⟩ = some (.int .i64 0) ∧ w'.cell? ⟨nb, 2, none⟩ = some (.int .i64 0) ∧ w'.cell? ⟨nb, 3, none⟩ = some (.int .i64 1) ∧ w'.cell? ⟨nb, 4, none⟩ = some (.int .i64 1) ∧ w'.cell? ⟨nb, 5, none⟩ = some (.int .i64 1) ∧ w'.frozen? ⟨w.heap.size, 0, none⟩ = false ∧ w'.frozen? ⟨w.heap.size, 1, none⟩ = false ∧ w'.frozen? ⟨w.heap.size, 2, none⟩ = false ∧ w'.frozen? ⟨w.heap.size, 3, none⟩ = false ∧ w'.frozen? ⟨w.heap.size, 4, none⟩ = false ∧ w'.frozen? ⟨w.heap.size, 5, none⟩ = false ∧ nb < w'.heap.size ∧ w.heap.size < w'.heap.size) (go_keep) ((go_at_call 54; refine (form_exact _ _ _ _ _ _).mono ?_; rintro e w' ⟨rfl, rfl⟩))
  go_wp2
  (try simp only [Exit.inBlock, Exit.then])
  refine bodyPost_ret (v := .agg #[.int .i64 3, .int .i64 0, .int .i64 0, .int .i64 1, .int .i64 1, .int .i64 1]) (by simp [results, Tryd.results56, go_sem, hg2, hs1, hf1, hf2, hf3, hf4, hf5, hf6, f6, f7, f8, f9, f10, f11]) rfl ?_
  refine ⟨rfl, ?_⟩
  repeat (first | with_reducible exact hb0 | with_reducible refine below_drew ?_ | with_reducible refine below_alloc ?_ _ | with_reducible refine Below.setCell (p := ⟨w.heap.size, _, none⟩) ?_ (by exact Nat.le_refl _) _)
set_option maxRecDepth 100000 in
set_option maxHeartbeats 1500000 in
theorem last_7_3 (w : World) : Calls Tryd.prog 56 #[.int .i64 7, .int .i64 3] w fun e w' => e = .returned (.agg #[.int .i64 4, .int .i64 0, .int .i64 0, .int .i64 1, .int .i64 1, .int .i64 1]) ∧ Below w.heap.size w w' := by
  have hi : ∀ w, (Instr.index 90 (.agg #[.int .i64 37, .int .i64 4, .int .i64 0, .int .i64 3, .int .i64 4, .int .i64 4, .int .i64 6, .int .i64 0, .int .i64 0, .int .i64 1, .int .i64 1, .int .i64 1, .int .i64 5, .int .i64 0, .int .i64 0, .int .i64 1, .int .i64 1, .int .i64 1, .int .i64 5, .int .i64 0, .int .i64 0, .int .i64 1, .int .i64 1, .int .i64 1, .int .i64 5, .int .i64 0, .int .i64 0, .int .i64 1, .int .i64 1, .int .i64 1, .int .i64 5, .int .i64 0, .int .i64 0, .int .i64 1, .int .i64 1, .int .i64 1, .int .i64 3, .int .i64 0, .int .i64 0, .int .i64 1, .int .i64 1, .int .i64 1, .int .i64 4, .int .i64 0, .int .i64 0, .int .i64 1, .int .i64 1, .int .i64 1]) (.int .i64 7)).run Tryd.prog w = .ok (.agg #[.int .i64 4, .int .i64 0, .int .i64 0, .int .i64 1, .int .i64 1, .int .i64 1]) w := fun w => by kernel_rfl
  go_enter Tryd.func56, Tryd.ntmps56
  go_wp2_with (first | (go_at_call 54; refine (form_exact _ _ _ _ _ _).mono ?_; rintro e w' ⟨rfl, rfl⟩) | (go_at_call 74; refine (on_exact _ _ _ _ _ _).mono ?_; rintro e w' ⟨rfl, rfl⟩) | (go_at_call 75; refine (stack_three _).mono ?_; rintro e w' ⟨rfl, rfl⟩))
  generalize hwx : ((w.alloc (.cells #[.int .i64 0, .int .i64 0, .int .i64 0, .int .i64 0, .int .i64 0, .int .i64 0] 46)).alloc (.cells #[.int .i64 5, .int .i64 0, .int .i64 0, .int .i64 1, .int .i64 1, .int .i64 1] 46)).alloc (.cells #[.int .i64 5, .int .i64 0, .int .i64 0, .int .i64 1, .int .i64 1, .int .i64 1] 46) = wx
  have hb0 : Below w.heap.size w wx := by rw [← hwx]; exact (((Below.refl _ _).alloc (Nat.le_refl _) _).alloc (by simp) _).alloc (by simp; omega) _
  have hs0 : w.heap.size + 1 + 1 < wx.heap.size := by rw [← hwx]; simp <;> omega
  have hs1 : w.heap.size < wx.heap.size := by rw [← hwx]; simp <;> omega
  have f0 : wx.cell? ⟨w.heap.size + 1 + 1, 0, none⟩ = some (.int .i64 5) := by rw [← hwx]; rw [World.cell?_alloc_at _ _ _ _ (by simp)]; rfl
  have f1 : wx.cell? ⟨w.heap.size + 1 + 1, 1, none⟩ = some (.int .i64 0) := by rw [← hwx]; rw [World.cell?_alloc_at _ _ _ _ (by simp)]; rfl
  have f2 : wx.cell? ⟨w.heap.size + 1 + 1, 2, none⟩ = some (.int .i64 0) := by rw [← hwx]; rw [World.cell?_alloc_at _ _ _ _ (by simp)]; rfl
  have f3 : wx.cell? ⟨w.heap.size + 1 + 1, 3, none⟩ = some (.int .i64 1) := by rw [← hwx]; rw [World.cell?_alloc_at _ _ _ _ (by simp)]; rfl
  have f4 : wx.cell? ⟨w.heap.size + 1 + 1, 4, none⟩ = some (.int .i64 1) := by rw [← hwx]; rw [World.cell?_alloc_at _ _ _ _ (by simp)]; rfl
  have f5 : wx.cell? ⟨w.heap.size + 1 + 1, 5, none⟩ = some (.int .i64 1) := by rw [← hwx]; rw [World.cell?_alloc_at _ _ _ _ (by simp)]; rfl
  have f6 : wx.cell? ⟨w.heap.size, 0, none⟩ = some (.int .i64 0) := by rw [← hwx]; rw [World.cell?_alloc_past _ _ _ (by simp <;> omega), World.cell?_alloc_past _ _ _ (by simp <;> omega), World.cell?_alloc_at _ _ _ _ (by simp <;> omega)]; rfl
  have f7 : wx.cell? ⟨w.heap.size, 1, none⟩ = some (.int .i64 0) := by rw [← hwx]; rw [World.cell?_alloc_past _ _ _ (by simp <;> omega), World.cell?_alloc_past _ _ _ (by simp <;> omega), World.cell?_alloc_at _ _ _ _ (by simp <;> omega)]; rfl
  have f8 : wx.cell? ⟨w.heap.size, 2, none⟩ = some (.int .i64 0) := by rw [← hwx]; rw [World.cell?_alloc_past _ _ _ (by simp <;> omega), World.cell?_alloc_past _ _ _ (by simp <;> omega), World.cell?_alloc_at _ _ _ _ (by simp <;> omega)]; rfl
  have f9 : wx.cell? ⟨w.heap.size, 3, none⟩ = some (.int .i64 0) := by rw [← hwx]; rw [World.cell?_alloc_past _ _ _ (by simp <;> omega), World.cell?_alloc_past _ _ _ (by simp <;> omega), World.cell?_alloc_at _ _ _ _ (by simp <;> omega)]; rfl
  have f10 : wx.cell? ⟨w.heap.size, 4, none⟩ = some (.int .i64 0) := by rw [← hwx]; rw [World.cell?_alloc_past _ _ _ (by simp <;> omega), World.cell?_alloc_past _ _ _ (by simp <;> omega), World.cell?_alloc_at _ _ _ _ (by simp <;> omega)]; rfl
  have f11 : wx.cell? ⟨w.heap.size, 5, none⟩ = some (.int .i64 0) := by rw [← hwx]; rw [World.cell?_alloc_past _ _ _ (by simp <;> omega), World.cell?_alloc_past _ _ _ (by simp <;> omega), World.cell?_alloc_at _ _ _ _ (by simp <;> omega)]; rfl
  have f12 : wx.frozen? ⟨w.heap.size, 0, none⟩ = false := by rw [← hwx]; rw [World.frozen?_alloc_past _ _ _ (by simp <;> omega), World.frozen?_alloc_past _ _ _ (by simp <;> omega), World.frozen?_alloc_at _ _ _ _ (by simp <;> omega)]
  have f13 : wx.frozen? ⟨w.heap.size, 1, none⟩ = false := by rw [← hwx]; rw [World.frozen?_alloc_past _ _ _ (by simp <;> omega), World.frozen?_alloc_past _ _ _ (by simp <;> omega), World.frozen?_alloc_at _ _ _ _ (by simp <;> omega)]
  have f14 : wx.frozen? ⟨w.heap.size, 2, none⟩ = false := by rw [← hwx]; rw [World.frozen?_alloc_past _ _ _ (by simp <;> omega), World.frozen?_alloc_past _ _ _ (by simp <;> omega), World.frozen?_alloc_at _ _ _ _ (by simp <;> omega)]
  have f15 : wx.frozen? ⟨w.heap.size, 3, none⟩ = false := by rw [← hwx]; rw [World.frozen?_alloc_past _ _ _ (by simp <;> omega), World.frozen?_alloc_past _ _ _ (by simp <;> omega), World.frozen?_alloc_at _ _ _ _ (by simp <;> omega)]
  have f16 : wx.frozen? ⟨w.heap.size, 4, none⟩ = false := by rw [← hwx]; rw [World.frozen?_alloc_past _ _ _ (by simp <;> omega), World.frozen?_alloc_past _ _ _ (by simp <;> omega), World.frozen?_alloc_at _ _ _ _ (by simp <;> omega)]
  have f17 : wx.frozen? ⟨w.heap.size, 5, none⟩ = false := by rw [← hwx]; rw [World.frozen?_alloc_past _ _ _ (by simp <;> omega), World.frozen?_alloc_past _ _ _ (by simp <;> omega), World.frozen?_alloc_at _ _ _ _ (by simp <;> omega)]
  clear hwx
  obtain ⟨nb, hnb⟩ : ∃ nb, nb = w.heap.size + 1 + 1 := ⟨_, rfl⟩
  rw [← hnb] at hs0 f0 f1 f2 f3 f4 f5 ⊢
  have hne : nb ≠ w.heap.size := by omega
  have hne2 : w.heap.size ≠ nb := by omega
  clear hnb
  have hd3 : ∀ (W : World) (o : Obj) (j : Nat), w.heap.size < W.heap.size → (W.alloc o).frozen? ⟨w.heap.size, j, none⟩ = W.frozen? ⟨w.heap.size, j, none⟩ := fun W o j h => ((Below.refl W.heap.size W).alloc (Nat.le_refl _) o).frozen (p := ⟨w.heap.size, j, none⟩) h
  have hd4 : ∀ (W : World) (o : Obj) (j : Nat), w.heap.size < W.heap.size → (W.alloc o).drew.frozen? ⟨w.heap.size, j, none⟩ = W.frozen? ⟨w.heap.size, j, none⟩ := hd3
  have hd5 : ∀ (W : World) (o : Obj), nb < W.heap.size → nb < (W.alloc o).heap.size := fun W o h => by simp; omega
  have hd6 : ∀ (W : World) (o : Obj), nb < W.heap.size → nb < (W.alloc o).drew.heap.size := hd5
  have hd7 : ∀ (W : World) (o : Obj), w.heap.size < W.heap.size → w.heap.size < (W.alloc o).heap.size := fun W o h => by simp; omega
  have hd8 : ∀ (W : World) (o : Obj), w.heap.size < W.heap.size → w.heap.size < (W.alloc o).drew.heap.size := hd7
  have he1 : ∀ n, nb < n → nb < n + 1 := fun n h => by omega
  have hf1 : ∀ n, w.heap.size < n → w.heap.size < n + 1 := fun n h => by omega
  have he2 : ∀ n, nb < n → nb < n + 2 := fun n h => by omega
  have hf2 : ∀ n, w.heap.size < n → w.heap.size < n + 2 := fun n h => by omega
  have he3 : ∀ n, nb < n → nb < n + 3 := fun n h => by omega
  have hf3 : ∀ n, w.heap.size < n → w.heap.size < n + 3 := fun n h => by omega
  have he4 : ∀ n, nb < n → nb < n + 4 := fun n h => by omega
  have hf4 : ∀ n, w.heap.size < n → w.heap.size < n + 4 := fun n h => by omega
  have he5 : ∀ n, nb < n → nb < n + 5 := fun n h => by omega
  have hf5 : ∀ n, w.heap.size < n → w.heap.size < n + 5 := fun n h => by omega
  have he6 : ∀ n, nb < n → nb < n + 6 := fun n h => by omega
  have hf6 : ∀ n, w.heap.size < n → w.heap.size < n + 6 := fun n h => by omega
  have hg1 : ∀ (W : World) (o : Obj) (j : Nat), nb < W.heap.size → (W.alloc o).cell? ⟨nb, j, none⟩ = W.cell? ⟨nb, j, none⟩ := fun W o j h => World.cell?_alloc_past _ _ _ (by omega)
  have hg2 : ∀ (W : World) (o : Obj) (j : Nat), w.heap.size < W.heap.size → (W.alloc o).cell? ⟨w.heap.size, j, none⟩ = W.cell? ⟨w.heap.size, j, none⟩ := fun W o j h => World.cell?_alloc_past _ _ _ (by omega)
  go_region_held3 (fun w' => w'.cell? ⟨nb, 0, none⟩ = some (.int .i64 5) ∧ w'.cell? ⟨nb, 1, none⟩ = some (.int .i64 0) ∧ w'.cell? ⟨nb, 2, none⟩ = some (.int .i64 0) ∧ w'.cell? ⟨nb, 3, none⟩ = some (.int .i64 1) ∧ w'.cell? ⟨nb, 4, none⟩ = some (.int .i64 1) ∧ w'.cell? ⟨nb, 5, none⟩ = some (.int .i64 1) ∧ w'.frozen? ⟨w.heap.size, 0, none⟩ = false ∧ w'.frozen? ⟨w.heap.size, 1, none⟩ = false ∧ w'.frozen? ⟨w.heap.size, 2, none⟩ = false ∧ w'.frozen? ⟨w.heap.size, 3, none⟩ = false ∧ w'.frozen? ⟨w.heap.size, 4, none⟩ = false ∧ w'.frozen? ⟨w.heap.size, 5, none⟩ = false ∧ nb < w'.heap.size ∧ w.heap.size < w'.heap.size) (go_keep) ((go_at_call 54; refine (form_exact _ _ _ _ _ _).mono ?_; rintro e w' ⟨rfl, rfl⟩))
  go_wp2
  (try simp only [Exit.inBlock, Exit.then])
  refine bodyPost_ret (v := .agg #[.int .i64 4, .int .i64 0, .int .i64 0, .int .i64 1, .int .i64 1, .int .i64 1]) (by simp [results, Tryd.results56, go_sem, hg2, hs1, hf1, hf2, hf3, hf4, hf5, hf6, f6, f7, f8, f9, f10, f11]) rfl ?_
  refine ⟨rfl, ?_⟩
  repeat (first | with_reducible exact hb0 | with_reducible refine below_drew ?_ | with_reducible refine below_alloc ?_ _ | with_reducible refine Below.setCell (p := ⟨w.heap.size, _, none⟩) ?_ (by exact Nat.le_refl _) _)
end Go.Proofs.YtpjbfpheenamiaaDoor.PF
