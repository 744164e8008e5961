/- The plain law of slices' stable sort: what it leaves is sorted, and equals keep their order; two such lists are one. Condition: the comparison is a weak order. -/
import Derived.Test.YtgffjhbmggmcoaaGSortD
namespace Go.Proofs.Ytgffjhbmggmcoaa.SortD
open Go.Sort
variable {α : Type} [Inhabited α]

structure WO (lt : α → α → Bool) : Prop where
  asy : ∀ x y, lt x y = true → lt y x = false
  tr : ∀ x y z, lt y x = false → lt z y = false → lt z x = false
def eqv (lt : α → α → Bool) (p x : α) : Bool := !lt p x && !lt x p
def Srt (lt : α → α → Bool) (l : List α) : Prop := l.Pairwise fun x y => lt y x = false
def Stab (lt : α → α → Bool) (l m : List α) : Prop := ∀ p, l.filter (eqv lt p) = m.filter (eqv lt p)

section
variable {lt : α → α → Bool}
omit [Inhabited α] in
theorem WO.irr (h : WO lt) (x : α) : lt x x = false := by
  cases hx : lt x x with
  | false => rfl
  | true => have := h.asy x x hx; rw [hx] at this; exact this
omit [Inhabited α] in
theorem WO.lt_le (h : WO lt) {x y z : α} (h1 : lt x y = true) (h2 : lt z y = false) : lt x z = true := by
  cases hx : lt x z with
  | true => rfl
  | false => have := h.tr y z x h2 hx; rw [h1] at this; cases this
omit [Inhabited α] in
theorem WO.le_lt (h : WO lt) {x y z : α} (h1 : lt y x = false) (h2 : lt y z = true) : lt x z = true := by
  cases hx : lt x z with
  | true => rfl
  | false => have := h.tr z x y hx h1; rw [h2] at this; cases this
omit [Inhabited α] in
theorem eqv_self (h : WO lt) (x : α) : eqv lt x x = true := by simp [eqv, h.irr]
omit [Inhabited α] in
theorem Stab.refl (l : List α) : Stab lt l l := fun _ => rfl
omit [Inhabited α] in
theorem Stab.trans {l m n : List α} (h : Stab lt l m) (h' : Stab lt m n) : Stab lt l n := fun p => (h p).trans (h' p)
omit [Inhabited α] in
theorem Stab.symm {l m : List α} (h : Stab lt l m) : Stab lt m l := fun p => (h p).symm
omit [Inhabited α] in
theorem Stab.app {l l' m m' : List α} (h : Stab lt l l') (h' : Stab lt m m') : Stab lt (l ++ m) (l' ++ m') := fun p => by rw [List.filter_append, List.filter_append, h p, h' p]
omit [Inhabited α] in
theorem Stab.mem (hw : WO lt) {l m : List α} (h : Stab lt l m) {x : α} (hx : x ∈ l) : x ∈ m := by
  have h1 : x ∈ l.filter (eqv lt x) := List.mem_filter.2 ⟨hx, eqv_self hw x⟩
  rw [h x] at h1
  exact (List.mem_filter.1 h1).1
omit [Inhabited α] in
/-- Two blocks change places, all of the one being less than all of the other. -/
theorem Stab.swap (hw : WO lt) (u v : List α) (h : ∀ x ∈ u, ∀ y ∈ v, lt y x = true) : Stab lt (u ++ v) (v ++ u) := by
  intro p
  rw [List.filter_append, List.filter_append]
  by_cases hu : u.filter (eqv lt p) = []
  · rw [hu]; simp
  · by_cases hv : v.filter (eqv lt p) = []
    · rw [hv]; simp
    · exfalso
      obtain ⟨x, hx⟩ := List.exists_mem_of_ne_nil _ hu
      obtain ⟨y, hy⟩ := List.exists_mem_of_ne_nil _ hv
      obtain ⟨hx1, hx2⟩ := List.mem_filter.1 hx
      obtain ⟨hy1, hy2⟩ := List.mem_filter.1 hy
      simp only [eqv, Bool.and_eq_true, Bool.not_eq_true'] at hx2 hy2
      have h1 := h x hx1 y hy1
      have h2 := hw.tr x p y hx2.1 hy2.2
      rw [h1] at h2
      cases h2
omit [Inhabited α] in
/-- Sorted, with equals in one order: one list. -/
theorem srt_unique (hw : WO lt) : ∀ (l m : List α), Srt lt l → Srt lt m → Stab lt l m → l = m
  | [], [], _, _, _ => rfl
  | [], y :: m, _, _, h => by have := h.symm.mem hw (x := y) (by simp); cases this
  | x :: l, [], _, _, h => by have := h.mem hw (x := x) (by simp); cases this
  | x :: l, y :: m, hl, hm, h => by
    have hl2 := List.pairwise_cons.1 hl
    have hm2 := List.pairwise_cons.1 hm
    have hxm : lt x y = false := by
      rcases List.mem_cons.1 (h.mem hw (x := x) (by simp)) with e | e
      · rw [e]; exact hw.irr y
      · exact hm2.1 x e
    have hyl : lt y x = false := by
      rcases List.mem_cons.1 (h.symm.mem hw (x := y) (by simp)) with e | e
      · rw [e]; exact hw.irr x
      · exact hl2.1 y e
    have hp := h x
    rw [List.filter_cons_of_pos (eqv_self hw x), List.filter_cons_of_pos (by simp [eqv, hxm, hyl])] at hp
    injection hp with e1 _
    subst e1
    have : l = m := srt_unique hw l m hl2.2 hm2.2 (fun p => by
      have := h p
      by_cases hpx : eqv lt p x = true
      · rw [List.filter_cons_of_pos hpx, List.filter_cons_of_pos hpx] at this
        injection this
      · rw [List.filter_cons_of_neg hpx, List.filter_cons_of_neg hpx] at this
        exact this)
    rw [this]
omit [Inhabited α] in
theorem srt_app {l m : List α} : Srt lt (l ++ m) ↔ Srt lt l ∧ Srt lt m ∧ ∀ x ∈ l, ∀ y ∈ m, lt y x = false := List.pairwise_append
end

/-! ### exchanges, on lists -/
theorem get_app (p : List α) (x : α) (s : List α) (k : Nat) (hk : k = p.length) : ((p ++ x :: s).toArray)[k]! = x := by
  subst hk
  rw [getElem!_pos _ _ (by simp)]
  simp
theorem swp_app (p : List α) (x : α) (q : List α) (y : α) (s : List α) (i j : Nat) (hi : i = p.length) (hj : j = p.length + 1 + q.length) :
    swp ((p ++ x :: q ++ y :: s).toArray) i j = (p ++ y :: q ++ x :: s).toArray := by
  have h1 : ((p ++ x :: q ++ y :: s).toArray)[i]! = x := by
    rw [show p ++ x :: q ++ y :: s = p ++ x :: (q ++ y :: s) by simp]
    exact get_app _ _ _ _ hi
  have h2 : ((p ++ x :: q ++ y :: s).toArray)[j]! = y := get_app _ _ _ _ (by simp; omega)
  unfold swp
  rw [h1, h2]
  subst hi hj
  simp only [List.setIfInBounds_toArray]
  congr 1
  rw [show p ++ x :: q ++ y :: s = p ++ (x :: (q ++ y :: s)) by simp, List.set_append_right _ _ (Nat.le_refl _), Nat.sub_self, List.set_cons_zero, List.set_append_right _ _ (by omega)]
  rw [show p.length + 1 + q.length - p.length = q.length + 1 by omega, List.set_cons_succ, List.set_append_right _ _ (Nat.le_refl _), Nat.sub_self, List.set_cons_zero]
  simp
theorem swapFrom_app : ∀ (n i a b : Nat) (p u q v s : List α), p.length = a + i → u.length = n → v.length = n → b + i = p.length + n + q.length →
    swapFrom ((p ++ u ++ q ++ v ++ s).toArray) a b i n = (p ++ v ++ q ++ u ++ s).toArray
  | 0, i, a, b, p, u, q, v, s, _, hu, hv, _ => by
    obtain rfl := List.eq_nil_of_length_eq_zero hu
    obtain rfl := List.eq_nil_of_length_eq_zero hv
    rfl
  | n + 1, i, a, b, p, u, q, v, s, hp, hu, hv, hb => by
    obtain ⟨x, u, rfl⟩ : ∃ x u', u = x :: u' := by cases u with | nil => simp at hu | cons x u => exact ⟨x, u, rfl⟩
    obtain ⟨y, v, rfl⟩ : ∃ y v', v = y :: v' := by cases v with | nil => simp at hv | cons x u => exact ⟨x, u, rfl⟩
    simp only [List.length_cons, Nat.add_right_cancel_iff] at hu hv
    rw [swapFrom]
    have h1 : p ++ x :: u ++ q ++ y :: v ++ s = p ++ x :: (u ++ q) ++ y :: (v ++ s) := by simp
    rw [h1, swp_app p x (u ++ q) y (v ++ s) _ _ hp.symm (by simp; omega)]
    have h2 : p ++ y :: (u ++ q) ++ x :: (v ++ s) = (p ++ [y]) ++ u ++ (q ++ [x]) ++ v ++ s := by simp
    rw [h2, swapFrom_app n (i + 1) a b (p ++ [y]) u (q ++ [x]) v s (by simp; omega) hu hv (by simp; omega)]
    simp
theorem swapRange_app (a b n : Nat) (p u q v s : List α) (hp : p.length = a) (hu : u.length = n) (hv : v.length = n) (hb : b = a + n + q.length) :
    swapRange ((p ++ u ++ q ++ v ++ s).toArray) a b n = (p ++ v ++ q ++ u ++ s).toArray := swapFrom_app n 0 a b p u q v s hp hu hv (by omega)
theorem rotGo_app : ∀ (k m i j : Nat) (p u v s : List α), 0 < i → 0 < j → i + j ≤ k → p.length + i = m → u.length = i → v.length = j →
    rotGo ((p ++ u ++ v ++ s).toArray) m i j k = (p ++ v ++ u ++ s).toArray
  | 0, m, i, j, p, u, v, s, hi, hj, hk, _, _, _ => by omega
  | k + 1, m, i, j, p, u, v, s, hi, hj, hk, hp, hu, hv => by
    rw [rotGo]
    by_cases hij : i = j
    · rw [if_pos hij]
      have := swapRange_app (m - i) m i p u [] v s (by omega) hu (by omega) (by simp; omega)
      simpa using this
    · rw [if_neg hij]
      by_cases hji : j < i
      · rw [if_pos hji]
        obtain ⟨u1, u2, rfl, hu1⟩ : ∃ u1 u2, u = u1 ++ u2 ∧ u1.length = j := ⟨u.take j, u.drop j, by simp, by rw [List.length_take]; omega⟩
        have hu2 : u2.length = i - j := by simp at hu; omega
        have h1 := swapRange_app (m - i) m j p u1 u2 v s (by omega) hu1 hv (by omega)
        rw [show p ++ (u1 ++ u2) ++ v ++ s = p ++ u1 ++ u2 ++ v ++ s by simp, h1]
        have h2 := rotGo_app k m (i - j) j (p ++ v) u2 u1 s (by omega) hj (by omega) (by simp; omega) hu2 hu1
        rw [show p ++ v ++ u2 ++ u1 ++ s = (p ++ v) ++ u2 ++ u1 ++ s by simp, h2]
        simp
      · rw [if_neg hji]
        obtain ⟨v1, v2, rfl, hv1⟩ : ∃ v1 v2, v = v1 ++ v2 ∧ v1.length = j - i := ⟨v.take (j - i), v.drop (j - i), by simp, by rw [List.length_take]; omega⟩
        have hv2 : v2.length = i := by simp at hv; omega
        have h1 := swapRange_app (m - i) (m + j - i) i p u v1 v2 s (by omega) hu hv2 (by omega)
        rw [show p ++ u ++ (v1 ++ v2) ++ s = p ++ u ++ v1 ++ v2 ++ s by simp, h1]
        have h2 := rotGo_app k m i (j - i) p v2 v1 (u ++ s) hi (by omega) (by omega) hp hv2 hv1
        rw [show p ++ v2 ++ v1 ++ u ++ s = p ++ v2 ++ v1 ++ (u ++ s) by simp, h2]
        simp
theorem rotate_app (a m b : Nat) (p u v s : List α) (hu0 : 0 < u.length) (hv0 : 0 < v.length) (hp : p.length = a) (hu : p.length + u.length = m) (hv : m + v.length = b) :
    rotate ((p ++ u ++ v ++ s).toArray) a m b = (p ++ v ++ u ++ s).toArray := by
  unfold rotate
  exact rotGo_app _ m (m - a) (b - m) p u v s (by omega) (by omega) (by omega) (by omega) (by omega) (by omega)
theorem moveUp_app : ∀ (n k : Nat) (p : List α) (x : α) (q s : List α), p.length = k → q.length = n → moveUp ((p ++ x :: q ++ s).toArray) k n = (p ++ q ++ x :: s).toArray
  | 0, k, p, x, q, s, _, hq => by
    obtain rfl := List.eq_nil_of_length_eq_zero hq
    rw [moveUp]; simp
  | n + 1, k, p, x, q, s, hp, hq => by
    obtain ⟨y, q, rfl⟩ : ∃ y q', q = y :: q' := by cases q with | nil => simp at hq | cons x u => exact ⟨x, u, rfl⟩
    simp only [List.length_cons, Nat.add_right_cancel_iff] at hq
    rw [moveUp, show p ++ x :: y :: q ++ s = p ++ x :: [] ++ y :: (q ++ s) by simp, swp_app p x [] y (q ++ s) _ _ hp.symm (by simp; omega)]
    have := moveUp_app n (k + 1) (p ++ [y]) x q s (by simp; omega) hq
    rw [show p ++ y :: [] ++ x :: (q ++ s) = p ++ [y] ++ x :: q ++ s by simp, this]
    simp
theorem moveDown_app : ∀ (n k : Nat) (p q : List α) (x : α) (s : List α), p.length + n = k → q.length = n → moveDown ((p ++ q ++ x :: s).toArray) k n = (p ++ x :: q ++ s).toArray
  | 0, k, p, q, x, s, _, hq => by
    obtain rfl := List.eq_nil_of_length_eq_zero hq
    rw [moveDown]; simp
  | n + 1, k, p, q, x, s, hp, hq => by
    obtain ⟨q, y, rfl⟩ : ∃ q' y, q = q' ++ [y] := by
      rcases List.eq_nil_or_concat q with h | ⟨q', y, h⟩
      · subst h; simp at hq
      · exact ⟨q', y, by simpa using h⟩
    simp only [List.length_append, List.length_cons, List.length_nil, Nat.zero_add, Nat.add_right_cancel_iff] at hq
    have hsw : swp ((p ++ (q ++ [y]) ++ x :: s).toArray) k (k - 1) = ((p ++ q) ++ x :: y :: s).toArray := by
      have h := swp_app (p ++ q) y [] x s (k - 1) k (by simp; omega) (by simp; omega)
      have hc : ∀ (d : Array α) (i j : Nat), swp d i j = swp d j i := fun d i j => by
        unfold swp
        by_cases e : i = j
        · rw [e]
        · exact Array.setIfInBounds_comm _ _ e
      rw [hc, show p ++ (q ++ [y]) ++ x :: s = p ++ q ++ y :: [] ++ x :: s by simp, h]
      simp
    rw [moveDown, hsw]
    have := moveDown_app n (k - 1) p q x (y :: s) (by omega) hq
    rw [this]
    simp
end Go.Proofs.Ytgffjhbmggmcoaa.SortD
