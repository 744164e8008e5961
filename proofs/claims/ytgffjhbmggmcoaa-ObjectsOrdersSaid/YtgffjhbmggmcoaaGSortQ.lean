/- The plain law of slices' stable sort, second half: the whole is sorted, and equals keep their order. Condition: the comparison is a weak order. -/
import Derived.Test.YtgffjhbmggmcoaaGSortP
namespace Go.Proofs.Ytgffjhbmggmcoaa.SortD
open Go.Sort
variable {α : Type} [Inhabited α] {lt : α → α → Bool}

theorem bs_spec (p : Nat → Bool) : ∀ (k i j : Nat), i ≤ j → j - i ≤ k → (∀ c c', i ≤ c → c ≤ c' → c' < j → p c' = true → p c = true) →
    (∀ c, i ≤ c → c < bs p k i j → p c = true) ∧ (∀ c, bs p k i j ≤ c → c < j → p c = false)
  | 0, i, j, hij, hk, _ => ⟨fun c h1 h2 => by rw [bs] at h2; omega, fun c h1 h2 => by rw [bs] at h1; omega⟩
  | k + 1, i, j, hij, hk, hm => by
    rw [bs]
    by_cases hlt : i < j
    · rw [if_pos hlt]
      by_cases hp : p ((i + j) / 2) = true
      · rw [if_pos hp]
        have ih := bs_spec p k ((i + j) / 2 + 1) j (by omega) (by omega) (fun c c' h1 h2 h3 h4 => hm c c' (by omega) h2 h3 h4)
        refine ⟨fun c h1 h2 => ?_, ih.2⟩
        by_cases hc : c ≤ (i + j) / 2
        · exact hm c _ h1 hc (by omega) hp
        · exact ih.1 c (by omega) h2
      · rw [if_neg hp]
        have ih := bs_spec p k i ((i + j) / 2) (by omega) (by omega) (fun c c' h1 h2 h3 h4 => hm c c' h1 h2 (by omega) h4)
        refine ⟨ih.1, fun c h1 h2 => ?_⟩
        by_cases hc : c < (i + j) / 2
        · exact ih.2 c h1 hc
        · cases hpc : p c with
          | false => rfl
          | true => exact absurd (hm ((i + j) / 2) c (by omega) (by omega) h2 hpc) hp
    · rw [if_neg hlt]
      exact ⟨fun c h1 h2 => by omega, fun c h1 h2 => by omega⟩

/-- The inner loop of the insertion sort. -/
theorem insInner_app (a : Nat) (p : List α) (hp : p.length = a) (x : α) : ∀ (n : Nat) (t s : List α), t.length = n → ∃ t1 t2, t = t1 ++ t2 ∧ insInner lt a (a + n) ((p ++ t ++ x :: s).toArray) = (p ++ t1 ++ x :: t2 ++ s).toArray ∧
      (∀ y ∈ t2, lt x y = true) ∧ (∀ y, t1.getLast? = some y → lt x y = false)
  | 0, t, s, hn => by
    obtain rfl := List.eq_nil_of_length_eq_zero hn
    refine ⟨[], [], rfl, ?_, by simp, by simp⟩
    have h : insInner lt a (a + 0) ((p ++ [] ++ x :: s).toArray) = (p ++ [] ++ x :: s).toArray := by
      cases a with
      | zero => rw [Nat.zero_add, insInner]
      | succ a => rw [Nat.add_zero, insInner]; simp
    rw [h]
    simp
  | n + 1, t, s, hn => by
    obtain ⟨t, y, rfl⟩ : ∃ t' y, t = t' ++ [y] := by
      rcases List.eq_nil_or_concat t with h | ⟨q', y, h⟩
      · subst h; simp at hn
      · exact ⟨q', y, by simpa using h⟩
    simp only [List.length_append, List.length_cons, List.length_nil, Nat.zero_add, Nat.add_right_cancel_iff] at hn
    have h1 : ((p ++ (t ++ [y]) ++ x :: s).toArray)[a + n + 1]! = x := get_app _ _ _ _ (by simp; omega)
    have h2 : ((p ++ (t ++ [y]) ++ x :: s).toArray)[a + n]! = y := by
      rw [show p ++ (t ++ [y]) ++ x :: s = (p ++ t) ++ y :: (x :: s) by simp]
      exact get_app _ _ _ _ (by simp; omega)
    have e : a + (n + 1) = (a + n) + 1 := by omega
    rw [e, insInner, h1, h2]
    by_cases hl : lt x y = true
    · rw [if_pos (by simp [hl]; omega)]
      have hsw : swp ((p ++ (t ++ [y]) ++ x :: s).toArray) (a + n + 1) (a + n) = ((p ++ t) ++ x :: y :: s).toArray := by
        have h := swp_app (p ++ t) y [] x s (a + n) (a + n + 1) (by simp; omega) (by simp; omega)
        have hc : ∀ (d : Array α) (i j : Nat), swp d i j = swp d j i := fun d i j => by
          unfold swp
          by_cases e : i = j
          · rw [e]
          · exact Array.setIfInBounds_comm _ _ e
        rw [hc, show p ++ (t ++ [y]) ++ x :: s = p ++ t ++ y :: [] ++ x :: s by simp, h]
        simp
      rw [hsw]
      obtain ⟨t1, t2, ht, he, h3, h4⟩ := insInner_app a p hp x n t (y :: s) hn
      refine ⟨t1, t2 ++ [y], by rw [ht]; simp, by rw [he]; simp, fun z hz => ?_, h4⟩
      rcases List.mem_append.1 hz with h | h
      · exact h3 z h
      · rw [List.mem_singleton.1 h]; exact hl
    · have hl2 : lt x y = false := by simpa using hl
      rw [if_neg (by simp [hl2])]
      exact ⟨t ++ [y], [], by simp, by simp, by simp, fun z hz => by
        rw [List.getLast?_append] at hz
        simp at hz
        rw [← hz]; exact hl2⟩

omit [Inhabited α] in
theorem last_le (hw : WO lt) {l : List α} (hl : Srt lt l) {y : α} (hy : l.getLast? = some y) : ∀ z ∈ l, lt y z = false := by
  rcases List.eq_nil_or_concat l with h | ⟨l', y', h⟩
  · subst h; simp at hy
  · have h' : l = l' ++ [y'] := by simpa using h
    subst h'
    rw [List.getLast?_append] at hy
    simp at hy
    subst hy
    intro z hz
    rcases List.mem_append.1 hz with h | h
    · exact (srt_app.1 hl).2.2 z h y' (by simp)
    · rw [List.mem_singleton.1 h]; exact hw.irr y'

theorem insOuter_app (hw : WO lt) (a b : Nat) (p : List α) (hp : p.length = a) : ∀ (n : Nat) (t r s : List α), r.length = n → a + t.length + r.length = b → Srt lt t →
    ∃ l', insOuter lt a b (a + t.length) ((p ++ t ++ r ++ s).toArray) = (p ++ l' ++ s).toArray ∧ Srt lt l' ∧ Stab lt (t ++ r) l' ∧ l'.length = t.length + r.length
  | 0, t, r, s, hr, hb, ht => by
    obtain rfl := List.eq_nil_of_length_eq_zero hr
    refine ⟨t, ?_, ht, by simp [Stab], rfl⟩
    rw [insOuter, if_neg (by simp at hb; omega)]
    simp
  | n + 1, t, r, s, hr, hb, ht => by
    obtain ⟨x, r, rfl⟩ : ∃ x r', r = x :: r' := by cases r with | nil => simp at hr | cons x u => exact ⟨x, u, rfl⟩
    simp only [List.length_cons, Nat.add_right_cancel_iff] at hr
    rw [insOuter, if_pos (by simp at hb; omega), show p ++ t ++ x :: r ++ s = p ++ t ++ x :: (r ++ s) by simp]
    obtain ⟨t1, t2, rfl, he, h3, h4⟩ := insInner_app (lt := lt) a p hp x t.length t (r ++ s) rfl
    rw [he]
    have hs := srt_app.1 ht
    have hle1 : ∀ z ∈ t1, lt x z = false := fun z hz => by
      cases hg : t1.getLast? with
      | none => rw [List.getLast?_eq_none_iff] at hg; rw [hg] at hz; cases hz
      | some y => exact hw.tr z y x (last_le hw hs.1 hg z hz) (h4 y hg)
    have hsrt : Srt lt (t1 ++ x :: t2) := srt_app.2 ⟨hs.1, List.pairwise_cons.2 ⟨fun y hy => hw.asy _ _ (h3 y hy), hs.2.1⟩, fun z hz y hy => by
      rcases List.mem_cons.1 hy with e | e
      · rw [e]; exact hle1 z hz
      · exact hs.2.2 z hz y e⟩
    have hlen : a + (t1 ++ t2).length + 1 = a + (t1 ++ x :: t2).length := by simp; omega
    have ih := insOuter_app hw a b p hp n (t1 ++ x :: t2) r s hr (by simp at hb ⊢; omega) hsrt
    rw [hlen, show p ++ t1 ++ x :: t2 ++ (r ++ s) = p ++ (t1 ++ x :: t2) ++ r ++ s by simp]
    obtain ⟨l', e, h5, h6, h7⟩ := ih
    refine ⟨l', e, h5, ?_, by rw [h7]; simp; omega⟩
    refine Stab.trans ?_ h6
    have h8 : Stab lt (t2 ++ [x]) ([x] ++ t2) := Stab.swap hw t2 [x] (fun y hy z hz => by rw [List.mem_singleton.1 hz]; exact h3 y hy)
    have h9 := Stab.app (Stab.app (Stab.refl (lt := lt) t1) h8) (Stab.refl r)
    simpa using h9
theorem insertionSort_app (hw : WO lt) (a b : Nat) (p l s : List α) (hp : p.length = a) (hl : a + l.length = b) :
    ∃ l', Sort.insertionSort lt ((p ++ l ++ s).toArray) a b = (p ++ l' ++ s).toArray ∧ Srt lt l' ∧ Stab lt l l' ∧ l'.length = l.length := by
  unfold Sort.insertionSort
  cases l with
  | nil =>
    refine ⟨[], ?_, List.Pairwise.nil, Stab.refl _, rfl⟩
    rw [insOuter, if_neg (by simp at hl; omega)]
  | cons x r =>
    have := insOuter_app hw a b p hp r.length [x] r s rfl (by simp at hl ⊢; omega) (List.pairwise_singleton _ _)
    obtain ⟨l', e, h1, h2, h3⟩ := this
    refine ⟨l', ?_, h1, h2, by rw [h3]; simp; omega⟩
    rw [← e]
    simp

/-! ### symMerge -/
theorem get_at (p l s : List α) (i : Nat) (x : α) (h : l[i]? = some x) (k : Nat) (hk : k = p.length + i) : ((p ++ l ++ s).toArray)[k]! = x := by
  subst hk
  obtain ⟨hi, hx⟩ := List.getElem?_eq_some_iff.1 h
  rw [getElem!_pos _ _ (by simp; omega)]
  simp only [List.getElem_toArray, List.append_assoc]
  rw [List.getElem_append_right (by omega), List.getElem_append_left (by omega)]
  simpa using hx
omit [Inhabited α] in
theorem srt_le {l : List α} (hl : Srt lt l) (hw : WO lt) {i j : Nat} {x y : α} (hx : l[i]? = some x) (hy : l[j]? = some y) (hij : i ≤ j) : lt y x = false := by
  rcases Nat.lt_or_eq_of_le hij with h | h
  · obtain ⟨hi, e1⟩ := List.getElem?_eq_some_iff.1 hx
    obtain ⟨hj, e2⟩ := List.getElem?_eq_some_iff.1 hy
    rw [← e1, ← e2]
    exact List.pairwise_iff_getElem.1 hl i j hi hj h
  · subst h
    rw [hx] at hy
    injection hy with e
    rw [e]; exact hw.irr y

def MergeSaid (lt : α → α → Bool) (f : Nat) : Prop := ∀ (a m b : Nat) (p l r s : List α), p.length = a → a + l.length = m → m + r.length = b → 0 < l.length → 0 < r.length → l.length + r.length ≤ f → Srt lt l → Srt lt r →
  ∃ l', symMerge lt f ((p ++ l ++ r ++ s).toArray) a m b = (p ++ l' ++ s).toArray ∧ Srt lt l' ∧ Stab lt (l ++ r) l' ∧ l'.length = l.length + r.length

theorem merge_one (hw : WO lt) (f a m b : Nat) (p r s : List α) (x : α) (hp : p.length = a) (hm : a + 1 = m) (hb : m + r.length = b) (hr : Srt lt r) :
    ∃ l', symMerge lt (f + 1) ((p ++ [x] ++ r ++ s).toArray) a m b = (p ++ l' ++ s).toArray ∧ Srt lt l' ∧ Stab lt ([x] ++ r) l' ∧ l'.length = 1 + r.length := by
  rw [symMerge, if_pos (by omega)]
  have hx : ((p ++ [x] ++ r ++ s).toArray)[a]! = x := by
    have := get_app p x (r ++ s) a hp.symm
    simpa using this
  have hget : ∀ h, m ≤ h → h < b → ∃ y, r[h - m]? = some y ∧ ((p ++ [x] ++ r ++ s).toArray)[h]! = y := fun h h1 h2 => by
    have h3 : h - m < r.length := by omega
    exact ⟨r[h - m], List.getElem?_eq_getElem h3, get_at (p ++ [x]) r s (h - m) _ (List.getElem?_eq_getElem h3) h (by simp; omega)⟩
  rw [hx]
  generalize hd : (p ++ [x] ++ r ++ s).toArray = d at hget
  have hrange := bs_range (fun h => lt d[h]! x) (b - m) m b (by omega)
  have hspec := bs_spec (fun h => lt d[h]! x) (b - m) m b (by omega) (Nat.le_refl _) (fun c c' h1 h2 h3 h4 => by
    obtain ⟨y, hy, e⟩ := hget c h1 (by omega)
    obtain ⟨y', hy', e'⟩ := hget c' (by omega) h3
    simp only [e, e'] at h4 ⊢
    exact hw.le_lt (srt_le hr hw hy hy' (by omega)) h4)
  generalize bs (fun h => lt d[h]! x) (b - m) m b = i at hrange hspec
  obtain ⟨r1, r2, rfl, hr1⟩ : ∃ r1 r2, r = r1 ++ r2 ∧ r1.length = i - m := ⟨r.take (i - m), r.drop (i - m), by simp, by rw [List.length_take]; omega⟩
  have hlt : ∀ y ∈ r1, lt y x = true := fun y hy => by
    obtain ⟨j, hj⟩ := List.mem_iff_getElem?.1 hy
    have hjl : j < r1.length := (List.getElem?_eq_some_iff.1 hj).1
    obtain ⟨y', hy', e⟩ := hget (m + j) (by omega) (by omega)
    rw [Nat.add_sub_cancel_left, List.getElem?_append_left hjl, hj] at hy'
    injection hy' with e2
    have := hspec.1 (m + j) (by omega) (by omega)
    simp only [e] at this
    rw [e2]; exact this
  have hge : ∀ y ∈ r2, lt y x = false := fun y hy => by
    obtain ⟨j, hj⟩ := List.mem_iff_getElem?.1 hy
    have hjl : j < r2.length := (List.getElem?_eq_some_iff.1 hj).1
    obtain ⟨y', hy', e⟩ := hget (i + j) (by omega) (by simp at hb; omega)
    rw [List.getElem?_append_right (by omega), show i + j - m - r1.length = j by omega, hj] at hy'
    injection hy' with e2
    have := hspec.2 (i + j) (by omega) (by simp at hb; omega)
    simp only [e] at this
    rw [e2]; exact this
  have hs := srt_app.1 hr
  refine ⟨r1 ++ x :: r2, ?_, srt_app.2 ⟨hs.1, List.pairwise_cons.2 ⟨hge, hs.2.1⟩, fun y hy z hz => ?_⟩, ?_, by simp; omega⟩
  · rw [← hd]
    have h := moveUp_app (i - 1 - a) a p x r1 (r2 ++ s) hp (by omega)
    rw [show p ++ [x] ++ (r1 ++ r2) ++ s = p ++ x :: r1 ++ (r2 ++ s) by simp, h]
    simp
  · rcases List.mem_cons.1 hz with e | e
    · rw [e]; exact hw.asy _ _ (hlt y hy)
    · exact hs.2.2 y hy z e
  · have h8 : Stab lt ([x] ++ r1) (r1 ++ [x]) := Stab.swap hw [x] r1 (fun y hy z hz => by rw [List.mem_singleton.1 hy]; exact hlt z hz)
    have := Stab.app h8 (Stab.refl (lt := lt) r2)
    simpa using this

theorem merge_two (hw : WO lt) (f a m b : Nat) (p l s : List α) (x : α) (hp : p.length = a) (hm : a + l.length = m) (hb : m + 1 = b) (hl : Srt lt l) (h1 : ¬ m - a = 1) :
    ∃ l', symMerge lt (f + 1) ((p ++ l ++ [x] ++ s).toArray) a m b = (p ++ l' ++ s).toArray ∧ Srt lt l' ∧ Stab lt (l ++ [x]) l' ∧ l'.length = l.length + 1 := by
  rw [symMerge, if_neg h1, if_pos (by omega)]
  have hx : ((p ++ l ++ [x] ++ s).toArray)[m]! = x := by
    have := get_app (p ++ l) x s m (by simp; omega)
    simpa using this
  have hget : ∀ h, a ≤ h → h < m → ∃ y, l[h - a]? = some y ∧ ((p ++ l ++ [x] ++ s).toArray)[h]! = y := fun h h1 h2 => by
    have h3 : h - a < l.length := by omega
    refine ⟨l[h - a], List.getElem?_eq_getElem h3, ?_⟩
    have := get_at p l ([x] ++ s) (h - a) _ (List.getElem?_eq_getElem h3) h (by omega)
    simpa using this
  rw [hx]
  generalize hd : (p ++ l ++ [x] ++ s).toArray = d at hget
  have hrange := bs_range (fun h => !lt x d[h]!) (m - a) a m (by omega)
  have hspec := bs_spec (fun h => !lt x d[h]!) (m - a) a m (by omega) (Nat.le_refl _) (fun c c' h1 h2 h3 h4 => by
    obtain ⟨y, hy, e⟩ := hget c h1 (by omega)
    obtain ⟨y', hy', e'⟩ := hget c' (by omega) h3
    simp only [e, e', Bool.not_eq_true'] at h4 ⊢
    exact hw.tr _ _ _ (srt_le hl hw hy hy' (by omega)) h4)
  generalize bs (fun h => !lt x d[h]!) (m - a) a m = i at hrange hspec
  obtain ⟨l1, l2, rfl, hl1⟩ : ∃ l1 l2, l = l1 ++ l2 ∧ l1.length = i - a := ⟨l.take (i - a), l.drop (i - a), by simp, by rw [List.length_take]; omega⟩
  have hle : ∀ y ∈ l1, lt x y = false := fun y hy => by
    obtain ⟨j, hj⟩ := List.mem_iff_getElem?.1 hy
    have hjl : j < l1.length := (List.getElem?_eq_some_iff.1 hj).1
    obtain ⟨y', hy', e⟩ := hget (a + j) (by omega) (by omega)
    rw [Nat.add_sub_cancel_left, List.getElem?_append_left hjl, hj] at hy'
    injection hy' with e2
    have := hspec.1 (a + j) (by omega) (by omega)
    simp only [e, Bool.not_eq_true'] at this
    rw [e2]; exact this
  have hgt : ∀ y ∈ l2, lt x y = true := fun y hy => by
    obtain ⟨j, hj⟩ := List.mem_iff_getElem?.1 hy
    have hjl : j < l2.length := (List.getElem?_eq_some_iff.1 hj).1
    obtain ⟨y', hy', e⟩ := hget (i + j) (by omega) (by simp at hm; omega)
    rw [List.getElem?_append_right (by omega), show i + j - a - l1.length = j by omega, hj] at hy'
    injection hy' with e2
    have := hspec.2 (i + j) (by omega) (by simp at hm; omega)
    simp only [e, Bool.not_eq_false'] at this
    rw [e2]; exact this
  have hs := srt_app.1 hl
  refine ⟨l1 ++ x :: l2, ?_, srt_app.2 ⟨hs.1, List.pairwise_cons.2 ⟨fun y hy => hw.asy _ _ (hgt y hy), hs.2.1⟩, fun y hy z hz => ?_⟩, ?_, by simp; omega⟩
  · rw [← hd]
    have h := moveDown_app (m - i) m (p ++ l1) l2 x s (by simp at hm ⊢; omega) (by simp at hm; omega)
    rw [show p ++ (l1 ++ l2) ++ [x] ++ s = p ++ l1 ++ l2 ++ x :: s by simp, h]
    simp
  · rcases List.mem_cons.1 hz with e | e
    · rw [e]; exact hle y hy
    · exact hs.2.2 y hy z e
  · have h8 : Stab lt (l2 ++ [x]) ([x] ++ l2) := Stab.swap hw l2 [x] (fun y hy z hz => by rw [List.mem_singleton.1 hz]; exact hgt y hy)
    have := Stab.app (Stab.refl (lt := lt) l1) h8
    simpa using this

theorem merge_all (hw : WO lt) : ∀ f, MergeSaid lt f
  | 0 => fun a m b p l r s _ _ _ h1 _ h3 _ _ => absurd h3 (by omega)
  | f + 1 => fun a m b p l r s hp hm hb hl0 hr0 hf hl hr => by
    have IH := merge_all hw f
    by_cases g1 : m - a = 1
    · obtain ⟨x, rfl⟩ : ∃ x, l = [x] := List.length_eq_one_iff.1 (by omega)
      exact merge_one hw f a m b p r s x hp (by omega) hb hr
    · by_cases g2 : b - m = 1
      · obtain ⟨x, rfl⟩ : ∃ x, r = [x] := List.length_eq_one_iff.1 (by omega)
        exact merge_two hw f a m b p l s x hp hm (by omega) hl g1
      · rw [symMerge, if_neg g1, if_neg g2]
        have hgl : ∀ h, a ≤ h → h < m → ∃ y, l[h - a]? = some y ∧ ((p ++ l ++ r ++ s).toArray)[h]! = y := fun h h1 h2 => by
          have h3 : h - a < l.length := by omega
          refine ⟨l[h - a], List.getElem?_eq_getElem h3, ?_⟩
          have := get_at p l (r ++ s) (h - a) _ (List.getElem?_eq_getElem h3) h (by omega)
          simpa using this
        have hgr : ∀ h, m ≤ h → h < b → ∃ y, r[h - m]? = some y ∧ ((p ++ l ++ r ++ s).toArray)[h]! = y := fun h h1 h2 => by
          have h3 : h - m < r.length := by omega
          exact ⟨r[h - m], List.getElem?_eq_getElem h3, get_at (p ++ l) r s (h - m) _ (List.getElem?_eq_getElem h3) h (by simp; omega)⟩
        obtain ⟨mid, hmid⟩ : ∃ mid, mid = (a + b) / 2 := ⟨_, rfl⟩
        obtain ⟨st, hst⟩ : ∃ st, st = startOf lt ((p ++ l ++ r ++ s).toArray) a m b := ⟨_, rfl⟩
        -- where the cut lies, and what it tells
        have hcut : (if mid < m then mid + m - b else a) ≤ st ∧ st ≤ (if mid < m then mid else m) ∧
            (∀ c, (if mid < m then mid + m - b else a) ≤ c → c < st → lt ((p ++ l ++ r ++ s).toArray)[mid + m - 1 - c]! ((p ++ l ++ r ++ s).toArray)[c]! = false) ∧
            (∀ c, st ≤ c → c < (if mid < m then mid else m) → lt ((p ++ l ++ r ++ s).toArray)[mid + m - 1 - c]! ((p ++ l ++ r ++ s).toArray)[c]! = true) := by
          obtain ⟨s0, hs0⟩ : ∃ s0, s0 = (if mid < m then mid + m - b else a) := ⟨_, rfl⟩
          obtain ⟨r0, hr00⟩ : ∃ r0, r0 = (if mid < m then mid else m) := ⟨_, rfl⟩
          have hb1 : a ≤ s0 ∧ s0 ≤ r0 ∧ r0 ≤ m ∧ r0 ≤ mid ∧ mid + m ≤ b + s0 := by
            rw [hs0, hr00]
            split <;> omega
          rw [← hs0, ← hr00]
          unfold startOf at hst
          simp only [← hmid, ← hs0, ← hr00] at hst
          generalize (p ++ l ++ r ++ s).toArray = d at hgl hgr hst ⊢
          have hrange := bs_range (fun c => !lt d[mid + m - 1 - c]! d[c]!) (b - a) s0 r0 hb1.2.1
          have hspec := bs_spec (fun c => !lt d[mid + m - 1 - c]! d[c]!) (b - a) s0 r0 hb1.2.1 (by omega) (fun c c' h1 h2 h3 h4 => by
            obtain ⟨y, hy, e⟩ := hgl c (by omega) (by omega)
            obtain ⟨y', hy', e'⟩ := hgl c' (by omega) (by omega)
            obtain ⟨z, hz, e2⟩ := hgr (mid + m - 1 - c) (by omega) (by omega)
            obtain ⟨z', hz', e2'⟩ := hgr (mid + m - 1 - c') (by omega) (by omega)
            simp only [e, e', e2, e2', Bool.not_eq_true'] at h4 ⊢
            exact hw.tr _ _ _ (srt_le hl hw hy hy' (by omega)) (hw.tr _ _ _ h4 (srt_le hr hw hz' hz (by omega))))
          rw [← hst] at hrange hspec
          refine ⟨hrange.1, hrange.2, fun c h1 h2 => ?_, fun c h1 h2 => ?_⟩
          · have := hspec.1 c h1 h2
            simpa using this
          · have := hspec.2 c h1 h2
            simpa using this
        simp only [← hst, ← hmid]
        clear hst
        obtain ⟨c1, c2, c3, c4⟩ := hcut
        have hb2 : a ≤ st ∧ st ≤ m ∧ st ≤ mid ∧ mid + m - st ≤ b ∧ m ≤ mid + m - st ∧ mid ≤ mid + m - st := by
          by_cases hc : mid < m
          · rw [if_pos hc] at c1 c2; omega
          · rw [if_neg hc] at c1 c2; omega
        obtain ⟨en, hen⟩ : ∃ en, en = mid + m - st := ⟨_, rfl⟩
        rw [← hen] at hb2
        simp only [← hen]
        obtain ⟨l1, l2, rfl, hl1⟩ : ∃ l1 l2, l = l1 ++ l2 ∧ l1.length = st - a := ⟨l.take (st - a), l.drop (st - a), by simp, by rw [List.length_take]; omega⟩
        obtain ⟨r1, r2, rfl, hr1⟩ : ∃ r1 r2, r = r1 ++ r2 ∧ r1.length = en - m := ⟨r.take (en - m), r.drop (en - m), by simp, by rw [List.length_take]; omega⟩
        have hl2 : l2.length = m - st := by simp at hm; omega
        have hr2 : r2.length = b - en := by simp at hb; omega
        have hsl := srt_app.1 hl
        have hsr := srt_app.1 hr
        -- all of r1 is less than all of l2
        have hx1 : ∀ x ∈ l2, ∀ y ∈ r1, lt y x = true := fun x hx y hy => by
          have hl20 : 0 < l2.length := List.length_pos_of_mem hx
          have hr10 : 0 < r1.length := List.length_pos_of_mem hy
          have h5 := c4 st (Nat.le_refl _) (by split <;> omega)
          obtain ⟨u, hu, e⟩ := hgl st (by omega) (by omega)
          obtain ⟨v, hv, e2⟩ := hgr (mid + m - 1 - st) (by omega) (by omega)
          rw [e, e2] at h5
          rw [List.getElem?_append_right (by omega), show st - a - l1.length = 0 by omega] at hu
          rw [List.getElem?_append_left (by omega)] at hv
          obtain ⟨i, hi⟩ := List.mem_iff_getElem?.1 hx
          obtain ⟨j, hj⟩ := List.mem_iff_getElem?.1 hy
          have hjl := (List.getElem?_eq_some_iff.1 hj).1
          exact hw.le_lt (srt_le hsr.1 hw hj hv (by omega)) (hw.lt_le h5 (srt_le hsl.2.1 hw hu hi (by omega)))
        -- none of r2 is less than one of l1
        have hx2 : ∀ x ∈ l1, ∀ y ∈ r2, lt y x = false := fun x hx y hy => by
          have hl10 : 0 < l1.length := List.length_pos_of_mem hx
          have hr20 : 0 < r2.length := List.length_pos_of_mem hy
          have h5 := c3 (st - 1) (by split <;> omega) (by omega)
          obtain ⟨u, hu, e⟩ := hgl (st - 1) (by omega) (by omega)
          obtain ⟨v, hv, e2⟩ := hgr (mid + m - 1 - (st - 1)) (by omega) (by omega)
          rw [e, e2] at h5
          rw [List.getElem?_append_left (by omega)] at hu
          rw [List.getElem?_append_right (by omega), show mid + m - 1 - (st - 1) - m - r1.length = 0 by omega] at hv
          obtain ⟨i, hi⟩ := List.mem_iff_getElem?.1 hx
          obtain ⟨j, hj⟩ := List.mem_iff_getElem?.1 hy
          have hil := (List.getElem?_eq_some_iff.1 hi).1
          exact hw.tr _ _ _ (hw.tr _ _ _ (srt_le hsl.1 hw hi hu (by omega)) h5) (srt_le hsr.2.1 hw hv hj (by omega))
        -- the rotation
        have hd1 : (if st < m ∧ m < en then rotate ((p ++ (l1 ++ l2) ++ (r1 ++ r2) ++ s).toArray) st m en else (p ++ (l1 ++ l2) ++ (r1 ++ r2) ++ s).toArray) = (p ++ l1 ++ r1 ++ (l2 ++ r2 ++ s)).toArray := by
          split
          case isTrue h =>
            have := rotate_app st m en (p ++ l1) l2 r1 (r2 ++ s) (by omega) (by omega) (by simp; omega) (by simp; omega) (by omega)
            rw [show p ++ (l1 ++ l2) ++ (r1 ++ r2) ++ s = p ++ l1 ++ l2 ++ r1 ++ (r2 ++ s) by simp, this]
            simp
          case isFalse h =>
            by_cases h2 : l2.length = 0
            · rw [List.eq_nil_of_length_eq_zero h2]; simp
            · have : r1.length = 0 := by omega
              rw [List.eq_nil_of_length_eq_zero this]; simp
        rw [hd1]
        -- the two merges
        have hd2 : ∃ l1', (if a < st ∧ st < mid then symMerge lt f ((p ++ l1 ++ r1 ++ (l2 ++ r2 ++ s)).toArray) a st mid else (p ++ l1 ++ r1 ++ (l2 ++ r2 ++ s)).toArray) = (p ++ l1' ++ (l2 ++ r2 ++ s)).toArray ∧ Srt lt l1' ∧ Stab lt (l1 ++ r1) l1' ∧ l1'.length = l1.length + r1.length := by
          by_cases h : a < st ∧ st < mid
          · rw [if_pos h]
            exact IH a st mid p l1 r1 (l2 ++ r2 ++ s) hp (by omega) (by omega) (by omega) (by omega) (by simp at hf; omega) hsl.1 hsr.1
          · rw [if_neg h]
            refine ⟨l1 ++ r1, by simp, ?_, Stab.refl _, by simp⟩
            by_cases h2 : l1.length = 0
            · rw [List.eq_nil_of_length_eq_zero h2]; exact hsr.1
            · have : r1.length = 0 := by omega
              rw [List.eq_nil_of_length_eq_zero this]; simpa using hsl.1
        obtain ⟨l1', e1, s1, t1, n1⟩ := hd2
        rw [e1]
        have hd3 : ∃ l2', (if mid < en ∧ en < b then symMerge lt f ((p ++ l1' ++ (l2 ++ r2 ++ s)).toArray) mid en b else (p ++ l1' ++ (l2 ++ r2 ++ s)).toArray) = (p ++ l1' ++ l2' ++ s).toArray ∧ Srt lt l2' ∧ Stab lt (l2 ++ r2) l2' ∧ l2'.length = l2.length + r2.length := by
          by_cases h : mid < en ∧ en < b
          · rw [if_pos h]
            have := IH mid en b (p ++ l1') l2 r2 s (by simp; omega) (by omega) (by omega) (by omega) (by omega) (by simp at hf; omega) hsl.2.1 hsr.2.1
            rw [show p ++ l1' ++ (l2 ++ r2 ++ s) = p ++ l1' ++ l2 ++ r2 ++ s by simp]
            exact this
          · rw [if_neg h]
            refine ⟨l2 ++ r2, by simp, ?_, Stab.refl _, by simp⟩
            by_cases h2 : l2.length = 0
            · rw [List.eq_nil_of_length_eq_zero h2]; exact hsr.2.1
            · have : r2.length = 0 := by omega
              rw [List.eq_nil_of_length_eq_zero this]; simpa using hsl.2.1
        obtain ⟨l2', e2, s2, t2, n2⟩ := hd3
        rw [e2]
        refine ⟨l1' ++ l2', by simp, srt_app.2 ⟨s1, s2, fun x hx y hy => ?_⟩, ?_, by simp; omega⟩
        · rcases List.mem_append.1 (t1.symm.mem hw hx) with h1 | h1 <;> rcases List.mem_append.1 (t2.symm.mem hw hy) with h2 | h2
          · exact hsl.2.2 x h1 y h2
          · exact hx2 x h1 y h2
          · exact hw.asy _ _ (hx1 y h2 x h1)
          · exact hsr.2.2 x h1 y h2
        · have h8 : Stab lt (l2 ++ r1) (r1 ++ l2) := Stab.swap hw l2 r1 hx1
          have h9 := Stab.app (Stab.app (Stab.refl (lt := lt) l1) h8) (Stab.refl r2)
          have h10 := Stab.app t1 t2
          refine Stab.trans ?_ h10
          simpa using h9
end Go.Proofs.Ytgffjhbmggmcoaa.SortD
