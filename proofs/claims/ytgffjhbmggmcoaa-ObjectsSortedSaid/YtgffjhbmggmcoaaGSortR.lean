/- The plain law of slices' stable sort, whole: sorted, and equals keep their order. Condition: the comparison is a weak order. -/
import Derived.Test.YtgffjhbmggmcoaaGSortQ
namespace Go.Proofs.Ytgffjhbmggmcoaa.SortD
open Go.Sort
variable {α : Type} [Inhabited α] {lt : α → α → Bool}

def Blk (lt : α → α → Bool) (s : Nat) (l : List α) : Prop := ∀ j, Srt lt ((l.drop (j * s)).take s)
omit [Inhabited α] in
theorem Blk.head {s : Nat} {l : List α} (h : Blk lt s l) : Srt lt (l.take s) := by have := h 0; simpa using this
omit [Inhabited α] in
theorem Blk.tail {s : Nat} {l : List α} (h : Blk lt s l) (n : Nat) (hn : n = s) : Blk lt s (l.drop n) := fun j => by
  have := h (j + 1)
  rw [List.drop_drop, hn, show s + j * s = (j + 1) * s by rw [Nat.add_mul]; omega]
  exact this
omit [Inhabited α] in
theorem Blk.mk {s : Nat} {l m : List α} (hl : Srt lt l) (hs : l.length = s) (hm : Blk lt s m) : Blk lt s (l ++ m) := fun j => by
  cases j with
  | zero => rw [Nat.zero_mul, List.drop_zero, List.take_append_of_le_length (by omega), List.take_of_length_le (by omega)]; exact hl
  | succ j =>
    rw [List.drop_append, List.drop_of_length_le (by rw [Nat.add_mul]; omega), List.nil_append, show (j + 1) * s - l.length = j * s by rw [Nat.add_mul]; omega]
    exact hm j
omit [Inhabited α] in
theorem Blk.one {s : Nat} {l : List α} (hl : Srt lt l) (hs : l.length ≤ s) : Blk lt s l := fun j => by
  cases j with
  | zero => rw [Nat.zero_mul, List.drop_zero, List.take_of_length_le hs]; exact hl
  | succ j => rw [List.drop_of_length_le (by rw [Nat.add_mul]; omega), List.take_nil]; exact List.Pairwise.nil

theorem blocks_app (hw : WO lt) (n : Nat) : ∀ (k a : Nat) (p r : List α), p.length = a → a + r.length = n → r.length ≤ k →
    ∃ r', blocksGo lt n k a ((p ++ r).toArray) = (p ++ r').toArray ∧ Blk lt 20 r' ∧ Stab lt r r' ∧ r'.length = r.length
  | 0, a, p, r, hp, hr, hk => by
    obtain ⟨l', e, h1, h2, h3⟩ := insertionSort_app hw a n p r [] hp hr
    rw [blocksGo]
    simp only [List.append_nil] at e
    exact ⟨l', e, Blk.one h1 (by omega), h2, h3⟩
  | k + 1, a, p, r, hp, hr, hk => by
    rw [blocksGo]
    by_cases h : a + 20 ≤ n
    · rw [if_pos h]
      obtain ⟨r1, r2, rfl, hr1⟩ : ∃ r1 r2, r = r1 ++ r2 ∧ r1.length = 20 := ⟨r.take 20, r.drop 20, by simp, by rw [List.length_take]; omega⟩
      simp only [List.length_append] at hr hk
      obtain ⟨l', e, h1, h2, h3⟩ := insertionSort_app hw a (a + 20) p r1 r2 hp (by omega)
      rw [show p ++ (r1 ++ r2) = p ++ r1 ++ r2 by simp, e]
      obtain ⟨r', e2, h4, h5, h6⟩ := blocks_app hw n k (a + 20) (p ++ l') r2 (by simp; omega) (by omega) (by omega)
      rw [e2]
      exact ⟨l' ++ r', by simp, Blk.mk h1 (by omega) h4, Stab.app h2 h5, by simp; omega⟩
    · rw [if_neg h]
      obtain ⟨l', e, h1, h2, h3⟩ := insertionSort_app hw a n p r [] hp hr
      simp only [List.append_nil] at e
      exact ⟨l', e, Blk.one h1 (by omega), h2, h3⟩

theorem merges_app (hw : WO lt) (n s : Nat) (hs : 0 < s) : ∀ (k a : Nat) (p r : List α), p.length = a → a + r.length = n → r.length < k → Blk lt s r →
    ∃ r', mergesGo lt n s k a ((p ++ r).toArray) = (p ++ r').toArray ∧ Blk lt (2 * s) r' ∧ Stab lt r r' ∧ r'.length = r.length
  | 0, a, p, r, _, _, hk, _ => absurd hk (by omega)
  | k + 1, a, p, r, hp, hr, hk, hb => by
    rw [mergesGo]
    by_cases h : a + 2 * s ≤ n
    · rw [if_pos h]
      obtain ⟨r1, q, rfl, hr1⟩ : ∃ r1 q, r = r1 ++ q ∧ r1.length = s := ⟨r.take s, r.drop s, by simp, by rw [List.length_take]; omega⟩
      obtain ⟨r2, r3, rfl, hr2⟩ : ∃ r2 r3, q = r2 ++ r3 ∧ r2.length = s := ⟨q.take s, q.drop s, by simp, by rw [List.length_take]; simp at hr; omega⟩
      simp only [List.length_append] at hr hk
      have b1 := hb.head
      rw [List.take_append_of_le_length (by omega), List.take_of_length_le (by omega)] at b1
      have b2 := hb.tail r1.length hr1
      rw [List.drop_left] at b2
      have b3 := b2.head
      rw [List.take_append_of_le_length (by omega), List.take_of_length_le (by omega)] at b3
      have b4 := b2.tail r2.length hr2
      rw [List.drop_left] at b4
      obtain ⟨l', e, h1, h2, h3⟩ := merge_all hw (2 * s) a (a + s) (a + 2 * s) p r1 r2 r3 hp (by omega) (by omega) (by omega) (by omega) (by omega) b1 b3
      rw [show p ++ (r1 ++ (r2 ++ r3)) = p ++ r1 ++ r2 ++ r3 by simp, e]
      obtain ⟨r', e2, h4, h5, h6⟩ := merges_app hw n s hs k (a + 2 * s) (p ++ l') r3 (by simp; omega) (by omega) (by omega) b4
      rw [e2]
      refine ⟨l' ++ r', by simp, Blk.mk h1 (by omega) h4, ?_, by simp; omega⟩
      have := Stab.app h2 h5
      simpa using this
    · rw [if_neg h]
      by_cases h2 : a + s < n
      · rw [if_pos h2]
        obtain ⟨r1, r2, rfl, hr1⟩ : ∃ r1 q, r = r1 ++ q ∧ r1.length = s := ⟨r.take s, r.drop s, by simp, by rw [List.length_take]; omega⟩
        simp only [List.length_append] at hr hk
        have b1 := hb.head
        rw [List.take_append_of_le_length (by omega), List.take_of_length_le (by omega)] at b1
        have b2 := (hb.tail r1.length hr1).head
        rw [List.drop_left, List.take_of_length_le (by omega)] at b2
        obtain ⟨l', e, h3, h4, h5⟩ := merge_all hw (n - a) a (a + s) n p r1 r2 [] hp (by omega) (by omega) (by omega) (by omega) (by omega) b1 b2
        simp only [List.append_nil] at e
        rw [show p ++ (r1 ++ r2) = p ++ r1 ++ r2 by simp, e]
        exact ⟨l', rfl, Blk.one h3 (by omega), h4, by simp; omega⟩
      · rw [if_neg h2]
        have b1 := hb.head
        rw [List.take_of_length_le (by omega)] at b1
        exact ⟨r, rfl, Blk.one b1 (by omega), Stab.refl _, rfl⟩

theorem sizes_app (hw : WO lt) (n : Nat) : ∀ (k s : Nat) (l : List α), 0 < s → l.length = n → n - s < k → Blk lt s l →
    ∃ l', sizesGo lt n k s l.toArray = l'.toArray ∧ Srt lt l' ∧ Stab lt l l'
  | 0, s, l, _, _, hk, _ => absurd hk (by omega)
  | k + 1, s, l, hs, hn, hk, hb => by
    rw [sizesGo]
    by_cases h : s < n
    · rw [if_pos h]
      obtain ⟨r', e, h1, h2, h3⟩ := merges_app hw n s hs (n + 1) 0 [] l rfl (by omega) (by omega) hb
      simp only [List.nil_append] at e
      rw [e]
      obtain ⟨l', e2, h4, h5⟩ := sizes_app hw n k (2 * s) r' (by omega) (by omega) (by omega) h1
      exact ⟨l', e2, h4, h2.trans h5⟩
    · rw [if_neg h]
      have b1 := hb.head
      rw [List.take_of_length_le (by omega)] at b1
      exact ⟨l, rfl, b1, Stab.refl _⟩

theorem stable_spec (hw : WO lt) (l : List α) : Srt lt (stable lt l.toArray).toList ∧ Stab lt l (stable lt l.toArray).toList := by
  unfold stable
  simp only [List.size_toArray]
  obtain ⟨r', e, h1, h2, h3⟩ := blocks_app hw l.length (l.length + 1) 0 [] l rfl (by omega) (by omega)
  simp only [List.nil_append] at e
  rw [e]
  obtain ⟨l', e2, h4, h5⟩ := sizes_app hw l.length (l.length + 1) 20 r' (by omega) (by omega) (by omega) h1
  rw [e2]
  exact ⟨h4, h2.trans h5⟩
end Go.Proofs.Ytgffjhbmggmcoaa.SortD
