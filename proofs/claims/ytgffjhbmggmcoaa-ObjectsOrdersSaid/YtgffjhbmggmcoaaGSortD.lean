/- The plain functions of slices' stable sort over arrays. No program in sight. -/
import Derived.Sort.Defs
namespace Go.Proofs.Ytgffjhbmggmcoaa.SortD
open Go.Sort
variable {α : Type} [Inhabited α]

/-- n exchanges from the i-th on. -/
def swapFrom (d : Array α) (a b i : Nat) : Nat → Array α
  | 0 => d
  | n + 1 => swapFrom (swp d (a + i) (b + i)) a b (i + 1) n
def swapRange (d : Array α) (a b n : Nat) : Array α := swapFrom d a b 0 n

/-- slices.rotateCmpFunc's rounds. -/
def rotGo (d : Array α) (m i j : Nat) : Nat → Array α
  | 0 => d
  | k + 1 => if i = j then swapRange d (m - i) m i else if j < i then rotGo (swapRange d (m - i) m j) m (i - j) j k else rotGo (swapRange d (m - i) (m + j - i) i) m i (j - i) k
def rotate (d : Array α) (a m b : Nat) : Array α := rotGo d m (m - a) (b - m) (b - a)

/-- A binary search between i and j. -/
def bs (p : Nat → Bool) : Nat → Nat → Nat → Nat
  | 0, i, _ => i
  | k + 1, i, j => if i < j then (if p ((i + j) / 2) then bs p k ((i + j) / 2 + 1) j else bs p k i ((i + j) / 2)) else i

/-- n exchanges upward from k on, downward from k on. -/
def moveUp (d : Array α) (k : Nat) : Nat → Array α
  | 0 => d
  | n + 1 => moveUp (swp d k (k + 1)) (k + 1) n
def moveDown (d : Array α) (k : Nat) : Nat → Array α
  | 0 => d
  | n + 1 => moveDown (swp d k (k - 1)) (k - 1) n

def startOf (lt : α → α → Bool) (d : Array α) (a m b : Nat) : Nat :=
  let mid := (a + b) / 2
  let n := mid + m
  bs (fun c => !lt d[n - 1 - c]! d[c]!) (b - a) (if mid < m then n - b else a) (if mid < m then mid else m)

/-- slices.symMergeCmpFunc; f: how deep it may go. -/
def symMerge (lt : α → α → Bool) : Nat → Array α → Nat → Nat → Nat → Array α
  | 0, d, _, _, _ => d
  | f + 1, d, a, m, b =>
    if m - a = 1 then moveUp d a (bs (fun h => lt d[h]! d[a]!) (b - m) m b - 1 - a)
    else if b - m = 1 then moveDown d m (m - bs (fun h => !lt d[m]! d[h]!) (m - a) a m)
    else
      let mid := (a + b) / 2
      let start := startOf lt d a m b
      let en := mid + m - start
      let d1 := if start < m ∧ m < en then rotate d start m en else d
      let d2 := if a < start ∧ start < mid then symMerge lt f d1 a start mid else d1
      if mid < en ∧ en < b then symMerge lt f d2 mid en b else d2

/-- The blocks of 20, one behind the other. -/
def blocksGo (lt : α → α → Bool) (n : Nat) : Nat → Nat → Array α → Array α
  | 0, a, d => Sort.insertionSort lt d a n
  | k + 1, a, d => if a + 20 ≤ n then blocksGo lt n k (a + 20) (Sort.insertionSort lt d a (a + 20)) else Sort.insertionSort lt d a n
/-- The merges of one size. -/
def mergesGo (lt : α → α → Bool) (n bsz : Nat) : Nat → Nat → Array α → Array α
  | 0, _, d => d
  | k + 1, a, d => if a + 2 * bsz ≤ n then mergesGo lt n bsz k (a + 2 * bsz) (symMerge lt (2 * bsz) d a (a + bsz) (a + 2 * bsz)) else if a + bsz < n then symMerge lt (n - a) d a (a + bsz) n else d
def sizesGo (lt : α → α → Bool) (n : Nat) : Nat → Nat → Array α → Array α
  | 0, _, d => d
  | k + 1, bsz, d => if bsz < n then sizesGo lt n k (2 * bsz) (mergesGo lt n bsz (n + 1) 0 d) else d
/-- slices.stableCmpFunc. -/
def stable (lt : α → α → Bool) (d : Array α) : Array α := sizesGo lt d.size (d.size + 1) 20 (blocksGo lt d.size (d.size + 1) 0 d)
/-! Sizes. -/
theorem size_swapFrom : ∀ (n : Nat) (d : Array α) (a b i : Nat), (swapFrom d a b i n).size = d.size
  | 0, _, _, _, _ => rfl
  | n + 1, d, a, b, i => by rw [swapFrom, size_swapFrom n]; simp [swp]
@[simp] theorem size_swapRange (d : Array α) (a b n : Nat) : (swapRange d a b n).size = d.size := size_swapFrom ..
theorem size_rotGo : ∀ (k : Nat) (d : Array α) (m i j : Nat), (rotGo d m i j k).size = d.size
  | 0, _, _, _, _ => rfl
  | k + 1, d, m, i, j => by
    rw [rotGo]
    split
    · simp
    · split <;> rw [size_rotGo k] <;> simp
@[simp] theorem size_rotate (d : Array α) (a m b : Nat) : (rotate d a m b).size = d.size := size_rotGo ..
@[simp] theorem size_moveUp : ∀ (n : Nat) (d : Array α) (k : Nat), (moveUp d k n).size = d.size
  | 0, _, _ => rfl
  | n + 1, d, k => by rw [moveUp, size_moveUp n]; simp [swp]
@[simp] theorem size_moveDown : ∀ (n : Nat) (d : Array α) (k : Nat), (moveDown d k n).size = d.size
  | 0, _, _ => rfl
  | n + 1, d, k => by rw [moveDown, size_moveDown n]; simp [swp]
@[simp] theorem size_symMerge (lt : α → α → Bool) : ∀ (f : Nat) (d : Array α) (a m b : Nat), (symMerge lt f d a m b).size = d.size
  | 0, _, _, _, _ => rfl
  | f + 1, d, a, m, b => by
    rw [symMerge]
    split
    · simp
    · split
      · simp
      · have h1 : (if startOf lt d a m b < m ∧ m < (a + b) / 2 + m - startOf lt d a m b then rotate d (startOf lt d a m b) m ((a + b) / 2 + m - startOf lt d a m b) else d).size = d.size := by split <;> simp
        have h2 : ∀ d1 : Array α, d1.size = d.size → (if a < startOf lt d a m b ∧ startOf lt d a m b < (a + b) / 2 then symMerge lt f d1 a (startOf lt d a m b) ((a + b) / 2) else d1).size = d.size := by
          intro d1 h
          split
          · rw [size_symMerge lt f]; exact h
          · exact h
        simp only
        split
        · rw [size_symMerge lt f]; exact h2 _ h1
        · exact h2 _ h1
theorem bs_range (p : Nat → Bool) : ∀ (k i j : Nat), i ≤ j → i ≤ bs p k i j ∧ bs p k i j ≤ j
  | 0, i, j, h => ⟨Nat.le_refl _, h⟩
  | k + 1, i, j, h => by
    rw [bs]
    split
    · split
      · have := bs_range p k ((i + j) / 2 + 1) j (by omega); omega
      · have := bs_range p k i ((i + j) / 2) (by omega); omega
    · omega
/-- With enough rounds one round more tells the same. -/
theorem bs_more (p : Nat → Bool) : ∀ (k k' i j : Nat), j - i ≤ k → j - i ≤ k' → bs p k i j = bs p k' i j
  | 0, 0, _, _, _, _ => rfl
  | 0, k' + 1, i, j, h, _ => by rw [bs, bs, if_neg (by omega)]
  | k + 1, 0, i, j, _, h => by rw [bs, bs, if_neg (by omega)]
  | k + 1, k' + 1, i, j, h, h' => by
    rw [bs, bs]
    by_cases hlt : i < j
    · rw [if_pos hlt, if_pos hlt, bs_more p k k' _ _ (by omega) (by omega), bs_more p k k' _ _ (by omega) (by omega)]
    · rw [if_neg hlt, if_neg hlt]
theorem size_insInner (lt : α → α → Bool) (a : Nat) : ∀ (j : Nat) (d : Array α), (insInner lt a j d).size = d.size
  | 0, _ => rfl
  | j + 1, d => by
    rw [insInner]
    split
    · rw [size_insInner lt a j]; simp [swp]
    · rfl
theorem size_insOuter (lt : α → α → Bool) (a b : Nat) : ∀ (k i : Nat) (d : Array α), b - i = k → (insOuter lt a b i d).size = d.size
  | 0, i, d, h => by rw [insOuter, if_neg (by omega)]
  | k + 1, i, d, h => by
    rw [insOuter]
    split
    · rw [size_insOuter lt a b k (i + 1) _ (by omega), size_insInner]
    · rfl
@[simp] theorem size_insertionSort (lt : α → α → Bool) (d : Array α) (a b : Nat) : (Sort.insertionSort lt d a b).size = d.size := size_insOuter lt a b _ _ d rfl
theorem size_blocksGo (lt : α → α → Bool) (n : Nat) : ∀ (k a : Nat) (d : Array α), (blocksGo lt n k a d).size = d.size
  | 0, a, d => by rw [blocksGo, size_insertionSort]
  | k + 1, a, d => by
    rw [blocksGo]
    split
    · rw [size_blocksGo lt n k, size_insertionSort]
    · rw [size_insertionSort]
theorem size_mergesGo (lt : α → α → Bool) (n bsz : Nat) : ∀ (k a : Nat) (d : Array α), (mergesGo lt n bsz k a d).size = d.size
  | 0, a, d => rfl
  | k + 1, a, d => by
    rw [mergesGo]
    split
    · rw [size_mergesGo lt n bsz k, size_symMerge]
    · split
      · rw [size_symMerge]
      · rfl
theorem size_sizesGo (lt : α → α → Bool) (n : Nat) : ∀ (k s : Nat) (d : Array α), (sizesGo lt n k s d).size = d.size
  | 0, _, _ => rfl
  | k + 1, s, d => by
    rw [sizesGo]
    split
    · rw [size_sizesGo lt n k, size_mergesGo]
    · rfl
@[simp] theorem size_stable (lt : α → α → Bool) (d : Array α) : (stable lt d).size = d.size := by rw [stable, size_sizesGo, size_blocksGo]
end Go.Proofs.Ytgffjhbmggmcoaa.SortD
