/- The plain laws of the objects' order: the program's order is the document's, and what was put in order is sorted, has the same objects, and stays. Condition: fewer than 28147497671065 objects. -/
import Derived.Test.YtgffjhbmggmcoaaGSortR
import Derived.Test.YtgffjhbmggmcoaaPF3
import Derived.Test.YtgffjhbmggmcoaaPF4
namespace Go.Proofs.Ytgffjhbmggmcoaa.PF
open Go.RowKit Go.Proofs.Ytgffjhbmggmcoaa.SortD Go.Proofs.YtgffjhbmggmcoaaW.PrintWords
set_option linter.unusedVariables false
set_option linter.unusedSimpArgs false

def ltB (x y : S28) : Bool := if x.f1 = y.f1 then decide (x.f4 < y.f4) else decide (x.f1 < y.f1)
theorem ltB_iff (x y : S28) : ltB x y = true ↔ x.f1 < y.f1 ∨ x.f1 = y.f1 ∧ x.f4 < y.f4 := by
  unfold ltB
  by_cases h : x.f1 = y.f1
  · rw [if_pos h]; simp; omega
  · rw [if_neg h]; simp; omega
theorem ltB_not (x y : S28) : ltB x y = false ↔ ¬ (x.f1 < y.f1 ∨ x.f1 = y.f1 ∧ x.f4 < y.f4) := by
  rw [← ltB_iff]; simp
theorem wo : WO ltB := ⟨fun x y h => by rw [ltB_not]; rw [ltB_iff] at h; omega, fun x y z h1 h2 => by rw [ltB_not] at h1 h2 ⊢; omega⟩
theorem ltOf_cfO : ltOf cfO = ltB := by
  funext x y
  rw [Bool.eq_iff_iff, ltB_iff]
  unfold ltOf cfO cmpI
  simp only [decide_eq_true_eq]
  by_cases h1 : x.f1 < y.f1
  · rw [if_pos h1]; simp [h1]
  · by_cases h2 : y.f1 < x.f1
    · rw [if_neg h1, if_pos h2]; simp; omega
    · rw [if_neg h1, if_neg h2]
      by_cases h3 : x.f4 < y.f4
      · rw [if_pos h3]; simp; omega
      · by_cases h4 : y.f4 < x.f4
        · rw [if_neg h3, if_pos h4]; simp; omega
        · rw [if_neg h3, if_neg h4]; simp; omega
theorem ahead_some (x y : S28) : whirligigref16_ahead.f x.f0 x.f1 x.f2 x.f3 x.f4 y.f0 y.f1 y.f2 y.f3 y.f4 = some (ltB x y) := by
  unfold whirligigref16_ahead.f ltB
  split <;> rfl
/-- The stable sort. -/
def srt (l : List S28) : List S28 := (stable ltB l.toArray).toList
theorem order_some (l : List S28) (h : l.length < 28147497671065) : objects_Order.f l = some (srt l) := by unfold objects_Order.f srt; rw [if_pos h, ltOf_cfO]
theorem srt_sorted (l : List S28) : Srt ltB (srt l) := (stable_spec wo l).1
theorem srt_stab (l : List S28) : Stab ltB l (srt l) := (stable_spec wo l).2
theorem srt_length (l : List S28) : (srt l).length = l.length := by unfold srt; simp
theorem rd_at (l : List S28) (i : Nat) (x : S28) (h : l[i]? = some x) : rd_T28 l (i : Int) = x := by
  unfold rd_T28
  rw [Int.toNat_natCast, List.getD_eq_getElem?_getD, h]
  rfl
theorem wrap_nat (i : Nat) (h : i ≤ 1000000000000000) : wrap64 ((i : Int) + 1) = ((i + 1 : Nat) : Int) := by unfold wrap64; omega

/-! ### the document's order -/
theorem ref_insert (x0 : List S28) (i : Nat) (x : S28) (hx : x0[i]? = some x) (hb : x0.length ≤ 1000000) (r x3 : List S28)
    (k0 : ∀ o1 o2 : List S28, o1 ++ o2 = x3 → Srt ltB (o1 ++ o2) → (o1 ++ o2).length = i → (∀ y ∈ o2, ltB x y = true) → (∀ y, o1.getLast? = some y → ltB x y = false) → Ev (fun k => whirligigref16_Order.l0 k x0 (o1 ++ x :: o2) ((i + 1 : Nat) : Int)) r) :
    ∀ (n : Nat) (o1 o2 : List S28), o1.length = n → o1 ++ o2 = x3 → Srt ltB (o1 ++ o2) → (o1 ++ o2).length = i → (∀ y ∈ o2, ltB x y = true) → Ev (fun k => whirligigref16_Order.l1 k x0 (o1 ++ o2) (i : Int) (n : Int)) r := by
  have hil := (List.getElem?_eq_some_iff.1 hx).1
  intro n
  induction n with
  | zero =>
    intro o1 o2 hn he hs hl ho
    obtain rfl := List.eq_nil_of_length_eq_zero hn
    refine Ev.step (f := fun k => whirligigref16_Order.l0 k x0 (x :: o2) ((i + 1 : Nat) : Int)) (fun k => ?_) (by simpa using k0 [] o2 he hs hl ho (by simp))
    simp only [List.nil_append, List.length_append, List.length_nil, Nat.zero_add] at hl
    simp only [whirligigref16_Order.l1, List.nil_append]
    rw [if_neg (by omega)]
    simp only [Option.bind_some]
    rw [if_pos (by omega), if_pos (by omega)]
    simp only [Int.natCast_zero, Int.toNat_zero, List.take_zero, List.drop_zero, List.nil_append, List.length_nil, List.length_cons, List.length_append, List.append_nil, List.cons_append]
    rw [if_pos (by omega), if_pos (by omega), if_pos (by omega), if_pos (by omega), if_pos (by omega), rd_at x0 i x hx, wrap_nat i (by omega)]
  | succ n ih =>
    intro o1 o2 hn he hs hl ho
    obtain ⟨o1, y, rfl⟩ : ∃ o y, o1 = o ++ [y] := by
      rcases List.eq_nil_or_concat o1 with h | ⟨q', y, h⟩
      · subst h; simp at hn
      · exact ⟨q', y, by simpa using h⟩
    simp only [List.length_append, List.length_cons, List.length_nil, Nat.zero_add, Nat.add_right_cancel_iff] at hn
    have hl' := hl
    simp only [List.length_append, List.length_cons, List.length_nil, Nat.zero_add] at hl'
    have hy : (o1 ++ [y] ++ o2)[n]? = some y := by
      rw [List.append_assoc, List.getElem?_append_right (by omega), hn, Nat.sub_self]
      rfl
    have hw1 : wrap64 (((n + 1 : Nat) : Int) - 1) = (n : Int) := by unfold wrap64; omega
    have hlen : (o1 ++ [y] ++ o2).length = i := hl
    by_cases hxy : ltB x y = true
    · refine Ev.step (f := fun k => whirligigref16_Order.l1 k x0 (o1 ++ (y :: o2)) (i : Int) (n : Int)) (fun k => ?_) (ih o1 (y :: o2) hn (by simpa using he) (by simpa using hs) (by simpa using hl) (fun z hz => by
        rcases List.mem_cons.1 hz with e | e
        · rw [e]; exact hxy
        · exact ho z e))
      simp only [whirligigref16_Order.l1]
      rw [if_pos (by omega), if_pos (by omega), if_pos (by omega), hw1, if_pos (by omega), if_pos (by rw [hlen]; omega), rd_at x0 i x hx, rd_at _ n y hy, ahead_some]
      simp only [Option.bind_some]
      rw [if_pos hxy]
      simp
    · refine Ev.step (f := fun k => whirligigref16_Order.l0 k x0 (o1 ++ [y] ++ x :: o2) ((i + 1 : Nat) : Int)) (fun k => ?_) (k0 (o1 ++ [y]) o2 he hs hl ho (fun z hz => by
        rw [List.getLast?_append] at hz
        simp at hz
        rw [← hz]; simpa using hxy))
      simp only [whirligigref16_Order.l1]
      rw [if_pos (by omega), if_pos (by omega), if_pos (by omega), hw1, if_pos (by omega), if_pos (by rw [hlen]; omega), rd_at x0 i x hx, rd_at _ n y hy, ahead_some]
      simp only [Option.bind_some]
      have ht : ((n + 1 : Nat) : Int).toNat = (o1 ++ [y]).length := by simp; omega
      rw [if_neg hxy, if_pos (by omega), if_pos (by rw [hlen]; omega), ht, List.take_left, List.drop_left]
      simp only [List.nil_append, List.length_nil, List.length_append, List.length_cons, Nat.zero_add]
      rw [if_pos (by omega), if_pos (by omega), if_pos (by omega), wrap_nat i (by omega)]
      simp

theorem ref_order (x0 : List S28) (hb : x0.length ≤ 1000000) : ∀ (n i : Nat) (x3 : List S28), i + n = x0.length → x3.length = i → Srt ltB x3 → Stab ltB (x0.take i) x3 →
    Ev (fun k => whirligigref16_Order.l0 k x0 x3 (i : Int)) (srt x0)
  | 0, i, x3, hi, hl, hs, ht => by
    have e : x3 = srt x0 := by
      rw [List.take_of_length_le (by omega)] at ht
      exact srt_unique wo x3 (srt x0) hs (srt_sorted x0) (ht.symm.trans (srt_stab x0))
    refine Ev.step (f := fun _ => some (srt x0)) (fun k => ?_) (Ev.now _)
    simp only [whirligigref16_Order.l0]
    rw [if_neg (by omega), e]
  | n + 1, i, x3, hi, hl, hs, ht => by
    have hil : i < x0.length := by omega
    have hx : x0[i]? = some x0[i] := List.getElem?_eq_getElem hil
    refine Ev.step (f := fun k => whirligigref16_Order.l1 k x0 x3 (i : Int) (x3.length : Int)) (fun k => by
      simp only [whirligigref16_Order.l0]
      rw [if_pos (by omega)]) ?_
    have := ref_insert x0 i x0[i] hx hb (srt x0) x3 (fun o1 o2 he h1 h2 h3 h4 => ?_) x3.length x3 [] rfl (by simp) (by simpa using hs) (by simpa using hl) (by simp)
    · simpa using this
    · have hs1 := srt_app.1 h1
      have hle : ∀ z ∈ o1, ltB x0[i] z = false := fun z hz => by
        cases hg : o1.getLast? with
        | none => rw [List.getLast?_eq_none_iff] at hg; rw [hg] at hz; cases hz
        | some y => exact wo.tr z y _ (last_le wo hs1.1 hg z hz) (h4 y hg)
      refine ref_order x0 hb n (i + 1) (o1 ++ x0[i] :: o2) (by omega) (by simp at h2 ⊢; omega) (srt_app.2 ⟨hs1.1, List.pairwise_cons.2 ⟨fun y hy => wo.asy _ _ (h3 y hy), hs1.2.1⟩, fun z hz y hy => ?_⟩) ?_
      · rcases List.mem_cons.1 hy with e | e
        · rw [e]; exact hle z hz
        · exact hs1.2.2 z hz y e
      · rw [List.take_add_one, hx]
        have h5 : Stab ltB (x0.take i ++ [x0[i]]) (x3 ++ [x0[i]]) := Stab.app ht (Stab.refl _)
        rw [← he] at h5
        have h6 : Stab ltB (o2 ++ [x0[i]]) ([x0[i]] ++ o2) := Stab.swap wo o2 [x0[i]] (fun y hy z hz => by rw [List.mem_singleton.1 hz]; exact h3 y hy)
        have h7 := Stab.app (Stab.refl (lt := ltB) o1) h6
        refine Stab.trans h5 ?_
        simpa using h7

/-! ### Same -/
theorem same_self (l : List S28) (hb : l.length ≤ 1000000) : ∀ (n i : Nat), i + n = l.length → Ev (fun k => whirligigref16_Same.l0 k l l (i : Int)) true
  | 0, i, hi => Ev.step (f := fun _ => some true) (fun k => by
      simp only [whirligigref16_Same.l0]
      rw [if_neg (by omega)]) (Ev.now _)
  | n + 1, i, hi => Ev.step (f := fun k => whirligigref16_Same.l0 k l l ((i + 1 : Nat) : Int)) (fun k => by
      simp only [whirligigref16_Same.l0]
      rw [if_pos (by omega), if_pos (by omega), if_pos (by omega), if_neg (by simp), wrap_nat i (by omega)]) (same_self l hb n (i + 1) (by omega))
theorem same_true (l : List S28) (hb : l.length ≤ 1000000) : Ev (fun k => whirligigref16_Same.f k l l) true := by
  have h : (fun k => whirligigref16_Same.f k l l) = fun k => whirligigref16_Same.l0 k l l 0 := by
    funext k
    unfold whirligigref16_Same.f
    rw [if_pos rfl]
  rw [h]
  exact same_self l hb l.length 0 (by omega)

/-- The program's order is the document's. -/
theorem orders_pure (l : List S28) : ∃ k, whirligiglaw16_ObjectsOrders.f k l = some true := by
  by_cases hl : l.length ≤ 1000
  · have h1 : Ev (fun k => whirligigref16_Order.f k l) (srt l) := ref_order l (by omega) l.length 0 [] (by omega) rfl List.Pairwise.nil (by simp [Stab])
    have h2 := same_true (srt l) (by rw [srt_length]; omega)
    have h3 := same_true l (by omega)
    obtain ⟨K1, h1⟩ := h1
    obtain ⟨K2, h2⟩ := h2
    obtain ⟨K3, h3⟩ := h3
    refine ⟨K1 + K2 + K3, ?_⟩
    unfold whirligiglaw16_ObjectsOrders.f whirligiglaw16_shown.f
    simp only [Option.bind_some, List.nil_append, List.length_nil, Nat.zero_add]
    have g1 : whirligigref16_Order.f (K1 + K2 + K3) l = some (srt l) := h1 _ (by omega)
    have g2 : whirligigref16_Same.f (K1 + K2 + K3) (srt l) (srt l) = some true := h2 _ (by omega)
    have g3 : whirligigref16_Same.f (K1 + K2 + K3) l l = some true := h3 _ (by omega)
    rw [if_neg (by omega), if_pos (by omega), order_some l (by omega), g1]
    simp only [Option.bind_some]
    rw [g2, g3]
    simp
  · refine ⟨0, ?_⟩
    unfold whirligiglaw16_ObjectsOrders.f whirligiglaw16_shown.f
    simp only [Option.bind_some]
    rw [if_pos (by omega)]

/-! ### Sorted -/
def eqO (x y : S28) : Bool := x.f0 == y.f0 && (x.f1 == y.f1 && (x.f2 == y.f2 && (x.f3 == y.f3 && (x.f4 == y.f4))))
theorem eqO_iff (x y : S28) : eqO x y = true ↔ x = y := by
  cases x; cases y
  simp [eqO]
theorem count_stab (l m : List S28) (h : Stab ltB l m) (x : S28) : (l.filter fun y => eqO y x).length = (m.filter fun y => eqO y x).length := by
  have h1 : ∀ l : List S28, (l.filter fun y => eqO y x) = (l.filter (eqv ltB x)).filter fun y => eqO y x := fun l => by
    rw [List.filter_filter]
    congr 1
    funext y
    by_cases he : eqO y x = true
    · have := (eqO_iff y x).1 he
      rw [this]
      simp [eqv_self wo]
    · simp [he]
  rw [h1 l, h1 m, h x]

theorem inner_pure (x0 x4 : List S28) (x3 : Bool) (hb : x4.length ≤ 1000000) (hl : x0.length = x4.length) (i : Nat) (x : S28) (hx : x4[i]? = some x) (r : Bool)
    (hc : (x4.filter fun y => eqO y x).length = (x0.filter fun y => eqO y x).length)
    (hs : ∀ y, 0 < i → x4[i - 1]? = some y → ltB x y = false) (k0 : Ev (fun k => whirligiglaw16_ObjectsSorted.l0 k x0 x3 x4 ((i + 1 : Nat) : Int)) r) :
    ∀ (n j : Nat), j + n = x4.length → Ev (fun k => whirligiglaw16_ObjectsSorted.l1 k x0 x3 x4 (i : Int) (((x4.take j).filter fun y => eqO y x).length : Int) (((x0.take j).filter fun y => eqO y x).length : Int) (j : Int)) r
  | 0, j, hj => by
    have hil := (List.getElem?_eq_some_iff.1 hx).1
    refine Ev.step (f := fun k => whirligiglaw16_ObjectsSorted.l0 k x0 x3 x4 ((i + 1 : Nat) : Int)) (fun k => ?_) k0
    simp only [whirligiglaw16_ObjectsSorted.l1]
    rw [if_neg (by omega), List.take_of_length_le (by omega), List.take_of_length_le (by omega), if_pos (by rw [hc])]
    by_cases hi : 0 < i
    · have hy : x4[i - 1]? = some x4[i - 1] := List.getElem?_eq_getElem (by omega)
      have h1 := hs _ hi hy
      rw [ltB_not] at h1
      have hw : wrap64 ((i : Int) - 1) = ((i - 1 : Nat) : Int) := by unfold wrap64; omega
      rw [if_pos (by omega), if_pos (by omega), if_pos (by omega), hw, if_pos (by omega), if_pos (by omega), rd_at x4 i x hx, rd_at x4 (i - 1) _ hy, if_neg (by omega), wrap_nat i (by omega)]
      by_cases h2 : x.f1 = x4[i - 1].f1
      · rw [if_pos h2, if_neg (by omega)]
      · rw [if_neg h2]
    · rw [if_neg (by omega), wrap_nat i (by omega)]
  | n + 1, j, hj => by
    have hil := (List.getElem?_eq_some_iff.1 hx).1
    have hjl : j < x4.length := by omega
    have hm : x4[j]? = some x4[j] := List.getElem?_eq_getElem hjl
    have hm0 : x0[j]? = some x0[j] := List.getElem?_eq_getElem (by omega)
    have ih := inner_pure x0 x4 x3 hb hl i x hx r hc hs k0 n (j + 1) (by omega)
    have hle : ∀ l : List S28, ((l.take j).filter fun y => eqO y x).length ≤ j := fun l => Nat.le_trans (List.length_filter_le _ _) (by simp; omega)
    have hl4 := hle x4
    have hl0 := hle x0
    rw [List.take_add_one, List.take_add_one, hm, hm0, List.filter_append, List.filter_append, List.length_append, List.length_append] at ih
    have e4 : ∀ z : S28, ((some z).toList.filter fun y => eqO y x).length = if eqO z x = true then 1 else 0 := fun z => by
      by_cases h : eqO z x = true
      · rw [if_pos h]; simp [h]
      · rw [if_neg h]; simp [h]
    rw [e4, e4] at ih
    have w0 : ∀ q : Nat, q ≤ j → wrap64 ((q : Int) + 1) = ((q + 1 : Nat) : Int) := fun q hq => wrap_nat q (by omega)
    generalize ((x4.take j).filter fun y => eqO y x).length = q4 at *
    generalize ((x0.take j).filter fun y => eqO y x).length = q0 at *
    refine Ev.step (fun k => ?_) ih
    simp only [whirligiglaw16_ObjectsSorted.l1]
    rw [if_pos (by omega), if_pos (by omega), if_pos (by omega), if_pos (by omega), rd_at x4 i x hx, rd_at x4 j _ hm, rd_at x0 j _ hm0, wrap_nat j (by omega), w0 q4 hl4, w0 q0 hl0]
    by_cases h1 : eqO x4[j] x = true
    · have h1' : (x4[j].f0 == x.f0 && (x4[j].f1 == x.f1 && (x4[j].f2 == x.f2 && (x4[j].f3 == x.f3 && (x4[j].f4 == x.f4))))) = true := h1
      rw [if_pos h1', if_pos (show (j : Int) < (x0.length : Int) by omega), if_pos h1]
      by_cases h2 : eqO x0[j] x = true
      · have h2' : (x0[j].f0 == x.f0 && (x0[j].f1 == x.f1 && (x0[j].f2 == x.f2 && (x0[j].f3 == x.f3 && (x0[j].f4 == x.f4))))) = true := h2
        rw [if_pos h2', if_pos h2]
      · have h2' : ¬ (x0[j].f0 == x.f0 && (x0[j].f1 == x.f1 && (x0[j].f2 == x.f2 && (x0[j].f3 == x.f3 && (x0[j].f4 == x.f4))))) = true := h2
        rw [if_neg h2', if_neg h2]; rfl
    · have h1' : ¬ (x4[j].f0 == x.f0 && (x4[j].f1 == x.f1 && (x4[j].f2 == x.f2 && (x4[j].f3 == x.f3 && (x4[j].f4 == x.f4))))) = true := h1
      rw [if_neg h1', if_pos (show (j : Int) < (x0.length : Int) by omega), if_neg h1]
      by_cases h2 : eqO x0[j] x = true
      · have h2' : (x0[j].f0 == x.f0 && (x0[j].f1 == x.f1 && (x0[j].f2 == x.f2 && (x0[j].f3 == x.f3 && (x0[j].f4 == x.f4))))) = true := h2
        rw [if_pos h2', if_pos h2]; rfl
      · have h2' : ¬ (x0[j].f0 == x.f0 && (x0[j].f1 == x.f1 && (x0[j].f2 == x.f2 && (x0[j].f3 == x.f3 && (x0[j].f4 == x.f4))))) = true := h2
        rw [if_neg h2', if_neg h2]; rfl

theorem outer_pure (x0 x4 : List S28) (hb : x4.length ≤ 1000000) (hl : x0.length = x4.length) (hst : Stab ltB x0 x4) (hso : Srt ltB x4) : ∀ (n i : Nat), i + n = x4.length →
    Ev (fun k => whirligiglaw16_ObjectsSorted.l0 k x0 true x4 (i : Int)) true
  | 0, i, hi => by
    have he : srt x4 = x4 := (srt_unique wo _ _ hso (srt_sorted x4) (srt_stab x4)).symm
    obtain ⟨K, hK⟩ := same_true x4 hb
    refine ⟨K + 1, fun k hk => ?_⟩
    obtain ⟨k, rfl⟩ : ∃ m, k = m + 1 := ⟨k - 1, by omega⟩
    simp only [whirligiglaw16_ObjectsSorted.l0]
    rw [if_neg (by omega), order_some x4 (by omega), he]
    simp only [Option.bind_some]
    have g1 : whirligigref16_Same.f k x4 x4 = some true := hK k (by omega)
    rw [g1]
    simp
  | n + 1, i, hi => by
    have hil : i < x4.length := by omega
    have hx : x4[i]? = some x4[i] := List.getElem?_eq_getElem hil
    refine Ev.step (f := fun k => whirligiglaw16_ObjectsSorted.l1 k x0 true x4 (i : Int) 0 0 0) (fun k => by
      simp only [whirligiglaw16_ObjectsSorted.l0]
      rw [if_pos (by omega)]) ?_
    have := inner_pure x0 x4 true hb hl i x4[i] hx true (count_stab x0 x4 hst x4[i]).symm (fun y hi0 hy => srt_le hso wo hy hx (by omega)) (outer_pure x0 x4 hb hl hst hso n (i + 1) (by omega)) x4.length 0 (by omega)
    simpa using this

theorem sorted_pure (l : List S28) : ∃ k, whirligiglaw16_ObjectsSorted.f k l = some true := by
  by_cases hl : l.length ≤ 300
  · obtain ⟨K, hK⟩ := outer_pure l (srt l) (by rw [srt_length]; omega) (srt_length l).symm (srt_stab l) (srt_sorted l) (srt l).length 0 (by omega)
    refine ⟨K, ?_⟩
    unfold whirligiglaw16_ObjectsSorted.f whirligiglaw16_shown.f
    simp only [Option.bind_some]
    rw [if_neg (by omega), order_some l (by omega)]
    simp only [Option.bind_some]
    rw [if_pos (by rw [srt_length])]
    exact hK K (Nat.le_refl _)
  · refine ⟨0, ?_⟩
    unfold whirligiglaw16_ObjectsSorted.f whirligiglaw16_shown.f
    simp only [Option.bind_some]
    rw [if_pos (by omega)]
end Go.Proofs.Ytgffjhbmggmcoaa.PF
