/- The walks of slices.Clone, slices.SortStableFunc and objects.Order: the result is a new row that holds the stable sort of what came in; condition: what came in reads as a list of objects. -/
import Derived.Test.YtgffjhbmggmcoaaGSortO
namespace Go.Proofs.Ytgffjhbmggmcoaa.PF
open Go.RowKit Go.Shelf Go.Lib Go.Sort Go.Proofs.Ytgffjhbmggmcoaa.SortD Go.Proofs.YtgffjhbmggmcoaaW.PrintWords
set_option linter.unusedVariables false
attribute [local go_sem ↓] loadVar_O storeVar_O

theorem C_none_nil {w : World} {n : Nat} {l : List S28} (h : Kd.C k28 w none n l) : l = [] ∧ n = 0 := by
  have h1 := h.1
  cases l with
  | nil => exact ⟨rfl, by simpa using h1.symm⟩
  | cons x l =>
    obtain ⟨ad, e, _⟩ := h.2.2 (by simp at h1; omega)
    cases e

theorem KM_O {w w' : World} {base : Nat} {ok : Nat → Prop} {x : S28} {cs : List Value} (h : k28.K w x cs) : k28.M w' base ok x cs := by
  have h2 := k28_open h
  subst h2
  exact k28_mkM _ _ _ _
set_option maxHeartbeats 1000000 in
/-- slices.Clone. -/
theorem clone_calls (A0 : Option Addr) (c0 : Nat) (l0 : List S28) (w : World) (hr0 : Kd.C k28 w A0 l0.length l0) (hc0 : l0.length ≤ c0) (hl : l0.length < 28147497671065) :
    Calls Try.prog 13 #[.slice A0 l0.length c0] w fun e w' => ∃ v0_ : Value, e = .returned v0_ ∧ Kd.R k28 28 w' w.heap.size (fun _ => True) v0_ l0 ∧ Below w.heap.size w w' := by
  have heq := fun (W : World) (n c : Nat) (a : Option Addr) => Lib.run_eql_slice_nil (P := Try.prog) W 22 28 a n c 0 0 Try.underlying22
  cases A0 with
  | none =>
    obtain ⟨rfl, _⟩ := C_none_nil hr0
    clear hr0 hl
    go_enter Try.func13, Try.ntmps13
    go_wp2
    go_ret
    exact ⟨_, rfl, Kd.R_nil _ _ _ _ _, Below.refl _ _⟩
  | some ad =>
    have HR0 := Aside0.mk hr0
    have HC0 := Aside0.mk hc0
    have HL := Aside0.mk hl
    have HB0 := Aside0.mk (Below.refl w.heap.size w)
    clear hr0 hc0 hl
    go_enter Try.func13, Try.ntmps13
    go_wp2_with (first | ((with_reducible refine gate_dst (N := 5) rfl ?_); refine Kd.R_lit k28 _ 28 ?hg (N := 5) ?hd (xs := ([] : List S28)) (inner := []) (ok := fun _ => True) (okp := fun _ => True) ?hr ?hp (fun _ hk => hk) trivial (Below.refl _ _) (Nat.le_refl _) (by simp) ?_; (case hd => rfl); (case hg => rfl); (case hr => first | (go_simp; done) | (go_simp; rfl)); (case hp => exact (Reps.none _ _)); intro v1 w1 ho1 hb1 hg1 hnew1; clear hg1 hnew1; have HO1 := Aside0.mk ho1; have HB1 := Aside0.mk hb1; clear ho1 hb1) | (at_builtin; refine Kd.R_append_rows k28 (w0 := w) w.heap.size rfl (.tmp 5) (.tmp 6) 22 28 (.agg #[(.int .u8 0), (.int .u8 0), (.int .u8 0), (.int .u8 0), (.int .u8 0)]) 5 rfl Try.underlying22 info28 rfl (by decide) (by omega) v1 [] l0 (some ad) l0.length c0 (fun _ => True) (fun _ => False) rfl rfl HO1.out ?aR (fun _ _ hx => KM_O (w := w1) hx) (fun _ h => h.elim) (fun _ _ => trivial) HB1.out HB1.out.size ?aL ?_; (case aR => exact Kd.C_below HR0.out HB1.out); (case aL => have := HL.out; simp; omega); intro v2 w2 ho2 hb2 hg2 hat2; have HO2 := Aside0.mk ho2; have HB2 := Aside0.mk hb2; clear ho2 hb2 hg2 hat2))
    go_ret
    exact ⟨_, rfl, by simpa using HO2.out, HB2.out⟩

/-- At the empty slice that is nil. -/
theorem insertion_nil (f : Value) (w : World) : Calls Try.prog 23 #[.slice none 0 0, .int .i64 0, .int .i64 0, f] w fun e w' => e = .returned (.tuple #[]) ∧ w = w' := by
  go_enter Try.func23, Try.ntmps23
  go_wp2
  refine wp_loop_rounds 1 ?_
  rw [rounds_succ]
  go_wp2
  go_end0
  exact ⟨rfl, rfl⟩
theorem stable_nil (f : Value) (w : World) : Calls Try.prog 21 #[.slice none 0 0, .int .i64 0, f] w fun e w' => e = .returned (.tuple #[]) ∧ w = w' := by
  go_enter Try.func21, Try.ntmps21
  go_wp2
  refine wp_loop_rounds 1 ?_
  rw [rounds_succ]
  go_wp2_with fail
  refine (insertion_nil _ _).mono ?_
  rintro e w' ⟨rfl, rfl⟩
  go_wp2
  refine wp_loop_rounds 1 ?_
  rw [rounds_succ]
  go_wp2
  go_end0
  exact ⟨rfl, rfl⟩

set_option maxHeartbeats 1000000 in
theorem sortStable_calls (cf : S28 → S28 → Int) (g : Nat) (cb : Array Value) (blk off cap : Nat) (d : Array S28) (w0 w : World)
    (eg : ∀ args w, (callFunc g args).run Try.prog w = .ok (.enter g args) w) (HC : CmpLays Try.prog g cb encO 5 cf blk off d.size w0)
    (R : RowK encO 5 w0 blk off d) (S : SWK encO 5 w0 blk off d w) (hsz : d.size < 1000000000000000000) :
    Calls Try.prog 14 #[.slice (some ⟨blk, off, none⟩) d.size cap, .func (.func g) #[] cb] w fun e w' => e = .returned (.tuple #[]) ∧ SWK encO 5 w0 blk off (stable (ltOf cf) d) w' := by
  have hc := stable_calls cf g cb blk off cap d w0 w eg HC R S hsz
  have HC2 : Hid _ := hc
  clear hc S R HC
  go_enter Try.func14, Try.ntmps14
  go_wp2_with fail
  refine Calls.mono HC2.out ?_
  rintro e w' ⟨rfl, S2⟩
  have S3 : Aside _ := S2
  clear S2
  go_wp2
  go_end0
  exact ⟨rfl, S3.out⟩
theorem sortStable_nil (f : Value) (w : World) : Calls Try.prog 14 #[.slice none 0 0, f] w fun e w' => e = .returned (.tuple #[]) ∧ w = w' := by
  go_enter Try.func14, Try.ntmps14
  go_wp2_with fail
  refine (stable_nil _ _).mono ?_
  rintro e w' ⟨rfl, rfl⟩
  go_wp2
  go_end0
  exact ⟨rfl, rfl⟩
/-! From a row of the call's own to the sort's world, and back. -/
theorem flat_at (d : Array S28) (j : Nat) (hj : j < d.size) : ((flatK encO 5 d).toList.drop (j * 5)).take 5 = encO d[j]! := by
  have hs : (flatK encO 5 d).toList.length = d.size * 5 := by simp
  apply List.ext_getElem?
  intro i
  rw [List.getElem?_take]
  by_cases hi : i < 5
  · rw [if_pos hi, List.getElem?_drop]
    have h1 : j * 5 + i < d.size * 5 := by omega
    have h2 := get_flatK encO 5 d (j * 5 + i) h1
    rw [show (j * 5 + i) / 5 = j by omega, show (j * 5 + i) % 5 = i by omega] at h2
    have h4 : j * 5 + i < (flatK encO 5 d).size := by simp; omega
    rw [Array.getElem?_toList, Array.getElem?_eq_getElem h4]
    rw [getElem!_pos (flatK encO 5 d) (j * 5 + i) h4] at h2
    have h3 : i < (encO d[j]!).length := hi
    rw [h2, getElem!_pos (encO d[j]!) i h3, List.getElem?_eq_getElem h3]
  · rw [if_neg hi, List.getElem?_eq_none (by rw [encO_len]; omega)]

theorem rowK_of_R {w : World} {base : Nat} {ok : Nat → Prop} {g cap : Nat} {xs : List S28} (h : Kd.R k28 28 w base ok (.slice (some ⟨g, 0, none⟩) xs.length cap) xs) :
    RowK encO 5 w g 0 xs.toArray := by
  obtain ⟨_, inner, ⟨hl, ho⟩, hr⟩ := h
  simp only [show k28.sz = 5 from rfl] at hl ho hr
  rcases ho with ⟨h1, _⟩ | ⟨g', cap', cur, he, hb, hh, hn, hm, hc, ht⟩
  · cases h1
  · obtain ⟨rfl, rfl⟩ : g' = g ∧ cap' = cap := by simpa using he.symm
    have hlt : g' < w.heap.size := (Array.getElem?_eq_some_iff.1 hh).1
    refine ⟨encO_len, encO_one, ?_, hlt⟩
    intro t ht2
    rw [size_flatK] at ht2
    simp only [List.size_toArray] at ht2
    have hj : t / 5 < xs.length := by omega
    have h2 := hr.2 (t / 5) xs[t / 5] (List.getElem?_eq_getElem hj)
    have h3 := k28_openM h2
    have h4 : xs.toArray[t / 5]! = xs[t / 5] := by rw [getElem!_pos xs.toArray (t / 5) (by simpa using hj)]; simp
    have h5 : (inner.drop (t / 5 * 5)).take 5 = encO xs[t / 5] := h3
    have h6 : t % 5 < (encO xs[t / 5]).length := by rw [encO_len]; omega
    have hcell : cur[t]? = some (flatK encO 5 xs.toArray)[t]! := by
      rw [get_flatK encO 5 xs.toArray t (by simpa using ht2), h4, getElem!_pos (encO xs[t / 5]) (t % 5) h6, ← List.getElem?_eq_getElem h6, ← h5, List.getElem?_take, if_pos (by omega), List.getElem?_drop, ← ht, List.getElem?_take, if_pos (by omega), Array.getElem?_toList]
      congr 1
      omega
    rw [Nat.zero_add]
    constructor
    · simp only [World.cell?, hh]
      exact hcell
    · simp [World.frozen?, hh]

theorem R_of_SWK {w w1 w' : World} {B base : Nat} {ok : Nat → Prop} {g cap : Nat} {xs : List S28} {d' : Array S28} (h : Kd.R k28 28 w1 base ok (.slice (some ⟨g, 0, none⟩) xs.length cap) xs)
    (hd : d'.size = xs.length) (S : SWK encO 5 w1 g 0 d' w') (hb : Below B w w1) (hB : B ≤ base) :
    Kd.R k28 28 w' base ok (.slice (some ⟨g, 0, none⟩) xs.length cap) d'.toList ∧ Below B w w' := by
  obtain ⟨h0, inner, ⟨hl, ho⟩, hr⟩ := h
  simp only [show k28.sz = 5 from rfl] at hl ho hr
  rcases ho with ⟨h1, _⟩ | ⟨g', cap', cur, he, hbg, hh, hn, hm, hc, ht⟩
  · cases h1
  · obtain ⟨rfl, rfl⟩ : g' = g ∧ cap' = cap := by simpa using he.symm
    have hlt : g' < w1.heap.size := (Array.getElem?_eq_some_iff.1 hh).1
    obtain ⟨n, os, rfl⟩ := S
    have hheap : ∀ k, k < w1.heap.size → (sortWorldK encO 5 w1 g' 0 n d' os).heap[k]? = (putRowK encO 5 (Sort.ahead w1 n) g' 0 d').heap[k]? := fun k hk => by
      unfold sortWorldK
      exact heap_grow_old _ _ (by show k < (putRow id _ g' 0 _).heap.size; rw [size_putRow]; exact hk)
    have hblk : (sortWorldK encO 5 w1 g' 0 n d' os).heap[g']? = some (.cells (putCells id 0 (flatK encO 5 d') cur) 28 (0, 0)) := by
      rw [hheap g' hlt]
      show ((w1.heap).modify g' (onCells (putCells id 0 (flatK encO 5 d'))))[g']? = _
      rw [Array.getElem?_modify, if_pos rfl, hh]
      rfl
    have hoth : ∀ k, k < w1.heap.size → k ≠ g' → (sortWorldK encO 5 w1 g' 0 n d' os).heap[k]? = w1.heap[k]? := fun k hk hne => by
      rw [hheap k hk]
      show ((w1.heap).modify g' (onCells (putCells id 0 (flatK encO 5 d'))))[k]? = _
      rw [Array.getElem?_modify, if_neg (fun e => hne e.symm)]
    have hput : (putCells id 0 (flatK encO 5 d') cur).toList.take (xs.length * 5) = (flatK encO 5 d').toList := by
      apply List.ext_getElem?
      intro i
      rw [List.getElem?_take]
      by_cases hi : i < xs.length * 5
      · rw [if_pos hi, Array.getElem?_toList, Array.getElem?_toList]
        have hi2 : i < cur.size := by omega
        have hi3 : i < (flatK encO 5 d').size := by rw [size_flatK, hd]; exact hi
        simp only [putCells]
        rw [Array.getElem?_mapIdx, Array.getElem?_eq_getElem hi2, Array.getElem?_eq_getElem hi3]
        simp only [Option.map_some]
        rw [if_pos ⟨Nat.zero_le _, by omega⟩]
        simp only [Nat.sub_zero, id]
        rw [getElem!_pos (flatK encO 5 d') i hi3]
      · rw [if_neg hi, List.getElem?_eq_none (by simp; omega)]
    refine ⟨⟨h0, (flatK encO 5 d').toList, ⟨by simp [show k28.sz = 5 from rfl], ?_⟩, ?_⟩, ?_⟩
    · refine Or.inr ⟨g', cap', _, by simp [hd], hbg, hblk, by simp [hd]; omega, hm, ?_, ?_⟩
      · show (putCells id 0 (flatK encO 5 d') cur).size = cap' * 5
        simp [putCells]; exact hc
      · rw [show d'.toList.length = xs.length by simpa using hd]; exact hput
    · refine ⟨by simp [show k28.sz = 5 from rfl], fun j p hj => ?_⟩
      have hj2 : j < d'.size := by
        have := (List.getElem?_eq_some_iff.1 hj).1
        simpa using this
      have hp : d'[j]! = p := by
        rw [getElem!_pos d' j hj2]
        have := (List.getElem?_eq_some_iff.1 hj).2
        simpa using this
      show k28.M _ _ _ p (((flatK encO 5 d').toList.drop (j * 5)).take 5)
      rw [flat_at d' j hj2, hp]
      exact k28_mkM _ _ _ p
    · refine ⟨hb.os, hb.tape, hb.output, ?_, fun k hk => ?_⟩
      · have := size_sortWorldK_c encO 5 w1 g' 0 n d' os
        have := hb.size
        omega
      · by_cases hk2 : k < w1.heap.size
        · rw [hoth k hk2 (by omega)]
          exact hb.block k hk
        · exact absurd hk2 (by omega)

/-- objects.Order. -/
def objects_Order.f (l : List S28) : Option (List S28) := if l.length < 28147497671065 then some (stable (ltOf cfO) l.toArray).toList else none

set_option maxHeartbeats 1000000 in
theorem objects_Order.calls (A0 : Option Addr) (c0 : Nat) (l0 : List S28) (r : List S28) (w : World) (hr0 : Kd.C k28 w A0 l0.length l0) (hc0 : l0.length ≤ c0) (h : objects_Order.f l0 = some r) :
    Calls Try.prog 7 #[.slice A0 l0.length c0] w fun e w' => ∃ v0_ : Value, e = .returned (v0_) ∧ Kd.R k28 28 w' w.heap.size (fun _ => True) v0_ r ∧ Below w.heap.size w w' := by
  unfold objects_Order.f at h
  split at h
  case isFalse => cases h
  case isTrue hl =>
    obtain rfl := Option.some.inj h
    have hcl := clone_calls A0 c0 l0 w hr0 hc0 hl
    have HCL : Hid _ := hcl
    have HL : Hid _ := hl
    have eg : ∀ args w, (callFunc 15 args).run Try.prog w = .ok (.enter 15 args) w := enters_of Try.func15 (by kernel_rfl) rfl
    have EG : Hid _ := eg
    clear hcl hr0 hc0 h hl eg
    go_enter Try.func7, Try.ntmps7
    go_wp2_with fail
    refine Calls.mono HCL.out ?_
    rintro e w1 ⟨v, rfl, hR, hb⟩
    have HR : Aside _ := hR
    have HB : Aside _ := hb
    rcases hR.2.choose_spec.1.2 with ⟨hv, hn⟩ | ⟨g, cap, cur, hv, hrest⟩
    · obtain rfl : l0 = [] := List.eq_nil_of_length_eq_zero hn
      clear hR hb
      subst hv
      go_wp2_with fail
      refine (sortStable_nil _ _).mono ?_
      rintro e w' ⟨rfl, rfl⟩
      go_wp2
      go_ret
      have hnil : (stable (ltOf cfO) ([] : List S28).toArray).toList = [] := List.eq_nil_of_length_eq_zero (by simp)
      exact ⟨_, rfl, by rw [hnil]; exact HR.out, HB.out⟩
    · subst hv
      have hk := rowK_of_R hR
      have hlen : l0.toArray.size = l0.length := by simp
      have hc := sortStable_calls cfO 15 #[] g 0 cap l0.toArray w1 w1 EG.out (cmpLaysO _ _ _ _) hk (SWK.start hk.hH) (by have := HL.out; simp; omega)
      rw [hlen] at hc
      have HC : Hid _ := hc
      clear hc hk hlen hrest hR hb EG
      go_wp2_with fail
      refine Calls.mono HC.out ?_
      rintro e w' ⟨rfl, S2⟩
      have S3 : Aside _ := S2
      clear S2
      go_wp2
      go_ret
      have hd : (stable (ltOf cfO) l0.toArray).size = l0.length := by rw [size_stable]; simp
      have := R_of_SWK HR.out hd S3.out HB.out (Nat.le_refl _)
      exact ⟨_, rfl, this.1, this.2⟩
end Go.Proofs.Ytgffjhbmggmcoaa.PF
