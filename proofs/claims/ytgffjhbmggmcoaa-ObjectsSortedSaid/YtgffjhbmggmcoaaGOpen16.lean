/- A list of objects that came in, opened to the print's reading. Condition: it reads as data. -/
import Derived.Test.YtgffjhbmggmcoaaPF0
import Derived.WalkKit
import Derived.ProofKit
import Derived.OpenShut
import Derived.ShutString
import Derived.ChangeOld
import Derived.Below
import Derived.SizedLaws
import Derived.Deep.Slices
import Derived.Deep.Fields
import Derived.ChangeSame
namespace Go.Proofs.Ytgffjhbmggmcoaa.PF
open Go.ChangeShapes Go.WideShapes Go.Deep Go.RowKit Go.Proofs.YtgffjhbmggmcoaaW.PrintWords
set_option linter.unusedVariables false
section
variable {H : Type} {enc : TypeId × Value → H} {P : Program} {w : World} {base : Nat} {spare : Nat → Bool} {held : Bool}
theorem open_slice_fields {t e : TypeId} {fs : Array Field} {fuel : Nat} {cs : List Value} {x : DataW H × List MemPlace} (ht : P.underlying t = some (.slice e)) (he : P.underlying e = some (.struct fs))
    (hone : oneCellFields P fs = true) (hC : P.cellsOf e = fs.size) (h : DataW.trod enc P w base spare held fuel t cs = some x) :
    (cs = [.slice none 0 0] ∧ x = (.nil, [])) ∨
    ∃ (a : Addr) (len cap m : Nat) (D : Nat → DataW H) (Pl : Nat → List MemPlace), cs = [.slice (some a) len cap] ∧ base ≤ a.block ∧ len ≤ cap ∧ cap ≤ maxLen ∧ m = (if spare a.block then cap else len) ∧
      x = (.slice ((List.range len).map D) ((List.range (m - len)).map fun j => D (len + j)), MemPlace.row a (m * fs.size) ++ (List.range m).flatMap Pl) ∧
      ∀ i, i < m → ∃ (ys : List (DataW H × List MemPlace)) (n : Nat), D i = .agg (ys.map (·.1)) ∧ Pl i = ys.flatMap (·.2) ∧ ys.length = fs.size ∧
        ∀ (j : Nat) (f : Field), fs[j]? = some f → ∃ (v : Value) (y : DataW H × List MemPlace), w.cell? (a.add (i * fs.size + j)) = some v ∧ ys[j]? = some y ∧ DataW.trod enc P w base spare held n f.type [v] = some y := by
  rcases open_slice ht h with h0 | ⟨a, len, cap, m, n, D, Pl, hcs, hb, hl, hm, hmm, hx, hi⟩
  · exact .inl h0
  · refine .inr ⟨a, len, cap, m, D, Pl, hcs, hb, hl, hm, hmm, by rw [hC] at hx; exact hx, fun i him => ?_⟩
    obtain ⟨cs', hc, ht'⟩ := hi i him
    rw [hC] at hc
    obtain ⟨ys, n', hn', hy, hlen, hyl, hf⟩ := DataW.trod_struct he ht'
    obtain ⟨_, hcl, hat⟩ := World.cells?_some hc
    simp only [Prod.mk.injEq] at hy
    refine ⟨ys, n', hy.1, hy.2, hyl, fun j f hj => ?_⟩
    obtain ⟨ho, hk⟩ := hone_of hone j f hj
    have hjl : j < fs.size := (Array.getElem?_eq_some_iff.1 hj).1
    have hcell := hat j hjl
    have hv : cs'[j]? = some (cs'[j]'(by omega)) := List.getElem?_eq_getElem (by omega)
    have h1 := hf j f hj
    rw [ho, hk] at h1
    have hone' : (cs'.drop j).take 1 = [cs'[j]'(by omega)] := by
      rw [List.drop_eq_getElem_cons (by omega)]
      rfl
    rw [hone'] at h1
    have hys : ys[j]? = some (ys[j]'(by omega)) := List.getElem?_eq_getElem (by omega)
    refine ⟨_, _, ?_, hys, h1.trans hys⟩
    rw [← Go.Deep.add_add, hcell, hv]
end

theorem isObj : ∃ fs, Try.prog.underlying 28 = some (.struct fs) ∧ fs.size = 5 ∧ oneCellFields Try.prog fs = true ∧ ∀ (j : Nat) (f : Field), fs[j]? = some f → f.type = 5 := by
  refine ⟨_, Try.underlying28, rfl, by kernel_rfl, fun j f hj => ?_⟩
  rcases j with _ | _ | _ | _ | _ | j
  · simp at hj; rw [← hj]
  · simp at hj; rw [← hj]
  · simp at hj; rw [← hj]
  · simp at hj; rw [← hj]
  · simp at hj; rw [← hj]
  · simp at hj
theorem objs_of_trod {H : Type} {enc : TypeId × Value → H} {W : World} {d : DataW H} {p : List MemPlace} {a : Option Addr} {len cap : Nat} (h : DataW.Trod enc Try.prog W 0 (fun _ => true) true 22 (.slice a len cap) d p) :
    ∃ l : List S28, l.length ≤ cap ∧ Kd.C k28 W a len l := by
  obtain ⟨fuel, hf⟩ := h
  obtain ⟨fs, hs, hfs, hone, hty⟩ := isObj
  rcases open_slice_fields Try.underlying22 hs hone (by rw [hfs]; kernel_rfl) hf with ⟨hcs, _⟩ | ⟨ad, l, c, m, D, Pl, hcs, _, hl, hm, hmm, _, hi⟩
  · simp [Value.cells] at hcs
    obtain ⟨rfl, rfl, rfl⟩ := hcs
    exact ⟨[], by simp, rfl, by omega, fun h => by omega⟩
  · simp [Value.cells] at hcs
    obtain ⟨rfl, rfl, rfl⟩ := hcs
    have hlm : len ≤ m := by rw [hmm]; split <;> omega
    have hint : ∀ i j, i < len → j < 5 → ∃ n : Int, W.cell? (ad.add (i * 5 + j)) = some (Value.int .u8 n) := fun i j h1 h2 => by
      obtain ⟨ys, n, _, _, hyl, hf⟩ := hi i (by omega)
      have hj : fs[j]? = some (fs[j]'(by omega)) := Array.getElem?_eq_getElem (by omega)
      obtain ⟨v, y, hc, _, ht⟩ := hf j _ hj
      rw [hty j _ hj] at ht
      obtain ⟨x, e0, _, _⟩ := DataW.trod_int Try.underlying5 ht
      simp at e0
      rw [hfs] at hc
      exact ⟨x, by rw [hc, e0]⟩
    let g : Nat → Nat → Int := fun i j => if h : i < len ∧ j < 5 then (hint i j h.1 h.2).choose else 0
    have hg : ∀ i j, i < len → j < 5 → W.cell? (ad.add (i * 5 + j)) = some (Value.int .u8 (g i j)) := fun i j h1 h2 => by
      have := (hint i j h1 h2).choose_spec
      show _ = some (Value.int .u8 (if h : i < len ∧ j < 5 then (hint i j h.1 h.2).choose else 0))
      rw [dif_pos ⟨h1, h2⟩]
      exact this
    refine ⟨(List.range len).map fun i => ⟨g i 0, g i 1, g i 2, g i 3, g i 4⟩, by simp; omega, by simp, ?_, fun _ => ⟨ad, rfl, fun j p hj => ?_⟩⟩
    · have : maxLen ≤ 9223372036854775807 := by unfold maxLen; omega
      omega
    · obtain ⟨hjl, e⟩ := List.getElem?_eq_some_iff.1 hj
      have hj2 : j < len := by simpa using hjl
      have hp : p = ⟨g j 0, g j 1, g j 2, g j 3, g j 4⟩ := by rw [← e]; simp
      subst hp
      refine ⟨_, rfl, k28_mk _ _, fun q u hq => ?_⟩
      rcases q with _ | _ | _ | _ | _ | q
      · simp at hq; rw [← hq]; exact hg j 0 hj2 (by omega)
      · simp at hq; rw [← hq]; exact hg j 1 hj2 (by omega)
      · simp at hq; rw [← hq]; exact hg j 2 hj2 (by omega)
      · simp at hq; rw [← hq]; exact hg j 3 hj2 (by omega)
      · simp at hq; rw [← hq]; exact hg j 4 hj2 (by omega)
      · simp at hq
end Go.Proofs.Ytgffjhbmggmcoaa.PF
