/- ListingAlls: for every list of texts the law answers true, and the list reads as before. Condition: the listed variables hold what the program's text lays (the card ties that). -/
import Derived.Test.YtpjbfpheenamiaaDoorCListingAlls
import Derived.Test.YtpjbfpheenamiaaDoorB29
import Derived.OpenShut
import Derived.ShutString
import Derived.ChangeOld
import Derived.Below
import Derived.SizedLaws
import Derived.SliceStrings
import Derived.Test.YtpjbfpheenamiaaDoorGWordsC
namespace Go.Proofs.YtpjbfpheenamiaaDoor.listingAlls
open Go.ChangeShapes Go.WideShapes Go.ChangeAt Go.RowKit Go.Proofs.YtpjbfpheenamiaaDoorW
open Go.ChangeMaps (open_string shut_string)
open Go.Proofs.YtpjbfpheenamiaaDoor.PF
set_option linter.unusedVariables false
theorem weight_in {H : Type} (P : Program) (e : TypeId) {l : List ByteArray} {s : ByteArray} (h : s ∈ l) : s.size ∈ DataW.weightsAll P e (strs (H := H) l) := by
  induction l with
  | nil => cases h
  | cons x r ih =>
    show s.size ∈ DataW.weights P e (DataW.lit (H := H) (.string x.data.toList)) ++ DataW.weightsAll P e (strs (H := H) r)
    rw [List.mem_append]
    rcases List.mem_cons.1 h with e | h
    · left
      show s.size ∈ [x.data.toList.length]
      rw [Array.length_toList, e]
      exact List.mem_singleton.2 rfl
    · exact .inr (ih h)
set_option maxRecDepth 100000 in
theorem reads (os : Os) {H : Type} (enc : TypeId × Value → H) : ∃ places, DataW.whole enc Tryd.prog ((door.world os).forCall (fun _ _ => 0) ⟨#[], #[.slice none 0 0], []⟩).memory Tryd.f8.params.toList Rows.listingAllsSpec.vars false (#[.slice none 0 0] : Array Value).toList 8 = some ([.nil], [], places) := ⟨[], by kernel_rfl⟩
set_option maxRecDepth 100000 in
theorem lifted (os : Os) (started : os.Started) (H : Type) (enc : TypeId × Value → H) (F : Stop.Interp) :
    ReturnsInHanded {} Tryd.checked os 8 .any ((OpenSpec.ofChange Rows.listingAllsSpec).preRow enc Tryd.prog Tryd.f8 Rows.listingAllsRow.domain false Rows.listingAllsRow.laid) (((OpenSpec.ofChange Rows.listingAllsSpec).at F).post enc Tryd.prog Tryd.f8 false true false false) := by
  obtain ⟨places, hx⟩ := reads os enc
  refine returnsInHanded_of_row (C := Tryd.checked) (s := (OpenSpec.ofChange Rows.listingAllsSpec)) door.own started (by kernel_rfl) Tryd.func8
    (door.witness (enc := enc) #[.slice none 0 0] (by kernel_rfl) (OpenSpec.preRow_of_cond 8 hx (by kernel_rfl) (fun k hk => by cases hk) (by kernel_rfl) (door.met os _))) ?_
  intro W base args ds gs before hval0 hW hcnd hcond hsz0 hL _ _
  have hsz : (DataW.weightsEach Tryd.prog (Tryd.f8.params.toList ++ Rows.listingAllsSpec.plain.varTypes Tryd.prog) (ds ++ gs)).all (· ≤ reachBytes) = true := hsz0
  have hval : ∀ (j : Nat) t v, Tryd.f8.params[j]? = some t → args[j]? = some v → Value.okWide Tryd.prog W .any base t v := hval0
  have hW' := hW
  obtain ⟨p, q, hA0, hV, rfl, hfz, hnd⟩ := hW
  have hA : DataW.TrodAll enc Tryd.prog W 0 (fun _ => true) true Tryd.f8.params.toList args.toList ds p := hA0
  rw [Tryd.params8] at hA hval hsz
  obtain ⟨v0, vs0, d0, ds0, p0, q0, hargs, rfl, rfl, h0, r0⟩ := trodAll_cons hA
  obtain ⟨rfl, rfl, rfl⟩ := trodAll_nil r0
  obtain rfl : args = #[v0] := by cases args; simp_all
  obtain ⟨rfl, rfl⟩ := trodVars_none hV
  obtain ⟨a0, len0, cap0, rfl⟩ := okWide_slice Tryd.underlying39 (hval 0 39 v0 rfl rfl)
  have k0 := h0
  have lt0 : ∀ x ∈ p0, x.block < W.heap.size := by obtain ⟨m, hm⟩ := k0; exact DataW.trod_lt m _ _ _ hm
  obtain ⟨L, eL, hr0, hc0, hm0, hz0⟩ : ∃ L : List ByteArray, len0 = L.length ∧ PrintWords.ReadsOf Value.string ByteArray.empty W a0 L.length L ∧ L.length ≤ cap0 ∧ L.length ≤ 9000000000000 ∧ ∀ s ∈ L, s.size ≤ 140737488351232 := by
    obtain ⟨fuel, hf⟩ := h0
    rcases open_strings Tryd.underlying39 Tryd.underlying9 (by kernel_rfl) hf with ⟨hcs, _⟩ | ⟨x, l, c, ss, hcs, _, hl, hm, hz, hd, hcell, _⟩
    · simp [Value.cells] at hcs
      obtain ⟨rfl, rfl, rfl⟩ := hcs
      exact ⟨[], rfl, ⟨rfl, by simp, fun h => absurd h (Nat.lt_irrefl 0)⟩, Nat.le_refl _, by simp, fun s hs => by cases hs⟩
    · simp [Value.cells] at hcs
      obtain ⟨rfl, rfl, rfl⟩ := hcs
      simp only [Prod.mk.injEq] at hd
      have hzz : ss.length = cap0 := by simpa using hz
      have e1 : (ss.take len0).length = len0 := by rw [List.length_take]; omega
      have hdd := hd.1
      subst hdd
      have hw := sized_slice hsz (j := 0) (t := 39) rfl rfl Tryd.underlying39
      rw [show Tryd.prog.bytesOf 9 = 16 by kernel_rfl] at hw
      have hR : reachBytes = 140737488351232 := by kernel_rfl
      have e2 : (strs (H := H) (ss.take len0)).length = len0 := by unfold strs; rw [List.length_map, e1]
      rw [e2, hR] at hw
      have hl2 : len0 ≤ 9000000000000 := by omega
      refine ⟨ss.take len0, e1.symm, ⟨rfl, by rw [e1]; omega, fun hp => ⟨x, rfl, fun j hj => ?_⟩⟩, by omega, by omega, fun s hs => ?_⟩
      · rw [e1] at hj
        rw [hcell j (by omega), List.getD_eq_getElem?_getD, List.getD_eq_getElem?_getD, List.getElem?_take_of_lt hj]
      · have := List.all_eq_true.1 hsz _ (DataW.weights_mem_each (j := 0) (t := 39) rfl rfl s.size (by
          simp only [DataW.weights, Tryd.underlying39]
          exact List.mem_cons_of_mem _ (List.mem_append_left _ (weight_in Tryd.prog 9 hs))))
        have h2 : s.size ≤ reachBytes := by simpa using this
        rw [hR] at h2
        exact h2
  clear hA0 hval0 hsz0 hsz hcond hL
  subst eL
  obtain ⟨k, hk⟩ := listingAlls_pure L hm0 hz0
  refine (whirligiglaw06_ListingAlls.calls k _ _ L true W (PrintWords.Kd.C_of_reads (d := ByteArray.empty) (h1 := fun _ => rfl) hr0) hc0 hk).mono fun e W' ⟨he, bel⟩ => ?_
  subst he
  exact ⟨_, rfl, _, _, _, [], _, [], hW', trodAll_mk1 (shut_bool Tryd.underlying4 _), (trodAll_cons_mk (Below.trod door.laidOut (by kernel_rfl) (of_decide_eq_true (by kernel_rfl)) k0 bel lt0) trodAll_mk0), rfl, bel.frame _, fun h => by cases h⟩
theorem said : Rows.ListingAllsSaid :=
  OpenClaim.holds_of_cond 8 Tryd.f8 rfl rfl rfl rfl rfl rfl rfl ⟨rfl, rfl, rfl, rfl, rfl⟩ rfl rfl rfl rfl rfl (by kernel_rfl) Tryd.func8 (by kernel_rfl)
    (of_decide_eq_true (by kernel_rfl)) (by unfold Func.isWrapper; first | (rw [if_pos (by decide +kernel)]; kernel_rfl) | (rw [if_neg (by decide +kernel)]; exact ⟨rfl, rfl⟩))
    (fun os started H enc _ F => by rw [OpenClaim.pre_eq_preRow]; exact lifted os started H enc F)
theorem plain (f : FuncId) (fn : Func) (hf : Tryd.pinned.checked.prog.funcNamed "whirligig/whirligiglaw06.ListingAlls" = some f) (hfn : Tryd.pinned.checked.prog.funcs[f]? = some fn) :
    false = Tryd.pinned.checked.prog.looks [] ∧ ∀ (j : Nat) t, fn.params[j]? = some t → Tryd.pinned.checked.prog.wantsStandIn t = false := by
  obtain rfl : f = 8 := Option.some.inj ((show Tryd.prog.funcNamed "whirligig/whirligiglaw06.ListingAlls" = some 8 by kernel_rfl).symm.trans hf) |>.symm
  obtain rfl : fn = Tryd.f8 := (Option.some.inj (Tryd.func8.symm.trans hfn)).symm
  refine ⟨by kernel_rfl, fun j t ht => ?_⟩
  rw [Tryd.params8] at ht
  have hm : t ∈ [39] := by simpa using Array.mem_of_getElem? ht
  have hall : ([39].all fun u => !Tryd.prog.wantsStandIn u) = true := by kernel_rfl
  exact (show Tryd.prog.wantsStandIn t = false by simpa using List.all_eq_true.1 hall t hm)
theorem card : Rows.ListingAllsCardSaid :=
  Claim7.holds_tied_plain_at .later [] _ _ _ _ said (fun _ h => by cases h) (by kernel_rfl) (fun _ h => by cases h) listingAlls_row_tie rfl ⟨rfl, rfl⟩ (by kernel_rfl) rfl plain (by kernel_rfl)
#print axioms card
end Go.Proofs.YtpjbfpheenamiaaDoor.listingAlls
namespace Go.Proofs.YtpjbfpheenamiaaDoor
/-- The card, under a short name, for the claim. -/
theorem listingAlls_holds : Rows.ListingAllsCardSaid := listingAlls.card
end Go.Proofs.YtpjbfpheenamiaaDoor
