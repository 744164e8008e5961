/- Texts of this claim, put together: GAsmA. -/
import Derived.Test.YtpjbfpheenamiaaDoorB12
import Derived.Test.YtpjbfpheenamiaaDoorB13
/- listing.Assemble's ways, first half. -/
namespace Go.Proofs.YtpjbfpheenamiaaDoor.PF
open Go.RowKit Go.WideMaps Go.Maps Go.Proofs.YtpjbfpheenamiaaDoorW.PrintWords Go.Proofs.YtpjbfpheenamiaaDoorW.PrintLast Go.Proofs.YtpjbfpheenamiaaDoorW.PrintMore
set_option linter.unusedVariables false
set_option linter.unusedSimpArgs false
theorem bookAt_lt {n : Nat} {s : ByteArray} {op : Int} (h : bookAt n s = some op) : 0 ≤ op ∧ op < n := by
  induction n with
  | zero => cases h
  | succ n ih =>
    unfold bookAt at h
    split at h
    · obtain rfl := Option.some.inj h; omega
    · have := ih h; omega
theorem lookup_none {w : World} {ops : Array Oper} {rest : List Oper} {o : Oper} {a : Act} {Q : Exit → Act → World → Prop} (hg : o.guard = none) (m x : Operand) (hop : o.op = Op.lookup 54 m x true) (b : Nat)
    (hm : a.eval m = .map (some b)) (hown : w.ownsMap Tryd.prog 9 (plainElem (H := Unit) Tryd.prog 3) b 512 (bookD 512)) (s : ByteArray) (hx : a.eval x = .string s) (hs : s.size ≤ 140737488355328) (hr : bookAt 512 s = none)
    (hK : wpList Tryd.prog ops Q rest (a.put o.dst (.tuple #[.int .i64 0, .bool false])) w) : wpList Tryd.prog ops Q (o :: rest) a w := by
  refine wpList_lookup_own_ok_int w hg m x 54 hop 9 3 .i64 book_law Tryd.underlying54 Tryd.underlying3 (book_zero w) b 512 (bookD 512) hm hown (.string s) (.string s.data.toList) hx (keyOf_string_mk Tryd.underlying9 (by unfold maxLen; omega)) ?_
  intro c hat hwc
  obtain ⟨h1, h2⟩ := bookD_reads 512 s
  rw [h2, hr] at hat
  rw [h1, hr]
  have e : (0 : Int) = c := by simpa using hat
  rw [← e]
  exact hK
theorem lookup_some {w : World} {ops : Array Oper} {rest : List Oper} {o : Oper} {a : Act} {Q : Exit → Act → World → Prop} (hg : o.guard = none) (m x : Operand) (hop : o.op = Op.lookup 54 m x true) (b : Nat)
    (hm : a.eval m = .map (some b)) (hown : w.ownsMap Tryd.prog 9 (plainElem (H := Unit) Tryd.prog 3) b 512 (bookD 512)) (s : ByteArray) (hx : a.eval x = .string s) (hs : s.size ≤ 140737488355328) (op : Int) (hr : bookAt 512 s = some op)
    (hK : wpList Tryd.prog ops Q rest (a.put o.dst (.tuple #[.int .i64 op, .bool true])) w) : wpList Tryd.prog ops Q (o :: rest) a w := by
  refine wpList_lookup_own_ok_int w hg m x 54 hop 9 3 .i64 book_law Tryd.underlying54 Tryd.underlying3 (book_zero w) b 512 (bookD 512) hm hown (.string s) (.string s.data.toList) hx (keyOf_string_mk Tryd.underlying9 (by unfold maxLen; omega)) ?_
  intro c hat hwc
  obtain ⟨h1, h2⟩ := bookD_reads 512 s
  rw [h2, hr] at hat
  rw [h1, hr]
  have e : op = c := by simpa using hat
  rw [← e]
  exact hK
def AsmPost (w : World) (r1 : List Int) (r2 : Int) (e : Ending) (w' : World) : Prop := ∃ v0_ : Value, e = .returned (.tuple #[v0_, .int .i64 r2]) ∧ Kd.R (Kd.int .u8) 5 w' w.heap.size (fun _ => True) v0_ r1 ∧ Below w.heap.size w w'
set_option maxHeartbeats 4000000 in
set_option maxRecDepth 100000 in
theorem asm_cb (a0 : ByteArray) (hs0 : a0.size ≤ 140737488355328) (op f0 f1 f2 f3 f4 f5 : Int) (h0 : bookAt 512 a0 = some op) (hf : listing_form.f 9 (op % 256) (decide (255 < op)) = some (f0, f1, f2, f3, f4, f5)) (h1 : 255 < op) (w : World) : Calls Tryd.prog 15 #[.string a0] w (AsmPost w [203, op % 256] 0) := by
  have hu46 := Tryd.underlying46
  have Z0 := Aside0.mk hs0
  clear hs0
  have H0 := Aside0.mk h0
  obtain ⟨l0, l1⟩ := bookAt_lt h0
  have l2 : op < 512 := l1
  have HF := Aside0.mk hf
  clear h0 hf l1
  have hfc : ∀ (x : Int) (b : Bool) (W : World), x = op % 256 → b = decide (255 < op) → Calls Tryd.prog 23 #[.int .u8 x, .bool b] W fun e w' => e = .returned (.agg #[.int .i64 f0, .int .i64 f1, .int .i64 f2, .int .i64 f3, .int .i64 f4, .int .i64 f5]) ∧ Below W.heap.size W w' := by
    intro x b W hx hb
    subst hx; subst hb
    exact listing_form.calls _ _ _ _ _ _ _ _ _ _ HF.out
  have e1 : decide (255 < op) = true := decide_eq_true h1
  go_enter Tryd.func15, Tryd.ntmps15
  go_wp2_with (first
    | (go_at_call 33; refine (book_calls _).mono ?_; rintro e w1 ⟨rfl, ho, hb⟩; have OW1 := Aside0.mk ho; have BW1 := Aside0.mk hb; clear ho hb)
    | ((with_reducible refine gate_dst (N := 24) rfl ?_); refine lookup_some rfl _ _ rfl _ rfl OW1.out a0 rfl Z0.out op H0.out ?_)
    | (go_at_call 23; refine (hfc _ _ _ (by first | rfl | (simp [IntKind.wrap_u8]; done) | omega) (by first | rfl | exact e1.symm | simp [*])).mono ?_; rintro e w2 ⟨rfl, hb⟩; have BW2 := Aside0.mk (BW1.out.trans (hb.mono BW1.out.size)); clear hb hfc)
    | ((with_reducible refine gate_dst (N := 7) rfl ?_); refine box_event ?hg (N := 7) ?hd (cs := #[.int .i64 0, .int .i64 0, .int .i64 0, .int .i64 0, .int .i64 0, .int .i64 0]) (t := 46) ?hr ?_; (case hd => rfl); (case hg => rfl); (case hr => first | (go_simp; done) | (go_simp; rfl)); intro g hg w3 hbox hb; have BK := Aside0.mk hbox; have GE := Aside0.mk (hg ▸ BW2.out.size : w.heap.size ≤ g); have BW3 := Aside0.mk (BW2.out.trans (hb.mono BW2.out.size)); clear hg hbox hb; have cz0 : w3.cell? ⟨g, 0, none⟩ = some (.int .i64 0) := (blk_cell BK.out 0).trans rfl; have cz1 : w3.cell? ⟨g, 1, none⟩ = some (.int .i64 0) := (blk_cell BK.out 1).trans rfl; have cz2 : w3.cell? ⟨g, 2, none⟩ = some (.int .i64 0) := (blk_cell BK.out 2).trans rfl; have cz3 : w3.cell? ⟨g, 3, none⟩ = some (.int .i64 0) := (blk_cell BK.out 3).trans rfl; have cz4 : w3.cell? ⟨g, 4, none⟩ = some (.int .i64 0) := (blk_cell BK.out 4).trans rfl; have cz5 : w3.cell? ⟨g, 5, none⟩ = some (.int .i64 0) := (blk_cell BK.out 5).trans rfl; have cf0 := blk_frozen BK.out 0; have cf1 := blk_frozen BK.out 1; have cf2 := blk_frozen BK.out 2; have cf3 := blk_frozen BK.out 3; have cf4 := blk_frozen BK.out 4; have cf5 := blk_frozen BK.out 5)
    | ((with_reducible refine gate_dst (N := 38) rfl ?_); refine Kd.R_lit (Kd.int .u8) _ 5 ?hg (N := 38) ?hd (xs := ([203, op % 256] : List Int)) (inner := [.int .u8 203, .int .u8 (op % 256)]) (ok := fun _ => True) (okp := fun _ => True) ?hr ?hp (fun _ hk => hk) trivial (Below.refl _ _) (Nat.le_refl _) (by simp) ?_; (case hd => rfl); (case hg => rfl); (case hr => first | (go_simp; done) | (go_simp; rfl)); (case hp => exact (Reps.one (show Kd.M (Kd.int .u8) _ _ _ 203 [.int .u8 203] from rfl) (Reps.one (show Kd.M (Kd.int .u8) _ _ _ (op % 256) [.int .u8 (op % 256)] from rfl) (Reps.none _ _)))); intro vR wR hoR hbR hgR hnR; have RR := Aside0.mk (Kd.R_lower hoR (Below.size (by with_reducible repeat (first | exact BW3.out | refine below_set ?_ GE.out)))); have BR := Aside0.mk (Below.trans (by with_reducible repeat (first | exact BW3.out | refine below_set ?_ GE.out)) (hbR.mono (Below.size (by with_reducible repeat (first | exact BW3.out | refine below_set ?_ GE.out))))); clear hgR hnR hoR hbR))
  go_ret2
  exact ⟨_, rfl, Kd.R_mono RR.out (fun _ hk => trivial), BR.out⟩
set_option maxHeartbeats 4000000 in
set_option maxRecDepth 100000 in
theorem asm_one (a0 : ByteArray) (hs0 : a0.size ≤ 140737488355328) (op f0 f1 f2 f3 f4 f5 : Int) (h0 : bookAt 512 a0 = some op) (hf : listing_form.f 9 (op % 256) (decide (255 < op)) = some (f0, f1, f2, f3, f4, f5)) (h1 : op ≤ 255) (h3 : f3 = 1) (w : World) : Calls Tryd.prog 15 #[.string a0] w (AsmPost w [op] 0) := by
  have hu46 := Tryd.underlying46
  have Z0 := Aside0.mk hs0
  clear hs0
  have H0 := Aside0.mk h0
  obtain ⟨l0, l1⟩ := bookAt_lt h0
  have l2 : op < 512 := l1
  have HF := Aside0.mk hf
  clear h0 hf l1
  have hfc : ∀ (x : Int) (b : Bool) (W : World), x = op % 256 → b = decide (255 < op) → Calls Tryd.prog 23 #[.int .u8 x, .bool b] W fun e w' => e = .returned (.agg #[.int .i64 f0, .int .i64 f1, .int .i64 f2, .int .i64 f3, .int .i64 f4, .int .i64 f5]) ∧ Below W.heap.size W w' := by
    intro x b W hx hb
    subst hx; subst hb
    exact listing_form.calls _ _ _ _ _ _ _ _ _ _ HF.out
  have e1 : decide (255 < op) = false := decide_eq_false (by omega)
  have e3 : (f3 == 1) = true := beq_iff_eq.mpr h3
  clear h3
  go_enter Tryd.func15, Tryd.ntmps15
  go_wp2_with (first
    | (go_at_call 33; refine (book_calls _).mono ?_; rintro e w1 ⟨rfl, ho, hb⟩; have OW1 := Aside0.mk ho; have BW1 := Aside0.mk hb; clear ho hb)
    | ((with_reducible refine gate_dst (N := 24) rfl ?_); refine lookup_some rfl _ _ rfl _ rfl OW1.out a0 rfl Z0.out op H0.out ?_)
    | (go_at_call 23; refine (hfc _ _ _ (by first | rfl | (simp [IntKind.wrap_u8]; done) | omega) (by first | rfl | exact e1.symm | simp [*])).mono ?_; rintro e w2 ⟨rfl, hb⟩; have BW2 := Aside0.mk (BW1.out.trans (hb.mono BW1.out.size)); clear hb hfc)
    | ((with_reducible refine gate_dst (N := 7) rfl ?_); refine box_event ?hg (N := 7) ?hd (cs := #[.int .i64 0, .int .i64 0, .int .i64 0, .int .i64 0, .int .i64 0, .int .i64 0]) (t := 46) ?hr ?_; (case hd => rfl); (case hg => rfl); (case hr => first | (go_simp; done) | (go_simp; rfl)); intro g hg w3 hbox hb; have BK := Aside0.mk hbox; have GE := Aside0.mk (hg ▸ BW2.out.size : w.heap.size ≤ g); have BW3 := Aside0.mk (BW2.out.trans (hb.mono BW2.out.size)); clear hg hbox hb; have cz0 : w3.cell? ⟨g, 0, none⟩ = some (.int .i64 0) := (blk_cell BK.out 0).trans rfl; have cz1 : w3.cell? ⟨g, 1, none⟩ = some (.int .i64 0) := (blk_cell BK.out 1).trans rfl; have cz2 : w3.cell? ⟨g, 2, none⟩ = some (.int .i64 0) := (blk_cell BK.out 2).trans rfl; have cz3 : w3.cell? ⟨g, 3, none⟩ = some (.int .i64 0) := (blk_cell BK.out 3).trans rfl; have cz4 : w3.cell? ⟨g, 4, none⟩ = some (.int .i64 0) := (blk_cell BK.out 4).trans rfl; have cz5 : w3.cell? ⟨g, 5, none⟩ = some (.int .i64 0) := (blk_cell BK.out 5).trans rfl; have cf0 := blk_frozen BK.out 0; have cf1 := blk_frozen BK.out 1; have cf2 := blk_frozen BK.out 2; have cf3 := blk_frozen BK.out 3; have cf4 := blk_frozen BK.out 4; have cf5 := blk_frozen BK.out 5)
    | ((with_reducible refine gate_dst (N := 45) rfl ?_); refine Kd.R_lit (Kd.int .u8) _ 5 ?hg (N := 45) ?hd (xs := ([op] : List Int)) (inner := [.int .u8 op]) (ok := fun _ => True) (okp := fun _ => True) ?hr ?hp (fun _ hk => hk) trivial (Below.refl _ _) (Nat.le_refl _) (by simp) ?_; (case hd => rfl); (case hg => rfl); (case hr => first | (go_simp; done) | (go_simp; rfl)); (case hp => exact (Reps.one (show Kd.M (Kd.int .u8) _ _ _ op [.int .u8 op] from rfl) (Reps.none _ _))); intro vR wR hoR hbR hgR hnR; have RR := Aside0.mk (Kd.R_lower hoR (Below.size (by with_reducible repeat (first | exact BW3.out | refine below_set ?_ GE.out)))); have BR := Aside0.mk (Below.trans (by with_reducible repeat (first | exact BW3.out | refine below_set ?_ GE.out)) (hbR.mono (Below.size (by with_reducible repeat (first | exact BW3.out | refine below_set ?_ GE.out))))); clear hgR hnR hoR hbR))
  go_ret2
  exact ⟨_, rfl, Kd.R_mono RR.out (fun _ hk => trivial), BR.out⟩
set_option maxHeartbeats 4000000 in
set_option maxRecDepth 100000 in
theorem asm_more (a0 : ByteArray) (hs0 : a0.size ≤ 140737488355328) (op f0 f1 f2 f3 f4 f5 : Int) (h0 : bookAt 512 a0 = some op) (hf : listing_form.f 9 (op % 256) (decide (255 < op)) = some (f0, f1, f2, f3, f4, f5)) (h1 : op ≤ 255) (h3 : f3 ≠ 1) (w : World) : Calls Tryd.prog 15 #[.string a0] w (AsmPost w [] 6) := by
  have hu46 := Tryd.underlying46
  have Z0 := Aside0.mk hs0
  clear hs0
  have H0 := Aside0.mk h0
  obtain ⟨l0, l1⟩ := bookAt_lt h0
  have l2 : op < 512 := l1
  have HF := Aside0.mk hf
  clear h0 hf l1
  have hfc : ∀ (x : Int) (b : Bool) (W : World), x = op % 256 → b = decide (255 < op) → Calls Tryd.prog 23 #[.int .u8 x, .bool b] W fun e w' => e = .returned (.agg #[.int .i64 f0, .int .i64 f1, .int .i64 f2, .int .i64 f3, .int .i64 f4, .int .i64 f5]) ∧ Below W.heap.size W w' := by
    intro x b W hx hb
    subst hx; subst hb
    exact listing_form.calls _ _ _ _ _ _ _ _ _ _ HF.out
  have e1 : decide (255 < op) = false := decide_eq_false (by omega)
  have e3 : (f3 == 1) = false := beq_eq_false_iff_ne.mpr h3
  clear h3
  go_enter Tryd.func15, Tryd.ntmps15
  go_wp2_with (first
    | (go_at_call 33; refine (book_calls _).mono ?_; rintro e w1 ⟨rfl, ho, hb⟩; have OW1 := Aside0.mk ho; have BW1 := Aside0.mk hb; clear ho hb)
    | ((with_reducible refine gate_dst (N := 24) rfl ?_); refine lookup_some rfl _ _ rfl _ rfl OW1.out a0 rfl Z0.out op H0.out ?_)
    | (go_at_call 23; refine (hfc _ _ _ (by first | rfl | (simp [IntKind.wrap_u8]; done) | omega) (by first | rfl | exact e1.symm | simp [*])).mono ?_; rintro e w2 ⟨rfl, hb⟩; have BW2 := Aside0.mk (BW1.out.trans (hb.mono BW1.out.size)); clear hb hfc)
    | ((with_reducible refine gate_dst (N := 7) rfl ?_); refine box_event ?hg (N := 7) ?hd (cs := #[.int .i64 0, .int .i64 0, .int .i64 0, .int .i64 0, .int .i64 0, .int .i64 0]) (t := 46) ?hr ?_; (case hd => rfl); (case hg => rfl); (case hr => first | (go_simp; done) | (go_simp; rfl)); intro g hg w3 hbox hb; have BK := Aside0.mk hbox; have GE := Aside0.mk (hg ▸ BW2.out.size : w.heap.size ≤ g); have BW3 := Aside0.mk (BW2.out.trans (hb.mono BW2.out.size)); clear hg hbox hb; have cz0 : w3.cell? ⟨g, 0, none⟩ = some (.int .i64 0) := (blk_cell BK.out 0).trans rfl; have cz1 : w3.cell? ⟨g, 1, none⟩ = some (.int .i64 0) := (blk_cell BK.out 1).trans rfl; have cz2 : w3.cell? ⟨g, 2, none⟩ = some (.int .i64 0) := (blk_cell BK.out 2).trans rfl; have cz3 : w3.cell? ⟨g, 3, none⟩ = some (.int .i64 0) := (blk_cell BK.out 3).trans rfl; have cz4 : w3.cell? ⟨g, 4, none⟩ = some (.int .i64 0) := (blk_cell BK.out 4).trans rfl; have cz5 : w3.cell? ⟨g, 5, none⟩ = some (.int .i64 0) := (blk_cell BK.out 5).trans rfl; have cf0 := blk_frozen BK.out 0; have cf1 := blk_frozen BK.out 1; have cf2 := blk_frozen BK.out 2; have cf3 := blk_frozen BK.out 3; have cf4 := blk_frozen BK.out 4; have cf5 := blk_frozen BK.out 5))
  go_ret2
  exact ⟨_, rfl, Kd.R_nil _ _ _ _ _, (by with_reducible repeat (first | exact BW3.out | refine below_set ?_ GE.out))⟩
set_option maxHeartbeats 4000000 in
set_option maxRecDepth 100000 in
theorem asm_word (a0 : ByteArray) (hs0 : a0.size ≤ 140737488355328) (h0 : bookAt 512 a0 = none) (t4 : ByteArray) (n4 : Int) (hb4 : listing_bare.f 9 a0 4 ⟨#[119]⟩ = some (t4, n4, true)) (hs4 : t4.size ≤ 140737488355328) (op4 : Int) (h4 : bookAt 512 t4 = some op4) (g4 : op4 < 256) (w : World) : Calls Tryd.prog 15 #[.string a0] w (AsmPost w [op4 % 256, n4 % 256, n4 / 256 % 256] 0) := by
  have hu46 := Tryd.underlying46
  have Z0 := Aside0.mk hs0
  clear hs0
  have H0 := Aside0.mk h0
  clear h0
  have B4 := Aside0.mk hb4
  clear hb4
  have Z4 := Aside0.mk hs4
  clear hs4
  have H4 := Aside0.mk h4
  clear h4
  have e4 : decide (op4 < 256) = true := decide_eq_true g4
  go_enter Tryd.func15, Tryd.ntmps15
  go_wp2_with (first
    | (go_at_call 33; refine (book_calls _).mono ?_; rintro e w1 ⟨rfl, ho, hb⟩; have OW1 := Aside0.mk ho; have BW1 := Aside0.mk hb; clear ho hb)
    | ((with_reducible refine gate_dst (N := 24) rfl ?_); refine lookup_none rfl _ _ rfl _ rfl OW1.out a0 rfl Z0.out H0.out ?_)
    | (go_at_call 34; (with_reducible refine (listing_bare.calls 9 a0 4 ⟨#[119]⟩ _ _ _ _ B4.out).mono ?_); rintro e w2 ⟨rfl, hb⟩; have OW2 := Aside0.mk (ownsMap_below OW1.out hb); have BW2 := Aside0.mk (BW1.out.trans (hb.mono BW1.out.size)); clear hb)
    | ((with_reducible refine gate_dst (N := 56) rfl ?_); refine lookup_some rfl _ _ rfl _ rfl OW2.out t4 rfl Z4.out op4 H4.out ?_)
    | (go_at_call 35; refine (word_Split.calls n4 _ _ _ rfl).mono ?_; rintro e w3 ⟨rfl, ⟨nd, rfl⟩⟩; have BW3 := Aside0.mk (pw_below_drewN BW2.out nd))
    | ((with_reducible refine gate_dst (N := 73) rfl ?_); refine Kd.R_lit (Kd.int .u8) _ 5 ?hg (N := 73) ?hd (xs := ([op4 % 256, n4 % 256, n4 / 256 % 256] : List Int)) (inner := [.int .u8 (op4 % 256), .int .u8 (n4 % 256), .int .u8 (n4 / 256 % 256)]) (ok := fun _ => True) (okp := fun _ => True) ?hr ?hp (fun _ hk => hk) trivial (Below.refl _ _) (Nat.le_refl _) (by simp) ?_; (case hd => rfl); (case hg => rfl); (case hr => first | (go_simp; done) | (go_simp; rfl)); (case hp => exact (Reps.one (show Kd.M (Kd.int .u8) _ _ _ (op4 % 256) [.int .u8 (op4 % 256)] from rfl) (Reps.one (show Kd.M (Kd.int .u8) _ _ _ (n4 % 256) [.int .u8 (n4 % 256)] from rfl) (Reps.one (show Kd.M (Kd.int .u8) _ _ _ (n4 / 256 % 256) [.int .u8 (n4 / 256 % 256)] from rfl) (Reps.none _ _))))); intro vR wR hoR hbR hgR hnR; have RR := Aside0.mk (Kd.R_lower hoR BW3.out.size); have BR := Aside0.mk (BW3.out.trans (hbR.mono BW3.out.size)); clear hgR hnR hoR hbR))
  go_ret2
  exact ⟨_, rfl, Kd.R_mono RR.out (fun _ hk => trivial), BR.out⟩
set_option maxHeartbeats 4000000 in
set_option maxRecDepth 100000 in
theorem asm_nno (a0 : ByteArray) (hs0 : a0.size ≤ 140737488355328) (h0 : bookAt 512 a0 = none) (t4 : ByteArray) (n4 : Int) (hb4 : listing_bare.f 9 a0 4 ⟨#[119]⟩ = some (t4, n4, false)) (t2 : ByteArray) (n2 : Int) (hb2 : listing_bare.f 9 a0 2 ⟨#[98]⟩ = some (t2, n2, false)) (w : World) : Calls Tryd.prog 15 #[.string a0] w (AsmPost w [] 6) := by
  have hu46 := Tryd.underlying46
  have Z0 := Aside0.mk hs0
  clear hs0
  have H0 := Aside0.mk h0
  clear h0
  have B4 := Aside0.mk hb4
  clear hb4
  have B2 := Aside0.mk hb2
  clear hb2
  go_enter Tryd.func15, Tryd.ntmps15
  go_wp2_with (first
    | (go_at_call 33; refine (book_calls _).mono ?_; rintro e w1 ⟨rfl, ho, hb⟩; have OW1 := Aside0.mk ho; have BW1 := Aside0.mk hb; clear ho hb)
    | ((with_reducible refine gate_dst (N := 24) rfl ?_); refine lookup_none rfl _ _ rfl _ rfl OW1.out a0 rfl Z0.out H0.out ?_)
    | (go_at_call 34; (with_reducible refine (listing_bare.calls 9 a0 4 ⟨#[119]⟩ _ _ _ _ B4.out).mono ?_); rintro e w2 ⟨rfl, hb⟩; have OW2 := Aside0.mk (ownsMap_below OW1.out hb); have BW2 := Aside0.mk (BW1.out.trans (hb.mono BW1.out.size)); clear hb)
    | (go_at_call 34; (with_reducible refine (listing_bare.calls 9 a0 2 ⟨#[98]⟩ _ _ _ _ B2.out).mono ?_); rintro e w3 ⟨rfl, hb⟩; have OW3 := Aside0.mk (ownsMap_below OW2.out hb); have BW3 := Aside0.mk (BW2.out.trans (hb.mono BW2.out.size)); clear hb))
  go_ret2
  exact ⟨_, rfl, Kd.R_nil _ _ _ _ _, BW3.out⟩
set_option maxHeartbeats 4000000 in
set_option maxRecDepth 100000 in
theorem asm_ndb (a0 : ByteArray) (hs0 : a0.size ≤ 140737488355328) (h0 : bookAt 512 a0 = none) (t4 : ByteArray) (n4 : Int) (hb4 : listing_bare.f 9 a0 4 ⟨#[119]⟩ = some (t4, n4, false)) (t2 : ByteArray) (n2 : Int) (hb2 : listing_bare.f 9 a0 2 ⟨#[98]⟩ = some (t2, n2, true)) (hd : t2.toList = ([68, 66, 32, 98] : List UInt8)) (w : World) : Calls Tryd.prog 15 #[.string a0] w (AsmPost w [n2 % 256] 0) := by
  have hu46 := Tryd.underlying46
  have Z0 := Aside0.mk hs0
  clear hs0
  have H0 := Aside0.mk h0
  clear h0
  have B4 := Aside0.mk hb4
  clear hb4
  have B2 := Aside0.mk hb2
  clear hb2
  have d1 : (t2.toList == ([68, 66, 32, 98] : List UInt8)) = true := beq_iff_eq.mpr hd
  have d2 : (t2.toList != ([68, 66, 32, 98] : List UInt8)) = false := bne_eq_false_iff_eq.mpr hd
  clear hd
  go_enter Tryd.func15, Tryd.ntmps15
  go_wp2_with (first
    | (go_at_call 33; refine (book_calls _).mono ?_; rintro e w1 ⟨rfl, ho, hb⟩; have OW1 := Aside0.mk ho; have BW1 := Aside0.mk hb; clear ho hb)
    | ((with_reducible refine gate_dst (N := 24) rfl ?_); refine lookup_none rfl _ _ rfl _ rfl OW1.out a0 rfl Z0.out H0.out ?_)
    | (go_at_call 34; (with_reducible refine (listing_bare.calls 9 a0 4 ⟨#[119]⟩ _ _ _ _ B4.out).mono ?_); rintro e w2 ⟨rfl, hb⟩; have OW2 := Aside0.mk (ownsMap_below OW1.out hb); have BW2 := Aside0.mk (BW1.out.trans (hb.mono BW1.out.size)); clear hb)
    | (go_at_call 34; (with_reducible refine (listing_bare.calls 9 a0 2 ⟨#[98]⟩ _ _ _ _ B2.out).mono ?_); rintro e w3 ⟨rfl, hb⟩; have OW3 := Aside0.mk (ownsMap_below OW2.out hb); have BW3 := Aside0.mk (BW2.out.trans (hb.mono BW2.out.size)); clear hb)
    | ((with_reducible refine gate_dst (N := 86) rfl ?_); refine Kd.R_lit (Kd.int .u8) _ 5 ?hg (N := 86) ?hd (xs := ([n2 % 256] : List Int)) (inner := [.int .u8 (n2 % 256)]) (ok := fun _ => True) (okp := fun _ => True) ?hr ?hp (fun _ hk => hk) trivial (Below.refl _ _) (Nat.le_refl _) (by simp) ?_; (case hd => rfl); (case hg => rfl); (case hr => first | (go_simp; done) | (go_simp; rfl)); (case hp => exact (Reps.one (show Kd.M (Kd.int .u8) _ _ _ (n2 % 256) [.int .u8 (n2 % 256)] from rfl) (Reps.none _ _))); intro vR wR hoR hbR hgR hnR; have RR := Aside0.mk (Kd.R_lower hoR BW3.out.size); have BR := Aside0.mk (BW3.out.trans (hbR.mono BW3.out.size)); clear hgR hnR hoR hbR))
  go_ret2
  exact ⟨_, rfl, Kd.R_mono RR.out (fun _ hk => trivial), BR.out⟩
set_option maxHeartbeats 4000000 in
set_option maxRecDepth 100000 in
theorem asm_nbyte (a0 : ByteArray) (hs0 : a0.size ≤ 140737488355328) (h0 : bookAt 512 a0 = none) (t4 : ByteArray) (n4 : Int) (hb4 : listing_bare.f 9 a0 4 ⟨#[119]⟩ = some (t4, n4, false)) (t2 : ByteArray) (n2 : Int) (hb2 : listing_bare.f 9 a0 2 ⟨#[98]⟩ = some (t2, n2, true)) (hs2 : t2.size ≤ 140737488355328) (hd : ¬ t2.toList = ([68, 66, 32, 98] : List UInt8)) (op2 : Int) (h2 : bookAt 512 t2 = some op2) (g2 : op2 < 256) (w : World) : Calls Tryd.prog 15 #[.string a0] w (AsmPost w [op2 % 256, n2 % 256] 0) := by
  have hu46 := Tryd.underlying46
  have Z0 := Aside0.mk hs0
  clear hs0
  have H0 := Aside0.mk h0
  clear h0
  have B4 := Aside0.mk hb4
  clear hb4
  have B2 := Aside0.mk hb2
  clear hb2
  have Z2 := Aside0.mk hs2
  clear hs2
  have d1 : (t2.toList == ([68, 66, 32, 98] : List UInt8)) = false := beq_eq_false_iff_ne.mpr hd
  have d2 : (t2.toList != ([68, 66, 32, 98] : List UInt8)) = true := bne_iff_ne.mpr hd
  have d3 := Aside0.mk hd
  clear hd
  have H2 := Aside0.mk h2
  clear h2
  have e2 : decide (op2 < 256) = true := decide_eq_true g2
  go_enter Tryd.func15, Tryd.ntmps15
  go_wp2_with (first
    | (go_at_call 33; refine (book_calls _).mono ?_; rintro e w1 ⟨rfl, ho, hb⟩; have OW1 := Aside0.mk ho; have BW1 := Aside0.mk hb; clear ho hb)
    | ((with_reducible refine gate_dst (N := 24) rfl ?_); refine lookup_none rfl _ _ rfl _ rfl OW1.out a0 rfl Z0.out H0.out ?_)
    | (go_at_call 34; (with_reducible refine (listing_bare.calls 9 a0 4 ⟨#[119]⟩ _ _ _ _ B4.out).mono ?_); rintro e w2 ⟨rfl, hb⟩; have OW2 := Aside0.mk (ownsMap_below OW1.out hb); have BW2 := Aside0.mk (BW1.out.trans (hb.mono BW1.out.size)); clear hb)
    | (go_at_call 34; (with_reducible refine (listing_bare.calls 9 a0 2 ⟨#[98]⟩ _ _ _ _ B2.out).mono ?_); rintro e w3 ⟨rfl, hb⟩; have OW3 := Aside0.mk (ownsMap_below OW2.out hb); have BW3 := Aside0.mk (BW2.out.trans (hb.mono BW2.out.size)); clear hb)
    | ((with_reducible refine gate_dst (N := 90) rfl ?_); refine lookup_some rfl _ _ rfl _ rfl OW3.out t2 rfl Z2.out op2 H2.out ?_)
    | ((with_reducible refine gate_dst (N := 102) rfl ?_); refine Kd.R_lit (Kd.int .u8) _ 5 ?hg (N := 102) ?hd (xs := ([op2 % 256, n2 % 256] : List Int)) (inner := [.int .u8 (op2 % 256), .int .u8 (n2 % 256)]) (ok := fun _ => True) (okp := fun _ => True) ?hr ?hp (fun _ hk => hk) trivial (Below.refl _ _) (Nat.le_refl _) (by simp) ?_; (case hd => rfl); (case hg => rfl); (case hr => first | (go_simp; done) | (go_simp; rfl)); (case hp => exact (Reps.one (show Kd.M (Kd.int .u8) _ _ _ (op2 % 256) [.int .u8 (op2 % 256)] from rfl) (Reps.one (show Kd.M (Kd.int .u8) _ _ _ (n2 % 256) [.int .u8 (n2 % 256)] from rfl) (Reps.none _ _)))); intro vR wR hoR hbR hgR hnR; have RR := Aside0.mk (Kd.R_lower hoR BW3.out.size); have BR := Aside0.mk (BW3.out.trans (hbR.mono BW3.out.size)); clear hgR hnR hoR hbR))
  go_ret2
  exact ⟨_, rfl, Kd.R_mono RR.out (fun _ hk => trivial), BR.out⟩
set_option maxHeartbeats 4000000 in
set_option maxRecDepth 100000 in
theorem asm_nhigh (a0 : ByteArray) (hs0 : a0.size ≤ 140737488355328) (h0 : bookAt 512 a0 = none) (t4 : ByteArray) (n4 : Int) (hb4 : listing_bare.f 9 a0 4 ⟨#[119]⟩ = some (t4, n4, false)) (t2 : ByteArray) (n2 : Int) (hb2 : listing_bare.f 9 a0 2 ⟨#[98]⟩ = some (t2, n2, true)) (hs2 : t2.size ≤ 140737488355328) (hd : ¬ t2.toList = ([68, 66, 32, 98] : List UInt8)) (op2 : Int) (h2 : bookAt 512 t2 = some op2) (g2 : 256 ≤ op2) (w : World) : Calls Tryd.prog 15 #[.string a0] w (AsmPost w [] 6) := by
  have hu46 := Tryd.underlying46
  have Z0 := Aside0.mk hs0
  clear hs0
  have H0 := Aside0.mk h0
  clear h0
  have B4 := Aside0.mk hb4
  clear hb4
  have B2 := Aside0.mk hb2
  clear hb2
  have Z2 := Aside0.mk hs2
  clear hs2
  have d1 : (t2.toList == ([68, 66, 32, 98] : List UInt8)) = false := beq_eq_false_iff_ne.mpr hd
  have d2 : (t2.toList != ([68, 66, 32, 98] : List UInt8)) = true := bne_iff_ne.mpr hd
  have d3 := Aside0.mk hd
  clear hd
  have H2 := Aside0.mk h2
  clear h2
  have e2 : decide (op2 < 256) = false := decide_eq_false (by omega)
  go_enter Tryd.func15, Tryd.ntmps15
  go_wp2_with (first
    | (go_at_call 33; refine (book_calls _).mono ?_; rintro e w1 ⟨rfl, ho, hb⟩; have OW1 := Aside0.mk ho; have BW1 := Aside0.mk hb; clear ho hb)
    | ((with_reducible refine gate_dst (N := 24) rfl ?_); refine lookup_none rfl _ _ rfl _ rfl OW1.out a0 rfl Z0.out H0.out ?_)
    | (go_at_call 34; (with_reducible refine (listing_bare.calls 9 a0 4 ⟨#[119]⟩ _ _ _ _ B4.out).mono ?_); rintro e w2 ⟨rfl, hb⟩; have OW2 := Aside0.mk (ownsMap_below OW1.out hb); have BW2 := Aside0.mk (BW1.out.trans (hb.mono BW1.out.size)); clear hb)
    | (go_at_call 34; (with_reducible refine (listing_bare.calls 9 a0 2 ⟨#[98]⟩ _ _ _ _ B2.out).mono ?_); rintro e w3 ⟨rfl, hb⟩; have OW3 := Aside0.mk (ownsMap_below OW2.out hb); have BW3 := Aside0.mk (BW2.out.trans (hb.mono BW2.out.size)); clear hb)
    | ((with_reducible refine gate_dst (N := 90) rfl ?_); refine lookup_some rfl _ _ rfl _ rfl OW3.out t2 rfl Z2.out op2 H2.out ?_))
  go_ret2
  exact ⟨_, rfl, Kd.R_nil _ _ _ _ _, BW3.out⟩
set_option maxHeartbeats 4000000 in
set_option maxRecDepth 100000 in
theorem asm_nnone (a0 : ByteArray) (hs0 : a0.size ≤ 140737488355328) (h0 : bookAt 512 a0 = none) (t4 : ByteArray) (n4 : Int) (hb4 : listing_bare.f 9 a0 4 ⟨#[119]⟩ = some (t4, n4, false)) (t2 : ByteArray) (n2 : Int) (hb2 : listing_bare.f 9 a0 2 ⟨#[98]⟩ = some (t2, n2, true)) (hs2 : t2.size ≤ 140737488355328) (hd : ¬ t2.toList = ([68, 66, 32, 98] : List UInt8)) (h2 : bookAt 512 t2 = none) (w : World) : Calls Tryd.prog 15 #[.string a0] w (AsmPost w [] 6) := by
  have hu46 := Tryd.underlying46
  have Z0 := Aside0.mk hs0
  clear hs0
  have H0 := Aside0.mk h0
  clear h0
  have B4 := Aside0.mk hb4
  clear hb4
  have B2 := Aside0.mk hb2
  clear hb2
  have Z2 := Aside0.mk hs2
  clear hs2
  have d1 : (t2.toList == ([68, 66, 32, 98] : List UInt8)) = false := beq_eq_false_iff_ne.mpr hd
  have d2 : (t2.toList != ([68, 66, 32, 98] : List UInt8)) = true := bne_iff_ne.mpr hd
  have d3 := Aside0.mk hd
  clear hd
  have H2 := Aside0.mk h2
  clear h2
  go_enter Tryd.func15, Tryd.ntmps15
  go_wp2_with (first
    | (go_at_call 33; refine (book_calls _).mono ?_; rintro e w1 ⟨rfl, ho, hb⟩; have OW1 := Aside0.mk ho; have BW1 := Aside0.mk hb; clear ho hb)
    | ((with_reducible refine gate_dst (N := 24) rfl ?_); refine lookup_none rfl _ _ rfl _ rfl OW1.out a0 rfl Z0.out H0.out ?_)
    | (go_at_call 34; (with_reducible refine (listing_bare.calls 9 a0 4 ⟨#[119]⟩ _ _ _ _ B4.out).mono ?_); rintro e w2 ⟨rfl, hb⟩; have OW2 := Aside0.mk (ownsMap_below OW1.out hb); have BW2 := Aside0.mk (BW1.out.trans (hb.mono BW1.out.size)); clear hb)
    | (go_at_call 34; (with_reducible refine (listing_bare.calls 9 a0 2 ⟨#[98]⟩ _ _ _ _ B2.out).mono ?_); rintro e w3 ⟨rfl, hb⟩; have OW3 := Aside0.mk (ownsMap_below OW2.out hb); have BW3 := Aside0.mk (BW2.out.trans (hb.mono BW2.out.size)); clear hb)
    | ((with_reducible refine gate_dst (N := 90) rfl ?_); refine lookup_none rfl _ _ rfl _ rfl OW3.out t2 rfl Z2.out H2.out ?_))
  go_ret2
  exact ⟨_, rfl, Kd.R_nil _ _ _ _ _, BW3.out⟩
end Go.Proofs.YtpjbfpheenamiaaDoor.PF
