/- Texts of this claim, put together: PF23, GBook, GRead, GStr. -/
import Derived.Test.YtpjbfpheenamiaaDoorB1
import Derived.Test.YtpjbfpheenamiaaDoorB11
import Derived.Test.YtpjbfpheenamiaaDoorB10
import Derived.Test.YtpjbfpheenamiaaDoorB7
import Derived.Maps.OwnSet
import Derived.LoopTactic
import Derived.Lib.Hide
import Derived.Deep.DeepCutAuto
import Derived.Laws.BitsLemmas
import Derived.WalkKit
import Derived.WalkSpells
import Derived.WalkLawsBesides
import Derived.Laws.RangeString
import Derived.Laws.RangeAny
-- PRINTED by print.py (a twelfth state) out of the translation. Not trusted: Lean checks it.
namespace Go.Proofs.YtpjbfpheenamiaaDoor.PF
open Go.RowKit Go.Proofs.YtpjbfpheenamiaaDoorW.PrintWords Go.Proofs.YtpjbfpheenamiaaDoorW.PrintLast Go.Proofs.YtpjbfpheenamiaaDoorW.PrintMore
attribute [local go_sem] max2_int min2_int max_two min_two max_three min_three max_four min_four   -- for this text's walks alone
set_option linter.unusedVariables false
set_option linter.unusedSimpArgs false

/-! ### listing_form: function 23 -/
def listing_form.f (k : Nat) (a0 : Int) (a1 : Bool) : Option (Int × Int × Int × Int × Int × Int) := if a1 = true then ((opcode_DecodeCB.f a0).bind fun bt178 => (some (bt178.1, bt178.2.1, bt178.2.2.1, bt178.2.2.2.1, bt178.2.2.2.2.1, bt178.2.2.2.2.2))) else ((opcode_Decode.f k a0).bind fun bt184 => (some (bt184.1, bt184.2.1, bt184.2.2.1, bt184.2.2.2.1, bt184.2.2.2.2.1, bt184.2.2.2.2.2)))
theorem listing_form.mono : ∀ a0 a1 k, LeO (listing_form.f k a0 a1) (listing_form.f (k + 1) a0 a1) := by
 intro a0 a1 k
 unfold listing_form.f
 repeat' first
   | (with_reducible exact opcode_Decode.mono _ _)
   | (with_reducible exact LeO.refl _)
   | (with_reducible exact LeO.none _)
   | (with_reducible refine LeO.ite ?_ ?_)
   | (with_reducible refine LeO.bind ?_ (fun _ => ?_))
   | exact opcode_Decode.mono _ _
   | exact LeO.none _
   | refine LeO.ite ?_ ?_
   | refine LeO.bind ?_ (fun _ => ?_)
set_option maxHeartbeats 8000000 in
set_option maxRecDepth 100000 in
theorem listing_form.calls (k : Nat) (a0 : Int) (a1 : Bool) (r1 : Int) (r2 : Int) (r3 : Int) (r4 : Int) (r5 : Int) (r6 : Int) (w : World) (h : listing_form.f k a0 a1 = some (r1, r2, r3, r4, r5, r6)) :
  Calls Tryd.prog 23 #[.int .u8 a0, .bool a1] w fun e w' => e = .returned (.agg #[.int .i64 r1, .int .i64 r2, .int .i64 r3, .int .i64 r4, .int .i64 r5, .int .i64 r6]) ∧ Below w.heap.size w w' := by
 have hu46 := Tryd.underlying46
 have HB := Aside0.mk (Below.refl w.heap.size w)
 have H : (if a1 = true then ((opcode_DecodeCB.f a0).bind fun bt178 => (some (bt178.1, bt178.2.1, bt178.2.2.1, bt178.2.2.2.1, bt178.2.2.2.2.1, bt178.2.2.2.2.2))) else ((opcode_Decode.f k a0).bind fun bt184 => (some (bt184.1, bt184.2.1, bt184.2.2.1, bt184.2.2.2.1, bt184.2.2.2.2.1, bt184.2.2.2.2.2)))) = some (r1, r2, r3, r4, r5, r6) := h
 clear h
 by_cases c3 : a1 = true
 ·subst c3
  rw [if_pos rfl] at H
  replace H := Option.bind_eq_some_iff.mp H
  obtain ⟨⟨t178, t179, t180, t181, t182, t183⟩, A40, H⟩ := H
  replace H : (some (t178, t179, t180, t181, t182, t183)) = some (r1, r2, r3, r4, r5, r6) := H
  have A4 := Aside0.mk A40
  clear A40
  simp only [Option.some.injEq, Prod.mk.injEq] at H
  obtain ⟨rfl, rfl, rfl, rfl, rfl, rfl⟩ := H
  go_enter Tryd.func23, Tryd.ntmps23
  go_wp2_with (first | ((with_reducible refine gate_dst (N := 4) rfl ?_); refine box_event ?hg (N := 4) ?hd (cs := #[.int .i64 0, .int .i64 0, .int .i64 0, .int .i64 0, .int .i64 0, .int .i64 0]) (t := 46) ?hr ?_; (case hd => rfl); (case hg => rfl); (case hr => first | (go_simp; done) | (go_simp; rfl)); intro gb177 hg w5 hbox hb; have n0_ := Aside0.mk (below_step (by repeat (first | (with_reducible first | exact HB.out | apply below_alloc | apply pw_below_drewN | apply below_drew1) | exact HB.out)) hb); have n1_ := Aside0.mk (hbox); have n2_ := Aside0.mk ((by rw [hg]; exact (below_size (by repeat (first | (with_reducible first | exact HB.out | apply below_alloc | apply pw_below_drewN | apply below_drew1) | exact HB.out))) : w.heap.size ≤ gb177)); have n3_ := Aside0.mk ((by rw [hg]; exact (below_size (by repeat (first | (with_reducible first | exact HB.out | apply below_alloc | apply pw_below_drewN | apply below_drew1) | exact HB.out))) : w.heap.size ≤ gb177)); clear HB; have HB := n0_; have BK177 := n1_; have GW177 := n2_; have GE177 := n3_; clear n0_ n1_ n2_ n3_; clear hb hbox hg) | ((with_reducible refine gate_callee (f := 31) rfl ?_); refine goesL_ (some 7) rfl rfl Tryd.func31 (by kernel_rfl) rfl #[.int .u8 a0] rfl (by (try simp only [List.map_toArray, List.map_cons, List.map_nil]); first | done | rfl | (simp only [List.length_drop, List.length_take]; rfl)) ?_; (with_reducible refine (opcode_DecodeCB.calls a0 t178 t179 t180 t181 t182 t183 _ A4.out).mono ?_); rintro e w6 ⟨rfl, hb⟩; refine ⟨_, rfl, ?_⟩; have n0_ := Aside0.mk (blk_below (g := gb177) (o := .cells #[.int .i64 0, .int .i64 0, .int .i64 0, .int .i64 0, .int .i64 0, .int .i64 0] 46 (0, 0)) (by (with_reducible repeat (first | refine blk_drewN ?_ _ | refine blk_drew ?_ | refine blk_alloc ?_ _)); exact BK177.out) hb); have n1_ := Aside0.mk (below_step (by repeat (first | (with_reducible first | exact HB.out | apply below_alloc | apply pw_below_drewN | apply below_drew1 | refine below_set ?_ GE177.out) | exact HB.out)) hb); clear BK177; clear HB; have BK177 := n0_; have HB := n1_; clear n0_ n1_; (try clear hb); obtain ⟨hcz7_0, hcz7_1, hcz7_2, hcz7_3, hcz7_4, hcz7_5, hfz7_0, hfz7_1, hfz7_2, hfz7_3, hfz7_4, hfz7_5⟩ := blk6 BK177.out))
  refine bodyPost_ret (results_cell_row rfl _ _ gb177 46 #[.int .i64 t178, .int .i64 t179, .int .i64 t180, .int .i64 t181, .int .i64 t182, .int .i64 t183] (0, 0) _ rfl (by (with_reducible repeat (first | refine blk_drewN ?_ _ | refine blk_drew ?_ | refine blk_alloc ?_ _)); refine blk_put (cs := #[.int .i64 t178, .int .i64 t179, .int .i64 t180, .int .i64 t181, .int .i64 t182, .int .i64 0]) ?_ 5 _ rfl; refine blk_put (cs := #[.int .i64 t178, .int .i64 t179, .int .i64 t180, .int .i64 t181, .int .i64 0, .int .i64 0]) ?_ 4 _ rfl; refine blk_put (cs := #[.int .i64 t178, .int .i64 t179, .int .i64 t180, .int .i64 0, .int .i64 0, .int .i64 0]) ?_ 3 _ rfl; refine blk_put (cs := #[.int .i64 t178, .int .i64 t179, .int .i64 0, .int .i64 0, .int .i64 0, .int .i64 0]) ?_ 2 _ rfl; refine blk_put (cs := #[.int .i64 t178, .int .i64 0, .int .i64 0, .int .i64 0, .int .i64 0, .int .i64 0]) ?_ 1 _ rfl; refine blk_put (cs := #[.int .i64 0, .int .i64 0, .int .i64 0, .int .i64 0, .int .i64 0, .int .i64 0]) ?_ 0 _ rfl; (with_reducible repeat (first | refine blk_drewN ?_ _ | refine blk_drew ?_ | refine blk_alloc ?_ _)); exact BK177.out) Tryd.underlying46 rfl (by kernel_rfl)) rfl ?_
  exact ⟨by first | rfl | (simp [errW_none, errW_some] <;> rfl) | (simp [*, errW_none, errW_some] <;> rfl), by repeat (first | (with_reducible first | exact HB.out | apply below_alloc | apply pw_below_drewN | apply below_drew1 | refine below_set ?_ GE177.out) | exact HB.out)⟩
 ·replace c3 := Bool.eq_false_iff.mpr c3
  subst c3
  have H1 : ((opcode_Decode.f k a0).bind fun bt184 => (some (bt184.1, bt184.2.1, bt184.2.2.1, bt184.2.2.2.1, bt184.2.2.2.2.1, bt184.2.2.2.2.2))) = some (r1, r2, r3, r4, r5, r6) := by rw [if_neg (show ¬ (false = true) by decide)] at H; exact H
  clear H
  have H := H1
  clear H1
  replace H := Option.bind_eq_some_iff.mp H
  obtain ⟨⟨t184, t185, t186, t187, t188, t189⟩, A80, H⟩ := H
  replace H : (some (t184, t185, t186, t187, t188, t189)) = some (r1, r2, r3, r4, r5, r6) := H
  have A8 := Aside0.mk A80
  clear A80
  simp only [Option.some.injEq, Prod.mk.injEq] at H
  obtain ⟨rfl, rfl, rfl, rfl, rfl, rfl⟩ := H
  go_enter Tryd.func23, Tryd.ntmps23
  go_wp2_with (first | ((with_reducible refine gate_dst (N := 4) rfl ?_); refine box_event ?hg (N := 4) ?hd (cs := #[.int .i64 0, .int .i64 0, .int .i64 0, .int .i64 0, .int .i64 0, .int .i64 0]) (t := 46) ?hr ?_; (case hd => rfl); (case hg => rfl); (case hr => first | (go_simp; done) | (go_simp; rfl)); intro gb177 hg w9 hbox hb; have n0_ := Aside0.mk (below_step (by repeat (first | (with_reducible first | exact HB.out | apply below_alloc | apply pw_below_drewN | apply below_drew1) | exact HB.out)) hb); have n1_ := Aside0.mk (hbox); have n2_ := Aside0.mk ((by rw [hg]; exact (below_size (by repeat (first | (with_reducible first | exact HB.out | apply below_alloc | apply pw_below_drewN | apply below_drew1) | exact HB.out))) : w.heap.size ≤ gb177)); have n3_ := Aside0.mk ((by rw [hg]; exact (below_size (by repeat (first | (with_reducible first | exact HB.out | apply below_alloc | apply pw_below_drewN | apply below_drew1) | exact HB.out))) : w.heap.size ≤ gb177)); clear HB; have HB := n0_; have BK177 := n1_; have GW177 := n2_; have GE177 := n3_; clear n0_ n1_ n2_ n3_; clear hb hbox hg) | ((with_reducible refine gate_callee (f := 30) rfl ?_); refine goesL_ (some 9) rfl rfl Tryd.func30 (by kernel_rfl) rfl #[.int .u8 a0] rfl (by (try simp only [List.map_toArray, List.map_cons, List.map_nil]); first | done | rfl | (simp only [List.length_drop, List.length_take]; rfl)) ?_; (with_reducible refine (opcode_Decode.calls k a0 t184 t185 t186 t187 t188 t189 _ A8.out).mono ?_); rintro e w10 ⟨rfl, hb⟩; refine ⟨_, rfl, ?_⟩; have n0_ := Aside0.mk (blk_below (g := gb177) (o := .cells #[.int .i64 0, .int .i64 0, .int .i64 0, .int .i64 0, .int .i64 0, .int .i64 0] 46 (0, 0)) (by (with_reducible repeat (first | refine blk_drewN ?_ _ | refine blk_drew ?_ | refine blk_alloc ?_ _)); exact BK177.out) hb); have n1_ := Aside0.mk (below_step (by repeat (first | (with_reducible first | exact HB.out | apply below_alloc | apply pw_below_drewN | apply below_drew1 | refine below_set ?_ GE177.out) | exact HB.out)) hb); clear BK177; clear HB; have BK177 := n0_; have HB := n1_; clear n0_ n1_; (try clear hb); obtain ⟨hcz11_0, hcz11_1, hcz11_2, hcz11_3, hcz11_4, hcz11_5, hfz11_0, hfz11_1, hfz11_2, hfz11_3, hfz11_4, hfz11_5⟩ := blk6 BK177.out))
  refine bodyPost_ret (results_cell_row rfl _ _ gb177 46 #[.int .i64 t184, .int .i64 t185, .int .i64 t186, .int .i64 t187, .int .i64 t188, .int .i64 t189] (0, 0) _ rfl (by (with_reducible repeat (first | refine blk_drewN ?_ _ | refine blk_drew ?_ | refine blk_alloc ?_ _)); refine blk_put (cs := #[.int .i64 t184, .int .i64 t185, .int .i64 t186, .int .i64 t187, .int .i64 t188, .int .i64 0]) ?_ 5 _ rfl; refine blk_put (cs := #[.int .i64 t184, .int .i64 t185, .int .i64 t186, .int .i64 t187, .int .i64 0, .int .i64 0]) ?_ 4 _ rfl; refine blk_put (cs := #[.int .i64 t184, .int .i64 t185, .int .i64 t186, .int .i64 0, .int .i64 0, .int .i64 0]) ?_ 3 _ rfl; refine blk_put (cs := #[.int .i64 t184, .int .i64 t185, .int .i64 0, .int .i64 0, .int .i64 0, .int .i64 0]) ?_ 2 _ rfl; refine blk_put (cs := #[.int .i64 t184, .int .i64 0, .int .i64 0, .int .i64 0, .int .i64 0, .int .i64 0]) ?_ 1 _ rfl; refine blk_put (cs := #[.int .i64 0, .int .i64 0, .int .i64 0, .int .i64 0, .int .i64 0, .int .i64 0]) ?_ 0 _ rfl; (with_reducible repeat (first | refine blk_drewN ?_ _ | refine blk_drew ?_ | refine blk_alloc ?_ _)); exact BK177.out) Tryd.underlying46 rfl (by kernel_rfl)) rfl ?_
  exact ⟨by first | rfl | (simp [errW_none, errW_some] <;> rfl) | (simp [*, errW_none, errW_some] <;> rfl), by repeat (first | (with_reducible first | exact HB.out | apply below_alloc | apply pw_below_drewN | apply below_drew1 | refine below_set ?_ GE177.out) | exact HB.out)⟩

end Go.Proofs.YtpjbfpheenamiaaDoor.PF
/- The contract of listing.book: the new map holds, for each opcode that is neither illegal nor the prefix, its line and the opcode; no condition. -/
namespace Go.Proofs.YtpjbfpheenamiaaDoor.PF
open Go.RowKit Go.WideMaps Go.Maps Go.Proofs.YtpjbfpheenamiaaDoorW.PrintWords Go.Proofs.YtpjbfpheenamiaaDoorW.PrintLast Go.Proofs.YtpjbfpheenamiaaDoorW.PrintMore
set_option linter.unusedVariables false
set_option linter.unusedSimpArgs false
/-- What an opcode says, 256 more behind the prefix. -/
def bookForm (op : Nat) : Option (Int × Int × Int × Int × Int × Int) := listing_form.f 9 ((op : Int) % 256) (decide (255 < (op : Int)))
/-- The opcode's line in the book: none where it is illegal or the prefix. -/
def bookKey (op : Nat) : Option ByteArray :=
  (bookForm op).bind fun f => if f.1 = 5 ∨ f.1 = 6 then none else listing_text.f 9 f.1 f.2.1 f.2.2.1 f.2.2.2.1 f.2.2.2.2.1 f.2.2.2.2.2 ((op : Int) % 256) ⟨#[98]⟩ ⟨#[119]⟩
def bookOkB (op : Nat) : Bool :=
  match bookForm op with
  | none => false
  | some f => if f.1 = 5 ∨ f.1 = 6 then true else match listing_text.f 9 f.1 f.2.1 f.2.2.1 f.2.2.2.1 f.2.2.2.2.1 f.2.2.2.2.2 ((op : Int) % 256) ⟨#[98]⟩ ⟨#[119]⟩ with
    | none => false
    | some t => decide (t.size ≤ 100)
theorem bookOk_all : ((List.range 512).all bookOkB) = true := by kernel_rfl
theorem bookOk (op : Nat) (h : op < 512) : ∃ f0 f1 f2 f3 f4 f5, listing_form.f 9 ((op : Int) % 256) (decide (255 < (op : Int))) = some (f0, f1, f2, f3, f4, f5) ∧
    (((f0 = 5 ∨ f0 = 6) ∧ bookKey op = none) ∨ ((f0 ≠ 5 ∧ f0 ≠ 6) ∧ ∃ t, t.size ≤ 100 ∧ listing_text.f 9 f0 f1 f2 f3 f4 f5 ((op : Int) % 256) ⟨#[98]⟩ ⟨#[119]⟩ = some t ∧ bookKey op = some t)) := by
  have hb := List.all_eq_true.1 bookOk_all op (List.mem_range.2 h)
  unfold bookOkB at hb
  cases hf : bookForm op with
  | none => rw [hf] at hb; cases hb
  | some f =>
    obtain ⟨f0, f1, f2, f3, f4, f5⟩ := f
    refine ⟨f0, f1, f2, f3, f4, f5, hf, ?_⟩
    rw [hf] at hb
    unfold bookKey
    rw [hf]
    simp only [Option.bind_some] at hb ⊢
    by_cases h5 : f0 = 5 ∨ f0 = 6
    · exact .inl ⟨h5, by rw [if_pos h5]⟩
    · refine .inr ⟨⟨fun e => h5 (.inl e), fun e => h5 (.inr e)⟩, ?_⟩
      rw [if_neg h5] at hb ⊢
      cases ht : listing_text.f 9 f0 f1 f2 f3 f4 f5 ((op : Int) % 256) ⟨#[98]⟩ ⟨#[119]⟩ with
      | none => rw [ht] at hb; cases hb
      | some t => rw [ht] at hb; exact ⟨t, of_decide_eq_true hb, rfl, rfl⟩
/-- The book when it holds the opcodes below a number. -/
def bookD : Nat → DataW Unit
  | 0 => .map []
  | n + 1 => match bookKey n with
    | none => bookD n
    | some t => (bookD n).put (.string t.data.toList) (.lit (.int .i64 n))
/-- The last opcode below a number whose line in the book is the text. -/
def bookAt : Nat → ByteArray → Option Int
  | 0, _ => none
  | n + 1, s => if bookKey n = some s then some n else bookAt n s
theorem bookD_none {n : Nat} (h : bookKey n = none) : bookD (n + 1) = bookD n := by simp only [bookD, h]
theorem bookD_some {n : Nat} {t : ByteArray} (h : bookKey n = some t) : bookD (n + 1) = (bookD n).put (.string t.data.toList) (.lit (.int .i64 n)) := by simp only [bookD, h]
theorem bookD_map (n : Nat) : Maps.IsMap (bookD n) := by
  induction n with
  | zero => exact Maps.isMap_empty
  | succ n ih =>
    cases h : bookKey n with
    | none => rw [bookD_none h]; exact ih
    | some t => rw [bookD_some h]; exact ih.put _ _
theorem toList_inj {s t : ByteArray} (h : s.data.toList = t.data.toList) : s = t := by
  cases s; cases t
  congr 1
  exact Array.ext' h
theorem bookD_reads (n : Nat) (s : ByteArray) : Maps.has (bookD n) (.string s.data.toList) = (bookAt n s).isSome ∧ (bookD n).atKey (.string s.data.toList) (.lit (.int .i64 0)) = .lit (.int .i64 ((bookAt n s).getD 0)) := by
  induction n with
  | zero => exact ⟨rfl, rfl⟩
  | succ n ih =>
    cases h : bookKey n with
    | none =>
      rw [bookD_none h]
      unfold bookAt
      rw [h, if_neg (by simp)]
      exact ih
    | some t =>
      rw [bookD_some h]
      unfold bookAt
      rw [h]
      by_cases e : t = s
      · subst e
        rw [if_pos rfl]
        exact ⟨Maps.has_put_same (bookD_map n) (show WideAt.IsKeyLit (Lit.string t.data.toList) from trivial) _, Maps.atKey_put_same (bookD_map n) (show WideAt.IsKeyLit (Lit.string t.data.toList) from trivial) _ _⟩
      · rw [if_neg (by simpa using e)]
        have hne : Lit.string s.data.toList ≠ Lit.string t.data.toList := fun hh => e (toList_inj (Lit.string.inj hh).symm)
        rw [Maps.has_put_other hne, Maps.atKey_put_other hne]
        exact ih
theorem ownsMap_below {H : Type} {w w' : World} {P : Program} {k : TypeId} {R : Value → Option (DataW H × List MemPlace)} {b n : Nat} {D : DataW H} (h : w.ownsMap P k R b n D) (hb : Below w.heap.size w w') : w'.ownsMap P k R b n D := by
  have hlt := h.lt
  obtain ⟨es, clock, h1, F, hs, hD⟩ := h
  exact ⟨es, clock, (hb.block b hlt).trans h1, F, hs, hD⟩
theorem ownsMap_set {H : Type} {w : World} {P : Program} {k : TypeId} {R : Value → Option (DataW H × List MemPlace)} {b n : Nat} {D : DataW H} (h : w.ownsMap P k R b n D) {a : Addr} (ha : b ≠ a.block) (u : Value) : (w.setCell a u).ownsMap P k R b n D := h.setCell ha u
theorem at_world2 {P : Program} {c : Code} {Q : Exit → Act → World → Prop} {a : Act} {W : World} (p : World → Prop) (h : p W) (k : ∀ w', p w' → Code.wp P c Q a w') : Code.wp P c Q a W := k W h
theorem book_zero (w : World) : (zeroValue 3).run Tryd.prog w = .ok (.int .i64 0) w := by kernel_rfl
theorem book_law : Keyed Tryd.prog 9 := string_keyed Tryd.underlying9
set_option maxHeartbeats 4000000 in
set_option maxRecDepth 100000 in
theorem book_calls (w : World) : Calls Tryd.prog 33 #[] w fun e w' => e = .returned (.map (some w.heap.size)) ∧ w'.ownsMap Tryd.prog 9 (plainElem Tryd.prog 3) w.heap.size 512 (bookD 512) ∧ Below w.heap.size w w' := by
  have hu46 := Tryd.underlying46
  have hmm := @run_makeMap Tryd.prog
  go_enter Tryd.func33, Tryd.ntmps33
  go_wp2
  go_loopw [5] (fun i wr => ∃ k : Nat, k ≤ 512 ∧ i = .int .i64 k ∧ wr.ownsMap Tryd.prog 9 (plainElem Tryd.prog 3) w.heap.size k (bookD k) ∧ Below w.heap.size w wr) (fun i _ => 512 - (intOf i).toNat)
  case atStart => exact ⟨0, Nat.zero_le _, rfl, World.ownsMap_made _ _ _ _, (Below.refl _ _).alloc (Nat.le_refl _) _⟩
  case round =>
    obtain ⟨k, hk, rfl, hown, hnx⟩ := hrel
    by_cases hlt : k < 512
    · obtain ⟨f0, f1, f2, f3, f4, f5, HF0, hcase⟩ := bookOk k hlt
      have HF := Aside0.mk HF0
      have HC := Aside0.mk hcase
      have OW := Aside0.mk hown
      have BW := Aside0.mk hnx
      have KZ := Aside0.mk hk
      clear HF0 hcase hown hnx hk
      have hfc : ∀ (x : Int) (b : Bool) (W : World), x = (k : Int) % 256 → b = decide (255 < (k : Int)) → Calls Tryd.prog 23 #[.int .u8 x, .bool b] W fun e w' => e = .returned (.agg #[.int .i64 f0, .int .i64 f1, .int .i64 f2, .int .i64 f3, .int .i64 f4, .int .i64 f5]) ∧ Below W.heap.size W w' := by
        intro x b W hx hb
        subst hx; subst hb
        exact listing_form.calls _ _ _ _ _ _ _ _ _ _ HF.out
      go_upto_region 6 with (first
        | (go_at_call 23; refine (hfc _ _ _ (by simp [IntKind.wrap_u8]) (by simp)).mono ?_; rintro e w1 ⟨rfl, hb⟩; have OW1 := Aside0.mk (ownsMap_below OW.out hb); have BW1 := Aside0.mk (BW.out.trans (hb.mono BW.out.size)); clear OW BW hb hfc)
        | ((with_reducible refine gate_dst (N := 3) rfl ?_); refine box_event ?hg (N := 3) ?hd (cs := #[.int .i64 0, .int .i64 0, .int .i64 0, .int .i64 0, .int .i64 0, .int .i64 0]) (t := 46) ?hr ?_; (case hd => rfl); (case hg => rfl); (case hr => first | (go_simp; done) | (go_simp; rfl)); intro g hg w2 hbox hb; have BK := Aside0.mk hbox; have OW2 := Aside0.mk (ownsMap_below OW1.out hb); have NE := Aside0.mk (Nat.ne_of_lt (hg ▸ OW1.out.lt) : w.heap.size ≠ g); have GE := Aside0.mk (hg ▸ BW1.out.size : w.heap.size ≤ g); have BW2 := Aside0.mk (BW1.out.trans (hb.mono BW1.out.size)); clear hg hbox hb OW1 BW1; have cz0 : w2.cell? ⟨g, 0, none⟩ = some (.int .i64 0) := (blk_cell BK.out 0).trans rfl; have cz1 : w2.cell? ⟨g, 1, none⟩ = some (.int .i64 0) := (blk_cell BK.out 1).trans rfl; have cz2 : w2.cell? ⟨g, 2, none⟩ = some (.int .i64 0) := (blk_cell BK.out 2).trans rfl; have cz3 : w2.cell? ⟨g, 3, none⟩ = some (.int .i64 0) := (blk_cell BK.out 3).trans rfl; have cz4 : w2.cell? ⟨g, 4, none⟩ = some (.int .i64 0) := (blk_cell BK.out 4).trans rfl; have cz5 : w2.cell? ⟨g, 5, none⟩ = some (.int .i64 0) := (blk_cell BK.out 5).trans rfl; have cf0 := blk_frozen BK.out 0; have cf1 := blk_frozen BK.out 1; have cf2 := blk_frozen BK.out 2; have cf3 := blk_frozen BK.out 3; have cf4 := blk_frozen BK.out 4; have cf5 := blk_frozen BK.out 5))
      refine at_world2 (fun wc => wc.heap[g]? = some (.cells #[.int .i64 f0, .int .i64 f1, .int .i64 f2, .int .i64 f3, .int .i64 f4, .int .i64 f5] 46 (0, 0)) ∧ wc.ownsMap Tryd.prog 9 (plainElem Tryd.prog 3) w.heap.size k (bookD k) ∧ Below w.heap.size w wc) ⟨(by refine blk_put (cs := #[.int .i64 f0, .int .i64 f1, .int .i64 f2, .int .i64 f3, .int .i64 f4, .int .i64 0]) ?_ 5 _ rfl; refine blk_put (cs := #[.int .i64 f0, .int .i64 f1, .int .i64 f2, .int .i64 f3, .int .i64 0, .int .i64 0]) ?_ 4 _ rfl; refine blk_put (cs := #[.int .i64 f0, .int .i64 f1, .int .i64 f2, .int .i64 0, .int .i64 0, .int .i64 0]) ?_ 3 _ rfl; refine blk_put (cs := #[.int .i64 f0, .int .i64 f1, .int .i64 0, .int .i64 0, .int .i64 0, .int .i64 0]) ?_ 2 _ rfl; refine blk_put (cs := #[.int .i64 f0, .int .i64 0, .int .i64 0, .int .i64 0, .int .i64 0, .int .i64 0]) ?_ 1 _ rfl; refine blk_put (cs := #[.int .i64 0, .int .i64 0, .int .i64 0, .int .i64 0, .int .i64 0, .int .i64 0]) ?_ 0 _ rfl; exact BK.out), (by with_reducible repeat (first | exact OW2.out | refine ownsMap_set ?_ NE.out _)), (by with_reducible repeat (first | exact BW2.out | refine below_set ?_ GE.out))⟩ ?_
      clear OW2 BW2 BK cz0 cz1 cz2 cz3 cz4 cz5 cf0 cf1 cf2 cf3 cf4 cf5
      rintro w3 ⟨b1, b2, b3⟩
      have BK3 := Aside0.mk b1
      have OW3 := Aside0.mk b2
      have BW3 := Aside0.mk b3
      clear b1 b2 b3
      have cz0 : w3.cell? ⟨g, 0, none⟩ = some (.int .i64 f0) := (blk_cell BK3.out 0).trans rfl
      have cz1 : w3.cell? ⟨g, 1, none⟩ = some (.int .i64 f1) := (blk_cell BK3.out 1).trans rfl
      have cz2 : w3.cell? ⟨g, 2, none⟩ = some (.int .i64 f2) := (blk_cell BK3.out 2).trans rfl
      have cz3 : w3.cell? ⟨g, 3, none⟩ = some (.int .i64 f3) := (blk_cell BK3.out 3).trans rfl
      have cz4 : w3.cell? ⟨g, 4, none⟩ = some (.int .i64 f4) := (blk_cell BK3.out 4).trans rfl
      have cz5 : w3.cell? ⟨g, 5, none⟩ = some (.int .i64 f5) := (blk_cell BK3.out 5).trans rfl
      rcases HC.out with ⟨h56, hkey⟩ | ⟨⟨h5, h6⟩, t, hts, htx, hkey⟩
      · clear HC
        have OW4 := Aside0.mk (show w3.ownsMap Tryd.prog 9 (plainElem Tryd.prog 3) w.heap.size (k + 1) (bookD (k + 1)) by rw [bookD_none hkey]; exact OW3.out.mono (Nat.le_succ k))
        clear OW3 hkey HF
        rcases h56 with rfl | rfl
        · go_wp2
          go_roundw
          case rel => exact ⟨k + 1, by omega, by go_num, OW4.out, BW3.out⟩
          case measure => simp [intOf]; omega
        · go_wp2
          go_roundw
          case rel => exact ⟨k + 1, by omega, by go_num, OW4.out, BW3.out⟩
          case measure => simp [intOf]; omega
      · clear HC HF
        have e5 : (f0 == 5) = false := beq_eq_false_iff_ne.mpr h5
        have e6 : (f0 == 6) = false := beq_eq_false_iff_ne.mpr h6
        have n5 : (f0 != 5) = true := bne_iff_ne.mpr h5
        have n6 : (f0 != 6) = true := bne_iff_ne.mpr h6
        have HT := Aside0.mk htx
        have HKey := Aside0.mk hkey
        have hsz : keyOf Tryd.prog 9 (.string t) = some (.string t.data.toList) := keyOf_string_mk Tryd.underlying9 (by unfold maxLen; omega)
        have HK2 := Aside0.mk hsz
        clear htx hkey hsz hts h5 h6
        have htc : ∀ (x : Int) (W : World), x = (k : Int) % 256 → Calls Tryd.prog 22 #[.agg #[.int .i64 f0, .int .i64 f1, .int .i64 f2, .int .i64 f3, .int .i64 f4, .int .i64 f5], .int .u8 x, .string ⟨#[98]⟩, .string ⟨#[119]⟩] W fun e w' => e = .returned (.string t) ∧ Below W.heap.size W w' := by
          intro x W hx
          subst hx
          exact listing_text.calls _ _ _ _ _ _ _ _ _ _ _ _ HT.out
        go_wp2_with (first
          | (go_at_call 22; refine (htc _ _ (by simp [IntKind.wrap_u8])).mono ?_; rintro e w4 ⟨rfl, hb⟩; have OW5 := Aside0.mk (ownsMap_below OW3.out hb); have BW5 := Aside0.mk (BW3.out.trans (hb.mono BW3.out.size)); clear OW3 BW3 BK3 hb htc cz0 cz1 cz2 cz3 cz4 cz5)
          | (at_mapUpdate; refine wpList_mapUpdate_own _ rfl _ _ _ 54 rfl 9 3 book_law Tryd.underlying54 _ w.heap.size k _ rfl OW5.out (by unfold maxLen; omega) _ _ _ rfl rfl HK2.out _ [] (plainElem_int Tryd.underlying3 (WalkArith.wf_i64 (by omega))) ?_; intro w6 hown6 hgrow6))
        have R1 := Aside0.mk (show w6.ownsMap Tryd.prog 9 (plainElem Tryd.prog 3) w.heap.size (k + 1) (bookD (k + 1)) by rw [bookD_some HKey.out]; exact hown6)
        have R2 := Aside0.mk (BW5.out.grown hgrow6 BW5.out.size (fun j hj => by cases hj; exact Nat.le_refl _))
        clear hown6 hgrow6 OW5 BW5 HKey HK2 HT
        go_wp2
        go_roundw
        case rel => exact ⟨k + 1, by omega, by go_num, R1.out, R2.out⟩
        case measure => simp [intOf]; omega
    · have hk512 : k = 512 := by omega
      subst hk512
      have OW := Aside0.mk hown
      have BW := Aside0.mk hnx
      clear hown hnx hk hlt
      go_wp2
      go_ret
      exact ⟨rfl, OW.out, BW.out⟩
end Go.Proofs.YtpjbfpheenamiaaDoor.PF
/- The contract of word.Read: the number of the digits, or what is wrong with them; no condition. -/
namespace Go.Proofs.YtpjbfpheenamiaaDoor.PF
open Go.RowKit Go.Proofs.YtpjbfpheenamiaaDoorW.PrintWords
set_option linter.unusedVariables false
set_option linter.unusedSimpArgs false
theorem or16 (x y : Int) (hx₀ : 0 ≤ x) (hx : x % 16 = 0) (hx₁ : x < 65536) (h₀ : 0 ≤ y) (h₁ : y < 16) : Go.bits .or .u16 x y = x + y :=
  bits_join .u16 16 (by decide) (fun n h0 h1 => by simp [IntKind.wrap, IntKind.bits, IntKind.signed]; omega) 4 x y hx₀ hx hx₁ h₀ h₁ (by omega)
theorem wrapU16 (n : Int) : IntKind.u16.wrap n = n % 65536 := by simp [IntKind.wrap, IntKind.bits, IntKind.signed]
/-- What a sign is worth; -1: it is none. -/
def digV (c : Int) : Int := if 48 ≤ c ∧ c ≤ 57 then c - 48 else if 65 ≤ c ∧ c ≤ 70 then c - 55 else if 97 ≤ c ∧ c ≤ 102 then c - 87 else -1
theorem digV_hi {c : Int} (h : 128 ≤ c) : digV c = -1 := by
  unfold digV
  rw [if_neg (by omega), if_neg (by omega), if_neg (by omega)]
theorem digV_lt (c : Int) : digV c < 16 := by
  unfold digV
  split
  · omega
  · split
    · omega
    · split <;> omega
theorem digit_yes (c : Int) (w : World) (h : 0 ≤ digV c) (hc : c ≤ 2147483647) :
    Calls Tryd.prog 77 #[.int .i32 c] w fun e w' => e = .returned (.tuple #[.int .u16 (digV c), .bool true]) ∧ w = w' := by
  unfold digV at h ⊢
  by_cases h1 : 48 ≤ c ∧ c ≤ 57
  · rw [if_pos h1]
    obtain ⟨a, b⟩ := h1
    clear h
    go_enter Tryd.func77, Tryd.ntmps77
    go_wp2
    all_goals go_ret2
    all_goals exact ⟨by simp; try omega, rfl⟩
  · rw [if_neg h1] at h ⊢
    by_cases h2 : 65 ≤ c ∧ c ≤ 70
    · rw [if_pos h2]
      obtain ⟨a, b⟩ := h2
      have n : 57 < c := by omega
      clear h h1
      go_enter Tryd.func77, Tryd.ntmps77
      go_wp2
      all_goals go_ret2
      all_goals exact ⟨by simp; try omega, rfl⟩
    · rw [if_neg h2] at h ⊢
      by_cases h3 : 97 ≤ c ∧ c ≤ 102
      · rw [if_pos h3]
        obtain ⟨a, b⟩ := h3
        have n : 57 < c := by omega
        have n2 : 70 < c := by omega
        clear h h1 h2
        go_enter Tryd.func77, Tryd.ntmps77
        go_wp2
        all_goals go_ret2
        all_goals exact ⟨by simp; try omega, rfl⟩
      · rw [if_neg h3] at h
        omega
theorem digit_no (c : Int) (w : World) (h : digV c < 0) (hc : c ≤ 2147483647) :
    Calls Tryd.prog 77 #[.int .i32 c] w fun e w' => e = .returned (.tuple #[.int .u16 0, .bool false]) ∧ w = w' := by
  unfold digV at h
  have H : c < 48 ∨ (57 < c ∧ c < 65) ∨ (70 < c ∧ c < 97) ∨ 102 < c := by
    split at h
    · omega
    · split at h
      · omega
      · split at h <;> omega
  clear h
  rcases H with h | ⟨h, g⟩ | ⟨h, g⟩ | h
  · go_enter Tryd.func77, Tryd.ntmps77
    go_wp2
    all_goals go_ret2
    all_goals exact ⟨rfl, rfl⟩
  · go_enter Tryd.func77, Tryd.ntmps77
    go_wp2
    all_goals go_ret2
    all_goals exact ⟨rfl, rfl⟩
  · have n : 57 < c := by omega
    go_enter Tryd.func77, Tryd.ntmps77
    go_wp2
    all_goals go_ret2
    all_goals exact ⟨rfl, rfl⟩
  · have n : 57 < c := by omega
    have n2 : 70 < c := by omega
    go_enter Tryd.func77, Tryd.ntmps77
    go_wp2
    all_goals go_ret2
    all_goals exact ⟨rfl, rfl⟩
/-- The number that digits spell; -1: one of them is none. -/
def readV : List UInt8 → Int → Int
  | [], acc => acc
  | c :: l, acc => if digV c.toNat < 0 then -1 else readV l (acc * 16 % 65536 + digV c.toNat)
def word_Read.f (a0 : ByteArray) (a1 : Int) : Option (Int × Int) := if a1 < 1 then some (0, 1) else if a1 > 4 then some (0, 1) else if ¬ (a0.size : Int) = a1 then some (0, 6) else if readV a0.data.toList 0 < 0 then some (0, 6) else some (readV a0.data.toList 0, 0)
theorem word_Read.calls (a0 : ByteArray) (a1 : Int) (r1 : Int) (r2 : Int) (w : World) (h : word_Read.f a0 a1 = some (r1, r2)) :
    Calls Tryd.prog 59 #[.string a0, .int .i64 a1] w fun e w' => e = .returned (.tuple #[.int .u16 r1, .int .i64 r2]) ∧ Below w.heap.size w w' := by
  unfold word_Read.f at h
  by_cases h1 : a1 < 1
  · rw [if_pos h1] at h
    cases h
    go_enter Tryd.func59, Tryd.ntmps59
    go_wp2
    all_goals go_ret2
    all_goals exact ⟨rfl, by repeat (first | exact Below.refl _ _ | apply pw_below_drewN | apply below_drew1)⟩
  · rw [if_neg h1] at h
    by_cases h2 : a1 > 4
    · rw [if_pos h2] at h
      cases h
      go_enter Tryd.func59, Tryd.ntmps59
      go_wp2
      all_goals go_ret2
      all_goals exact ⟨rfl, by repeat (first | exact Below.refl _ _ | apply pw_below_drewN | apply below_drew1)⟩
    · rw [if_neg h2] at h
      have h1' : 1 ≤ a1 := by omega
      have h2' : a1 ≤ 4 := by omega
      by_cases h3 : (a0.size : Int) = a1
      · rw [if_neg (by simpa using h3)] at h
        subst h3
        have h3' : a0.size ≤ 4 := by omega
        clear h1 h2
        have HR := Lib.hid h
        clear h
        go_enter Tryd.func59, Tryd.ntmps59
        go_wp2
        go_loopw [6] (fun v wr => ∃ (pos : Nat) (acc : Int), wr = w.iter a0 pos ∧ pos ≤ a0.size ∧ v = .int .u16 acc ∧ 0 ≤ acc ∧ acc ≤ 65535 ∧ Hid (readV (a0.data.toList.drop pos) acc = readV a0.data.toList 0)) (fun _ wr => a0.size - wr.iterPos w.heap.size)
        case atStart => exact ⟨0, 0, rfl, Nat.zero_le _, rfl, by omega, by omega, Lib.hid rfl⟩
        case round =>
          obtain ⟨pos, acc, rfl, hp, rfl, ha, hb, hr⟩ := hrel
          by_cases hlt : pos < a0.size
          · have hdr : a0.data.toList.drop pos = a0[pos] :: a0.data.toList.drop (pos + 1) := by
              rw [List.drop_eq_getElem_cons (by simpa using hlt)]; rfl
            by_cases ha8 : (a0[pos]'hlt).toNat < 128
            · by_cases hd : digV (a0[pos]'hlt).toNat < 0
              · have hbad : readV a0.data.toList 0 = -1 := by rw [← hr.out, hdr, readV, if_pos hd]
                rw [hbad, if_pos (by omega)] at HR
                have hnx := fun ty => run_next_ascii (P := Tryd.prog) w a0 pos ty hlt ha8
                obtain ⟨c, hc⟩ : ∃ c : Int, c = ((a0[pos]'hlt).toNat : Int) := ⟨_, rfl⟩
                rw [← hc] at hd hnx
                have hc2 : c ≤ 2147483647 := by omega
                cases HR.out
                clear hdr hbad hr HR hc ha8
                go_wp2_with (go_at_call 77; refine (digit_no _ _ hd hc2).mono ?_; rintro e w' ⟨rfl, rfl⟩)
                all_goals go_ret2
                all_goals exact ⟨rfl, (Below.refl _ _).alloc (Nat.le_refl _) _⟩
              · have hgo : readV (a0.data.toList.drop (pos + 1)) (acc * 16 % 65536 + digV (a0[pos]'hlt).toNat) = readV a0.data.toList 0 := by rw [← hr.out, hdr, readV, if_neg hd]
                have hnx := fun ty => run_next_ascii (P := Tryd.prog) w a0 pos ty hlt ha8
                obtain ⟨c, hc⟩ : ∃ c : Int, c = ((a0[pos]'hlt).toNat : Int) := ⟨_, rfl⟩
                rw [← hc] at hd hnx hgo
                have hc2 : c ≤ 2147483647 := by omega
                have hd' : 0 ≤ digV c := by omega
                have hd2 : digV c < 16 := digV_lt c
                have hgo' := Lib.hid hgo
                clear hdr hr hc ha8 hd hgo
                obtain ⟨d, hdd⟩ : ∃ d, d = digV c := ⟨_, rfl⟩
                have hyes := fun w => digit_yes c w hd' hc2
                rw [← hdd] at hd' hd2 hyes hgo'
                clear hdd
                have eo := Lib.hid ((congrArg (fun z => Go.bits .or .u16 z d) (wrapU16 (acc * 16))).trans (or16 (acc * 16 % 65536) d (by omega) (by omega) (by omega) hd' (by omega)))
                go_wp2_with (go_at_call 77; refine (hyes _).mono ?_; rintro e w' ⟨rfl, rfl⟩)
                all_goals go_roundw
                case rel => exact ⟨pos + 1, _, rfl, by omega, rfl, by rw [eo.out]; omega, by rw [eo.out]; omega, by rw [eo.out]; exact hgo'⟩
                case measure => simp; omega
            · have hbad : readV a0.data.toList 0 = -1 := by rw [← hr.out, hdr, readV, if_pos (by rw [digV_hi (by omega)]; omega)]
              rw [hbad, if_pos (by omega)] at HR
              obtain ⟨hh, hw⟩ := decode_high a0 pos hlt (by omega)
              have hle := decode_le a0 pos
              have hnx := fun ty => run_next_any (P := Tryd.prog) w a0 pos ty hlt
              obtain ⟨c, hc⟩ : ∃ c : Nat, c = (Utf8.decode a0 pos).1 := ⟨_, rfl⟩
              obtain ⟨q, hq⟩ : ∃ q : Nat, q = (Utf8.decode a0 pos).2 := ⟨_, rfl⟩
              rw [← hc] at hh hle hnx
              rw [← hq] at hw hnx
              have hc2 : (c : Int) ≤ 2147483647 := by omega
              have hd : digV c < 0 := by rw [digV_hi (by omega)]; omega
              cases HR.out
              clear hdr hbad hr HR hc ha8 hq
              go_wp2_with (go_at_call 77; refine (digit_no _ _ hd hc2).mono ?_; rintro e w' ⟨rfl, rfl⟩)
              all_goals go_ret2
              all_goals exact ⟨rfl, (Below.refl _ _).alloc (Nat.le_refl _) _⟩
          · have hfin : readV a0.data.toList 0 = acc := by rw [← hr.out, List.drop_eq_nil_of_le (by simpa using hlt)]; rfl
            rw [hfin, if_neg (by omega)] at HR
            have hnx := fun ty => run_next_end (P := Tryd.prog) w a0 pos ty hlt
            cases HR.out
            clear hr HR hfin
            go_wp2
            all_goals go_ret2
            all_goals exact ⟨rfl, (Below.refl _ _).alloc (Nat.le_refl _) _⟩
      · rw [if_pos (by simpa using h3)] at h
        cases h
        have h3' : ((a0.size : Int) == a1) = false := by simpa using h3
        go_enter Tryd.func59, Tryd.ntmps59
        go_wp2
        all_goals go_ret2
        all_goals exact ⟨rfl, by repeat (first | exact Below.refl _ _ | apply pw_below_drewN | apply below_drew1)⟩
end Go.Proofs.YtpjbfpheenamiaaDoor.PF
/- The contracts of strings.IndexByte and, at ASCII bytes, strings.ToUpper, in the form of the other functions here; condition of the second: no more than 2^47 bytes, each below 128. -/
namespace Go.Proofs.YtpjbfpheenamiaaDoor.PF
open Go.RowKit Go.Proofs.YtpjbfpheenamiaaDoorW.PrintWords
set_option linter.unusedVariables false
def strings_IndexByte.f (a0 : ByteArray) (a1 : Int) : Option Int := some (Lib.indexByte a0.data.toList a1.toNat.toUInt8)
theorem strings_IndexByte.calls (a0 : ByteArray) (a1 : Int) (r : Int) (w : World) (h : strings_IndexByte.f a0 a1 = some r) :
    Calls Tryd.prog 58 #[.string a0, .int .u8 a1] w fun e w' => e = .returned (.int .i64 r) ∧ Drawn0 w w' := by
  cases h
  exact (Tryd.strings_IndexByte a0 a1 w).mono fun e w' ⟨he, hw⟩ => ⟨he, hw ▸ Drawn0.refl _⟩
def strings_ToUpper.f (a0 : ByteArray) : Option ByteArray := if a0.size ≤ 140737488355328 ∧ (a0.data.toList.all fun b => decide (b.toNat < 128)) = true then some ⟨(Lib.toUpperA a0.data.toList).toArray⟩ else none
theorem strings_ToUpper.calls (a0 : ByteArray) (r : ByteArray) (w : World) (h : strings_ToUpper.f a0 = some r) :
    Calls Tryd.prog 60 #[.string a0] w fun e w' => e = .returned (.string r) ∧ Below w.heap.size w w' := by
  unfold strings_ToUpper.f at h
  split at h
  case isFalse => cases h
  case isTrue hs =>
    obtain rfl := Option.some.inj h
    exact Tryd.strings_ToUpper_ascii a0 w hs.1 fun j b hj => of_decide_eq_true (List.all_eq_true.1 hs.2 b (List.mem_of_getElem? hj))
end Go.Proofs.YtpjbfpheenamiaaDoor.PF
