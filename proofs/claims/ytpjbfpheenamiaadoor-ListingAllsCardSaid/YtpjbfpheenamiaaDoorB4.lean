/- Texts of this claim, put together: GWays. -/
import Derived.Test.YtpjbfpheenamiaaDoorGWordsC
import Derived.Test.YtpjbfpheenamiaaDoorB1
import Derived.Test.YtpjbfpheenamiaaDoorB2
import Derived.WalkKit
import Derived.WalkSpells
import Derived.WalkLawsBesides
/- The plain kinds of listing.moves and listing.reckons, a walk each: its text; no condition but that of its parts. -/
namespace Go.Proofs.YtpjbfpheenamiaaDoor.PF
open Go.RowKit Go.Proofs.YtpjbfpheenamiaaDoorW.PrintWords Go.Proofs.YtpjbfpheenamiaaDoorW.PrintLast
set_option linter.unusedVariables false
set_option linter.unusedSimpArgs false
set_option maxHeartbeats 1000000
set_option maxRecDepth 100000
/-- Parts that lie in a block just made, joined. -/
theorem join_new (w : World) (l : List ByteArray) (t : TypeId) (r : ByteArray) (h : listing_join.f l = some r) :
    Calls Tryd.prog 37 #[.slice (some ⟨w.heap.size, 0, none⟩) l.length l.length] (w.alloc (.cells (l.map Value.string).toArray t (0, 0))) fun e w' => e = .returned (.string r) ∧ Below w.heap.size w w' := by
  have hb : (w.alloc (.cells (l.map Value.string).toArray t (0, 0))).heap[w.heap.size]? = some (.cells (l.map Value.string).toArray t (0, 0)) := blk_new w _
  have hl : l.length ≤ 140737488355328 := by
    unfold listing_join.f at h
    split at h
    case isTrue hs => exact hs.2
    case isFalse => cases h
  refine (listing_join.calls _ _ l r _ ⟨rfl, by omega, fun hn => ⟨_, rfl, fun j y hy => ⟨[.string y], rfl, rfl, fun q u hq => ?_⟩⟩⟩ (Nat.le_refl _) h).mono fun e w' ⟨he, hw⟩ => ⟨he, ((Below.refl _ _).alloc (Nat.le_refl _) _).trans (hw.mono (by simp))⟩
  rcases q with _ | q
  · cases hq
    show (w.alloc _).cell? ((⟨w.heap.size, 0, none⟩ : Addr).add (j * 1 + 0)) = _
    have e1 : (⟨w.heap.size, 0, none⟩ : Addr).add (j * 1 + 0) = ⟨w.heap.size, j, none⟩ := by
      unfold Addr.add
      split
      case isTrue h0 => simp at h0; subst h0; rfl
      case isFalse => simp
    rw [e1, blk_cell hb j]
    simp [hy]
  · cases hq
theorem bel_new {w W w' : World} (hB : Below w.heap.size w W) (hb : Below W.heap.size W w') : Below w.heap.size w w' := hB.trans (hb.mono hB.size)
theorem moves_w8 (a0_1 a0_2 a0_3 a0_4 a0_5 : Int) (a1 a2 : ByteArray) (r : ByteArray) (w : World) (t0 : ByteArray) (h0 : listing_register.f a0_1 = some t0) (hj : listing_join.f [(⟨#[76, 68, 32]⟩ : ByteArray), t0, (⟨#[44]⟩ : ByteArray), a1] = some r) :
    Calls Tryd.prog 40 #[.agg #[.int .i64 8, .int .i64 a0_1, .int .i64 a0_2, .int .i64 a0_3, .int .i64 a0_4, .int .i64 a0_5], .string a1, .string a2] w fun e w' => e = .returned (.string r) ∧ Below w.heap.size w w' := by
  have hu46 := Tryd.underlying46
  have EJ := Aside0.mk hj
  have E0 := Aside0.mk h0
  clear h0
  clear hj
  go_enter Tryd.func40, Tryd.ntmps40
  go_wp2_with (first | ((with_reducible refine gate_dst (N := 3) rfl ?_); refine box_event ?hg (N := 3) ?hd (cs := #[.int .i64 8, .int .i64 a0_1, .int .i64 a0_2, .int .i64 a0_3, .int .i64 a0_4, .int .i64 a0_5]) (t := 46) ?hr ?_; (case hd => rfl); (case hg => rfl); (case hr => first | (go_simp; done) | (go_simp; rfl)); intro g hg wb hbox hb; have BB := Aside0.mk hb; obtain ⟨z0, z1, z2, z3, z4, z5, y0, y1, y2, y3, y4, y5⟩ := blk6 hbox; clear hg hbox hb) | (go_at_call 65; refine (listing_register.calls _ _ _ E0.out).mono ?_; rintro e w' ⟨rfl, ⟨nd, rfl⟩⟩) | (go_at_call 37; refine (join_new _ [(⟨#[76, 68, 32]⟩ : ByteArray), t0, (⟨#[44]⟩ : ByteArray), a1] _ _ EJ.out).mono ?_; rintro e w' ⟨rfl, hb⟩; have BR := Aside0.mk (bel_new (by repeat (first | exact BB.out | apply pw_below_drewN)) hb); clear hb))
  go_ret
  exact ⟨rfl, BR.out⟩
theorem moves_w9 (a0_1 a0_2 a0_3 a0_4 a0_5 : Int) (a1 a2 : ByteArray) (r : ByteArray) (w : World) (t0 : ByteArray) (h0 : listing_place.f a0_1 = some t0) (hj : listing_join.f [(⟨#[76, 68, 32, 65, 44]⟩ : ByteArray), t0] = some r) :
    Calls Tryd.prog 40 #[.agg #[.int .i64 9, .int .i64 a0_1, .int .i64 a0_2, .int .i64 a0_3, .int .i64 a0_4, .int .i64 a0_5], .string a1, .string a2] w fun e w' => e = .returned (.string r) ∧ Below w.heap.size w w' := by
  have hu46 := Tryd.underlying46
  have EJ := Aside0.mk hj
  have E0 := Aside0.mk h0
  clear h0
  clear hj
  go_enter Tryd.func40, Tryd.ntmps40
  go_wp2_with (first | ((with_reducible refine gate_dst (N := 3) rfl ?_); refine box_event ?hg (N := 3) ?hd (cs := #[.int .i64 9, .int .i64 a0_1, .int .i64 a0_2, .int .i64 a0_3, .int .i64 a0_4, .int .i64 a0_5]) (t := 46) ?hr ?_; (case hd => rfl); (case hg => rfl); (case hr => first | (go_simp; done) | (go_simp; rfl)); intro g hg wb hbox hb; have BB := Aside0.mk hb; obtain ⟨z0, z1, z2, z3, z4, z5, y0, y1, y2, y3, y4, y5⟩ := blk6 hbox; clear hg hbox hb) | (go_at_call 66; refine (listing_place.calls _ _ _ E0.out).mono ?_; rintro e w' ⟨rfl, ⟨nd, rfl⟩⟩) | (go_at_call 37; refine (join_new _ [(⟨#[76, 68, 32, 65, 44]⟩ : ByteArray), t0] _ _ EJ.out).mono ?_; rintro e w' ⟨rfl, hb⟩; have BR := Aside0.mk (bel_new (by repeat (first | exact BB.out | apply pw_below_drewN)) hb); clear hb))
  go_ret
  exact ⟨rfl, BR.out⟩
theorem moves_w10 (a0_1 a0_2 a0_3 a0_4 a0_5 : Int) (a1 a2 : ByteArray) (r : ByteArray) (w : World) (t0 : ByteArray) (h0 : listing_place.f a0_1 = some t0) (hj : listing_join.f [(⟨#[76, 68, 32]⟩ : ByteArray), t0, (⟨#[44, 65]⟩ : ByteArray)] = some r) :
    Calls Tryd.prog 40 #[.agg #[.int .i64 10, .int .i64 a0_1, .int .i64 a0_2, .int .i64 a0_3, .int .i64 a0_4, .int .i64 a0_5], .string a1, .string a2] w fun e w' => e = .returned (.string r) ∧ Below w.heap.size w w' := by
  have hu46 := Tryd.underlying46
  have EJ := Aside0.mk hj
  have E0 := Aside0.mk h0
  clear h0
  clear hj
  go_enter Tryd.func40, Tryd.ntmps40
  go_wp2_with (first | ((with_reducible refine gate_dst (N := 3) rfl ?_); refine box_event ?hg (N := 3) ?hd (cs := #[.int .i64 10, .int .i64 a0_1, .int .i64 a0_2, .int .i64 a0_3, .int .i64 a0_4, .int .i64 a0_5]) (t := 46) ?hr ?_; (case hd => rfl); (case hg => rfl); (case hr => first | (go_simp; done) | (go_simp; rfl)); intro g hg wb hbox hb; have BB := Aside0.mk hb; obtain ⟨z0, z1, z2, z3, z4, z5, y0, y1, y2, y3, y4, y5⟩ := blk6 hbox; clear hg hbox hb) | (go_at_call 66; refine (listing_place.calls _ _ _ E0.out).mono ?_; rintro e w' ⟨rfl, ⟨nd, rfl⟩⟩) | (go_at_call 37; refine (join_new _ [(⟨#[76, 68, 32]⟩ : ByteArray), t0, (⟨#[44, 65]⟩ : ByteArray)] _ _ EJ.out).mono ?_; rintro e w' ⟨rfl, hb⟩; have BR := Aside0.mk (bel_new (by repeat (first | exact BB.out | apply pw_below_drewN)) hb); clear hb))
  go_ret
  exact ⟨rfl, BR.out⟩
theorem moves_w11 (a0_1 a0_2 a0_3 a0_4 a0_5 : Int) (a1 a2 : ByteArray) (r : ByteArray) (w : World) (hj : listing_join.f [(⟨#[76, 68, 72, 32, 65, 44, 40]⟩ : ByteArray), a1, (⟨#[41]⟩ : ByteArray)] = some r) :
    Calls Tryd.prog 40 #[.agg #[.int .i64 11, .int .i64 a0_1, .int .i64 a0_2, .int .i64 a0_3, .int .i64 a0_4, .int .i64 a0_5], .string a1, .string a2] w fun e w' => e = .returned (.string r) ∧ Below w.heap.size w w' := by
  have hu46 := Tryd.underlying46
  have EJ := Aside0.mk hj
  clear hj
  go_enter Tryd.func40, Tryd.ntmps40
  go_wp2_with (first | ((with_reducible refine gate_dst (N := 3) rfl ?_); refine box_event ?hg (N := 3) ?hd (cs := #[.int .i64 11, .int .i64 a0_1, .int .i64 a0_2, .int .i64 a0_3, .int .i64 a0_4, .int .i64 a0_5]) (t := 46) ?hr ?_; (case hd => rfl); (case hg => rfl); (case hr => first | (go_simp; done) | (go_simp; rfl)); intro g hg wb hbox hb; have BB := Aside0.mk hb; obtain ⟨z0, z1, z2, z3, z4, z5, y0, y1, y2, y3, y4, y5⟩ := blk6 hbox; clear hg hbox hb) | (go_at_call 37; refine (join_new _ [(⟨#[76, 68, 72, 32, 65, 44, 40]⟩ : ByteArray), a1, (⟨#[41]⟩ : ByteArray)] _ _ EJ.out).mono ?_; rintro e w' ⟨rfl, hb⟩; have BR := Aside0.mk (bel_new (by repeat (first | exact BB.out | apply pw_below_drewN)) hb); clear hb))
  go_ret
  exact ⟨rfl, BR.out⟩
theorem moves_w12 (a0_1 a0_2 a0_3 a0_4 a0_5 : Int) (a1 a2 : ByteArray) (r : ByteArray) (w : World) (hj : listing_join.f [(⟨#[76, 68, 72, 32, 40]⟩ : ByteArray), a1, (⟨#[41, 44, 65]⟩ : ByteArray)] = some r) :
    Calls Tryd.prog 40 #[.agg #[.int .i64 12, .int .i64 a0_1, .int .i64 a0_2, .int .i64 a0_3, .int .i64 a0_4, .int .i64 a0_5], .string a1, .string a2] w fun e w' => e = .returned (.string r) ∧ Below w.heap.size w w' := by
  have hu46 := Tryd.underlying46
  have EJ := Aside0.mk hj
  clear hj
  go_enter Tryd.func40, Tryd.ntmps40
  go_wp2_with (first | ((with_reducible refine gate_dst (N := 3) rfl ?_); refine box_event ?hg (N := 3) ?hd (cs := #[.int .i64 12, .int .i64 a0_1, .int .i64 a0_2, .int .i64 a0_3, .int .i64 a0_4, .int .i64 a0_5]) (t := 46) ?hr ?_; (case hd => rfl); (case hg => rfl); (case hr => first | (go_simp; done) | (go_simp; rfl)); intro g hg wb hbox hb; have BB := Aside0.mk hb; obtain ⟨z0, z1, z2, z3, z4, z5, y0, y1, y2, y3, y4, y5⟩ := blk6 hbox; clear hg hbox hb) | (go_at_call 37; refine (join_new _ [(⟨#[76, 68, 72, 32, 40]⟩ : ByteArray), a1, (⟨#[41, 44, 65]⟩ : ByteArray)] _ _ EJ.out).mono ?_; rintro e w' ⟨rfl, hb⟩; have BR := Aside0.mk (bel_new (by repeat (first | exact BB.out | apply pw_below_drewN)) hb); clear hb))
  go_ret
  exact ⟨rfl, BR.out⟩
theorem moves_w15 (a0_1 a0_2 a0_3 a0_4 a0_5 : Int) (a1 a2 : ByteArray) (r : ByteArray) (w : World) (hj : listing_join.f [(⟨#[76, 68, 32, 65, 44, 40]⟩ : ByteArray), a2, (⟨#[41]⟩ : ByteArray)] = some r) :
    Calls Tryd.prog 40 #[.agg #[.int .i64 15, .int .i64 a0_1, .int .i64 a0_2, .int .i64 a0_3, .int .i64 a0_4, .int .i64 a0_5], .string a1, .string a2] w fun e w' => e = .returned (.string r) ∧ Below w.heap.size w w' := by
  have hu46 := Tryd.underlying46
  have EJ := Aside0.mk hj
  clear hj
  go_enter Tryd.func40, Tryd.ntmps40
  go_wp2_with (first | ((with_reducible refine gate_dst (N := 3) rfl ?_); refine box_event ?hg (N := 3) ?hd (cs := #[.int .i64 15, .int .i64 a0_1, .int .i64 a0_2, .int .i64 a0_3, .int .i64 a0_4, .int .i64 a0_5]) (t := 46) ?hr ?_; (case hd => rfl); (case hg => rfl); (case hr => first | (go_simp; done) | (go_simp; rfl)); intro g hg wb hbox hb; have BB := Aside0.mk hb; obtain ⟨z0, z1, z2, z3, z4, z5, y0, y1, y2, y3, y4, y5⟩ := blk6 hbox; clear hg hbox hb) | (go_at_call 37; refine (join_new _ [(⟨#[76, 68, 32, 65, 44, 40]⟩ : ByteArray), a2, (⟨#[41]⟩ : ByteArray)] _ _ EJ.out).mono ?_; rintro e w' ⟨rfl, hb⟩; have BR := Aside0.mk (bel_new (by repeat (first | exact BB.out | apply pw_below_drewN)) hb); clear hb))
  go_ret
  exact ⟨rfl, BR.out⟩
theorem moves_w16 (a0_1 a0_2 a0_3 a0_4 a0_5 : Int) (a1 a2 : ByteArray) (r : ByteArray) (w : World) (hj : listing_join.f [(⟨#[76, 68, 32, 40]⟩ : ByteArray), a2, (⟨#[41, 44, 65]⟩ : ByteArray)] = some r) :
    Calls Tryd.prog 40 #[.agg #[.int .i64 16, .int .i64 a0_1, .int .i64 a0_2, .int .i64 a0_3, .int .i64 a0_4, .int .i64 a0_5], .string a1, .string a2] w fun e w' => e = .returned (.string r) ∧ Below w.heap.size w w' := by
  have hu46 := Tryd.underlying46
  have EJ := Aside0.mk hj
  clear hj
  go_enter Tryd.func40, Tryd.ntmps40
  go_wp2_with (first | ((with_reducible refine gate_dst (N := 3) rfl ?_); refine box_event ?hg (N := 3) ?hd (cs := #[.int .i64 16, .int .i64 a0_1, .int .i64 a0_2, .int .i64 a0_3, .int .i64 a0_4, .int .i64 a0_5]) (t := 46) ?hr ?_; (case hd => rfl); (case hg => rfl); (case hr => first | (go_simp; done) | (go_simp; rfl)); intro g hg wb hbox hb; have BB := Aside0.mk hb; obtain ⟨z0, z1, z2, z3, z4, z5, y0, y1, y2, y3, y4, y5⟩ := blk6 hbox; clear hg hbox hb) | (go_at_call 37; refine (join_new _ [(⟨#[76, 68, 32, 40]⟩ : ByteArray), a2, (⟨#[41, 44, 65]⟩ : ByteArray)] _ _ EJ.out).mono ?_; rintro e w' ⟨rfl, hb⟩; have BR := Aside0.mk (bel_new (by repeat (first | exact BB.out | apply pw_below_drewN)) hb); clear hb))
  go_ret
  exact ⟨rfl, BR.out⟩
theorem moves_w17 (a0_1 a0_2 a0_3 a0_4 a0_5 : Int) (a1 a2 : ByteArray) (r : ByteArray) (w : World) (t0 : ByteArray) (h0 : listing_pair.f a0_1 = some t0) (hj : listing_join.f [(⟨#[76, 68, 32]⟩ : ByteArray), t0, (⟨#[44]⟩ : ByteArray), a2] = some r) :
    Calls Tryd.prog 40 #[.agg #[.int .i64 17, .int .i64 a0_1, .int .i64 a0_2, .int .i64 a0_3, .int .i64 a0_4, .int .i64 a0_5], .string a1, .string a2] w fun e w' => e = .returned (.string r) ∧ Below w.heap.size w w' := by
  have hu46 := Tryd.underlying46
  have EJ := Aside0.mk hj
  have E0 := Aside0.mk h0
  clear h0
  clear hj
  go_enter Tryd.func40, Tryd.ntmps40
  go_wp2_with (first | ((with_reducible refine gate_dst (N := 3) rfl ?_); refine box_event ?hg (N := 3) ?hd (cs := #[.int .i64 17, .int .i64 a0_1, .int .i64 a0_2, .int .i64 a0_3, .int .i64 a0_4, .int .i64 a0_5]) (t := 46) ?hr ?_; (case hd => rfl); (case hg => rfl); (case hr => first | (go_simp; done) | (go_simp; rfl)); intro g hg wb hbox hb; have BB := Aside0.mk hb; obtain ⟨z0, z1, z2, z3, z4, z5, y0, y1, y2, y3, y4, y5⟩ := blk6 hbox; clear hg hbox hb) | (go_at_call 67; refine (listing_pair.calls _ _ _ E0.out).mono ?_; rintro e w' ⟨rfl, ⟨nd, rfl⟩⟩) | (go_at_call 37; refine (join_new _ [(⟨#[76, 68, 32]⟩ : ByteArray), t0, (⟨#[44]⟩ : ByteArray), a2] _ _ EJ.out).mono ?_; rintro e w' ⟨rfl, hb⟩; have BR := Aside0.mk (bel_new (by repeat (first | exact BB.out | apply pw_below_drewN)) hb); clear hb))
  go_ret
  exact ⟨rfl, BR.out⟩
theorem moves_w18 (a0_1 a0_2 a0_3 a0_4 a0_5 : Int) (a1 a2 : ByteArray) (r : ByteArray) (w : World) (hj : listing_join.f [(⟨#[76, 68, 32, 40]⟩ : ByteArray), a2, (⟨#[41, 44, 83, 80]⟩ : ByteArray)] = some r) :
    Calls Tryd.prog 40 #[.agg #[.int .i64 18, .int .i64 a0_1, .int .i64 a0_2, .int .i64 a0_3, .int .i64 a0_4, .int .i64 a0_5], .string a1, .string a2] w fun e w' => e = .returned (.string r) ∧ Below w.heap.size w w' := by
  have hu46 := Tryd.underlying46
  have EJ := Aside0.mk hj
  clear hj
  go_enter Tryd.func40, Tryd.ntmps40
  go_wp2_with (first | ((with_reducible refine gate_dst (N := 3) rfl ?_); refine box_event ?hg (N := 3) ?hd (cs := #[.int .i64 18, .int .i64 a0_1, .int .i64 a0_2, .int .i64 a0_3, .int .i64 a0_4, .int .i64 a0_5]) (t := 46) ?hr ?_; (case hd => rfl); (case hg => rfl); (case hr => first | (go_simp; done) | (go_simp; rfl)); intro g hg wb hbox hb; have BB := Aside0.mk hb; obtain ⟨z0, z1, z2, z3, z4, z5, y0, y1, y2, y3, y4, y5⟩ := blk6 hbox; clear hg hbox hb) | (go_at_call 37; refine (join_new _ [(⟨#[76, 68, 32, 40]⟩ : ByteArray), a2, (⟨#[41, 44, 83, 80]⟩ : ByteArray)] _ _ EJ.out).mono ?_; rintro e w' ⟨rfl, hb⟩; have BR := Aside0.mk (bel_new (by repeat (first | exact BB.out | apply pw_below_drewN)) hb); clear hb))
  go_ret
  exact ⟨rfl, BR.out⟩
theorem moves_w20 (a0_1 a0_2 a0_3 a0_4 a0_5 : Int) (a1 a2 : ByteArray) (r : ByteArray) (w : World) (hj : listing_join.f [(⟨#[76, 68, 32, 72, 76, 44, 83, 80, 43]⟩ : ByteArray), a1] = some r) :
    Calls Tryd.prog 40 #[.agg #[.int .i64 20, .int .i64 a0_1, .int .i64 a0_2, .int .i64 a0_3, .int .i64 a0_4, .int .i64 a0_5], .string a1, .string a2] w fun e w' => e = .returned (.string r) ∧ Below w.heap.size w w' := by
  have hu46 := Tryd.underlying46
  have EJ := Aside0.mk hj
  clear hj
  go_enter Tryd.func40, Tryd.ntmps40
  go_wp2_with (first | ((with_reducible refine gate_dst (N := 3) rfl ?_); refine box_event ?hg (N := 3) ?hd (cs := #[.int .i64 20, .int .i64 a0_1, .int .i64 a0_2, .int .i64 a0_3, .int .i64 a0_4, .int .i64 a0_5]) (t := 46) ?hr ?_; (case hd => rfl); (case hg => rfl); (case hr => first | (go_simp; done) | (go_simp; rfl)); intro g hg wb hbox hb; have BB := Aside0.mk hb; obtain ⟨z0, z1, z2, z3, z4, z5, y0, y1, y2, y3, y4, y5⟩ := blk6 hbox; clear hg hbox hb) | (go_at_call 37; refine (join_new _ [(⟨#[76, 68, 32, 72, 76, 44, 83, 80, 43]⟩ : ByteArray), a1] _ _ EJ.out).mono ?_; rintro e w' ⟨rfl, hb⟩; have BR := Aside0.mk (bel_new (by repeat (first | exact BB.out | apply pw_below_drewN)) hb); clear hb))
  go_ret
  exact ⟨rfl, BR.out⟩
theorem moves_w21 (a0_1 a0_2 a0_3 a0_4 a0_5 : Int) (a1 a2 : ByteArray) (r : ByteArray) (w : World) (t0 : ByteArray) (h0 : listing_pair.f a0_1 = some t0) (hj : listing_join.f [(⟨#[80, 85, 83, 72, 32]⟩ : ByteArray), t0] = some r) :
    Calls Tryd.prog 40 #[.agg #[.int .i64 21, .int .i64 a0_1, .int .i64 a0_2, .int .i64 a0_3, .int .i64 a0_4, .int .i64 a0_5], .string a1, .string a2] w fun e w' => e = .returned (.string r) ∧ Below w.heap.size w w' := by
  have hu46 := Tryd.underlying46
  have EJ := Aside0.mk hj
  have E0 := Aside0.mk h0
  clear h0
  clear hj
  go_enter Tryd.func40, Tryd.ntmps40
  go_wp2_with (first | ((with_reducible refine gate_dst (N := 3) rfl ?_); refine box_event ?hg (N := 3) ?hd (cs := #[.int .i64 21, .int .i64 a0_1, .int .i64 a0_2, .int .i64 a0_3, .int .i64 a0_4, .int .i64 a0_5]) (t := 46) ?hr ?_; (case hd => rfl); (case hg => rfl); (case hr => first | (go_simp; done) | (go_simp; rfl)); intro g hg wb hbox hb; have BB := Aside0.mk hb; obtain ⟨z0, z1, z2, z3, z4, z5, y0, y1, y2, y3, y4, y5⟩ := blk6 hbox; clear hg hbox hb) | (go_at_call 67; refine (listing_pair.calls _ _ _ E0.out).mono ?_; rintro e w' ⟨rfl, ⟨nd, rfl⟩⟩) | (go_at_call 37; refine (join_new _ [(⟨#[80, 85, 83, 72, 32]⟩ : ByteArray), t0] _ _ EJ.out).mono ?_; rintro e w' ⟨rfl, hb⟩; have BR := Aside0.mk (bel_new (by repeat (first | exact BB.out | apply pw_below_drewN)) hb); clear hb))
  go_ret
  exact ⟨rfl, BR.out⟩
theorem moves_w22 (a0_1 a0_2 a0_3 a0_4 a0_5 : Int) (a1 a2 : ByteArray) (r : ByteArray) (w : World) (t0 : ByteArray) (h0 : listing_pair.f a0_1 = some t0) (hj : listing_join.f [(⟨#[80, 79, 80, 32]⟩ : ByteArray), t0] = some r) :
    Calls Tryd.prog 40 #[.agg #[.int .i64 22, .int .i64 a0_1, .int .i64 a0_2, .int .i64 a0_3, .int .i64 a0_4, .int .i64 a0_5], .string a1, .string a2] w fun e w' => e = .returned (.string r) ∧ Below w.heap.size w w' := by
  have hu46 := Tryd.underlying46
  have EJ := Aside0.mk hj
  have E0 := Aside0.mk h0
  clear h0
  clear hj
  go_enter Tryd.func40, Tryd.ntmps40
  go_wp2_with (first | ((with_reducible refine gate_dst (N := 3) rfl ?_); refine box_event ?hg (N := 3) ?hd (cs := #[.int .i64 22, .int .i64 a0_1, .int .i64 a0_2, .int .i64 a0_3, .int .i64 a0_4, .int .i64 a0_5]) (t := 46) ?hr ?_; (case hd => rfl); (case hg => rfl); (case hr => first | (go_simp; done) | (go_simp; rfl)); intro g hg wb hbox hb; have BB := Aside0.mk hb; obtain ⟨z0, z1, z2, z3, z4, z5, y0, y1, y2, y3, y4, y5⟩ := blk6 hbox; clear hg hbox hb) | (go_at_call 67; refine (listing_pair.calls _ _ _ E0.out).mono ?_; rintro e w' ⟨rfl, ⟨nd, rfl⟩⟩) | (go_at_call 37; refine (join_new _ [(⟨#[80, 79, 80, 32]⟩ : ByteArray), t0] _ _ EJ.out).mono ?_; rintro e w' ⟨rfl, hb⟩; have BR := Aside0.mk (bel_new (by repeat (first | exact BB.out | apply pw_below_drewN)) hb); clear hb))
  go_ret
  exact ⟨rfl, BR.out⟩
theorem reck_w24 (a0_1 a0_2 a0_3 a0_4 a0_5 : Int) (a1 : ByteArray) (r : ByteArray) (w : World) (t0 : ByteArray) (h0 : listing_operation.f a0_1 = some t0) (hj : listing_join.f [t0, (⟨#[32]⟩ : ByteArray), a1] = some r) :
    Calls Tryd.prog 41 #[.agg #[.int .i64 24, .int .i64 a0_1, .int .i64 a0_2, .int .i64 a0_3, .int .i64 a0_4, .int .i64 a0_5], .string a1] w fun e w' => e = .returned (.string r) ∧ Below w.heap.size w w' := by
  have hu46 := Tryd.underlying46
  have EJ := Aside0.mk hj
  have E0 := Aside0.mk h0
  clear h0
  clear hj
  go_enter Tryd.func41, Tryd.ntmps41
  go_wp2_with (first | ((with_reducible refine gate_dst (N := 2) rfl ?_); refine box_event ?hg (N := 2) ?hd (cs := #[.int .i64 24, .int .i64 a0_1, .int .i64 a0_2, .int .i64 a0_3, .int .i64 a0_4, .int .i64 a0_5]) (t := 46) ?hr ?_; (case hd => rfl); (case hg => rfl); (case hr => first | (go_simp; done) | (go_simp; rfl)); intro g hg wb hbox hb; have BB := Aside0.mk hb; obtain ⟨z0, z1, z2, z3, z4, z5, y0, y1, y2, y3, y4, y5⟩ := blk6 hbox; clear hg hbox hb) | (go_at_call 68; refine (listing_operation.calls _ _ _ E0.out).mono ?_; rintro e w' ⟨rfl, ⟨nd, rfl⟩⟩) | (go_at_call 37; refine (join_new _ [t0, (⟨#[32]⟩ : ByteArray), a1] _ _ EJ.out).mono ?_; rintro e w' ⟨rfl, hb⟩; have BR := Aside0.mk (bel_new (by repeat (first | exact BB.out | apply pw_below_drewN)) hb); clear hb))
  go_ret
  exact ⟨rfl, BR.out⟩
theorem reck_w25 (a0_1 a0_2 a0_3 a0_4 a0_5 : Int) (a1 : ByteArray) (r : ByteArray) (w : World) (t0 : ByteArray) (h0 : listing_register.f a0_1 = some t0) (hj : listing_join.f [(⟨#[73, 78, 67, 32]⟩ : ByteArray), t0] = some r) :
    Calls Tryd.prog 41 #[.agg #[.int .i64 25, .int .i64 a0_1, .int .i64 a0_2, .int .i64 a0_3, .int .i64 a0_4, .int .i64 a0_5], .string a1] w fun e w' => e = .returned (.string r) ∧ Below w.heap.size w w' := by
  have hu46 := Tryd.underlying46
  have EJ := Aside0.mk hj
  have E0 := Aside0.mk h0
  clear h0
  clear hj
  go_enter Tryd.func41, Tryd.ntmps41
  go_wp2_with (first | ((with_reducible refine gate_dst (N := 2) rfl ?_); refine box_event ?hg (N := 2) ?hd (cs := #[.int .i64 25, .int .i64 a0_1, .int .i64 a0_2, .int .i64 a0_3, .int .i64 a0_4, .int .i64 a0_5]) (t := 46) ?hr ?_; (case hd => rfl); (case hg => rfl); (case hr => first | (go_simp; done) | (go_simp; rfl)); intro g hg wb hbox hb; have BB := Aside0.mk hb; obtain ⟨z0, z1, z2, z3, z4, z5, y0, y1, y2, y3, y4, y5⟩ := blk6 hbox; clear hg hbox hb) | (go_at_call 65; refine (listing_register.calls _ _ _ E0.out).mono ?_; rintro e w' ⟨rfl, ⟨nd, rfl⟩⟩) | (go_at_call 37; refine (join_new _ [(⟨#[73, 78, 67, 32]⟩ : ByteArray), t0] _ _ EJ.out).mono ?_; rintro e w' ⟨rfl, hb⟩; have BR := Aside0.mk (bel_new (by repeat (first | exact BB.out | apply pw_below_drewN)) hb); clear hb))
  go_ret
  exact ⟨rfl, BR.out⟩
theorem reck_w26 (a0_1 a0_2 a0_3 a0_4 a0_5 : Int) (a1 : ByteArray) (r : ByteArray) (w : World) (t0 : ByteArray) (h0 : listing_register.f a0_1 = some t0) (hj : listing_join.f [(⟨#[68, 69, 67, 32]⟩ : ByteArray), t0] = some r) :
    Calls Tryd.prog 41 #[.agg #[.int .i64 26, .int .i64 a0_1, .int .i64 a0_2, .int .i64 a0_3, .int .i64 a0_4, .int .i64 a0_5], .string a1] w fun e w' => e = .returned (.string r) ∧ Below w.heap.size w w' := by
  have hu46 := Tryd.underlying46
  have EJ := Aside0.mk hj
  have E0 := Aside0.mk h0
  clear h0
  clear hj
  go_enter Tryd.func41, Tryd.ntmps41
  go_wp2_with (first | ((with_reducible refine gate_dst (N := 2) rfl ?_); refine box_event ?hg (N := 2) ?hd (cs := #[.int .i64 26, .int .i64 a0_1, .int .i64 a0_2, .int .i64 a0_3, .int .i64 a0_4, .int .i64 a0_5]) (t := 46) ?hr ?_; (case hd => rfl); (case hg => rfl); (case hr => first | (go_simp; done) | (go_simp; rfl)); intro g hg wb hbox hb; have BB := Aside0.mk hb; obtain ⟨z0, z1, z2, z3, z4, z5, y0, y1, y2, y3, y4, y5⟩ := blk6 hbox; clear hg hbox hb) | (go_at_call 65; refine (listing_register.calls _ _ _ E0.out).mono ?_; rintro e w' ⟨rfl, ⟨nd, rfl⟩⟩) | (go_at_call 37; refine (join_new _ [(⟨#[68, 69, 67, 32]⟩ : ByteArray), t0] _ _ EJ.out).mono ?_; rintro e w' ⟨rfl, hb⟩; have BR := Aside0.mk (bel_new (by repeat (first | exact BB.out | apply pw_below_drewN)) hb); clear hb))
  go_ret
  exact ⟨rfl, BR.out⟩
theorem reck_w27 (a0_1 a0_2 a0_3 a0_4 a0_5 : Int) (a1 : ByteArray) (r : ByteArray) (w : World) (t0 : ByteArray) (h0 : listing_pair.f a0_1 = some t0) (hj : listing_join.f [(⟨#[73, 78, 67, 32]⟩ : ByteArray), t0] = some r) :
    Calls Tryd.prog 41 #[.agg #[.int .i64 27, .int .i64 a0_1, .int .i64 a0_2, .int .i64 a0_3, .int .i64 a0_4, .int .i64 a0_5], .string a1] w fun e w' => e = .returned (.string r) ∧ Below w.heap.size w w' := by
  have hu46 := Tryd.underlying46
  have EJ := Aside0.mk hj
  have E0 := Aside0.mk h0
  clear h0
  clear hj
  go_enter Tryd.func41, Tryd.ntmps41
  go_wp2_with (first | ((with_reducible refine gate_dst (N := 2) rfl ?_); refine box_event ?hg (N := 2) ?hd (cs := #[.int .i64 27, .int .i64 a0_1, .int .i64 a0_2, .int .i64 a0_3, .int .i64 a0_4, .int .i64 a0_5]) (t := 46) ?hr ?_; (case hd => rfl); (case hg => rfl); (case hr => first | (go_simp; done) | (go_simp; rfl)); intro g hg wb hbox hb; have BB := Aside0.mk hb; obtain ⟨z0, z1, z2, z3, z4, z5, y0, y1, y2, y3, y4, y5⟩ := blk6 hbox; clear hg hbox hb) | (go_at_call 67; refine (listing_pair.calls _ _ _ E0.out).mono ?_; rintro e w' ⟨rfl, ⟨nd, rfl⟩⟩) | (go_at_call 37; refine (join_new _ [(⟨#[73, 78, 67, 32]⟩ : ByteArray), t0] _ _ EJ.out).mono ?_; rintro e w' ⟨rfl, hb⟩; have BR := Aside0.mk (bel_new (by repeat (first | exact BB.out | apply pw_below_drewN)) hb); clear hb))
  go_ret
  exact ⟨rfl, BR.out⟩
theorem reck_w28 (a0_1 a0_2 a0_3 a0_4 a0_5 : Int) (a1 : ByteArray) (r : ByteArray) (w : World) (t0 : ByteArray) (h0 : listing_pair.f a0_1 = some t0) (hj : listing_join.f [(⟨#[68, 69, 67, 32]⟩ : ByteArray), t0] = some r) :
    Calls Tryd.prog 41 #[.agg #[.int .i64 28, .int .i64 a0_1, .int .i64 a0_2, .int .i64 a0_3, .int .i64 a0_4, .int .i64 a0_5], .string a1] w fun e w' => e = .returned (.string r) ∧ Below w.heap.size w w' := by
  have hu46 := Tryd.underlying46
  have EJ := Aside0.mk hj
  have E0 := Aside0.mk h0
  clear h0
  clear hj
  go_enter Tryd.func41, Tryd.ntmps41
  go_wp2_with (first | ((with_reducible refine gate_dst (N := 2) rfl ?_); refine box_event ?hg (N := 2) ?hd (cs := #[.int .i64 28, .int .i64 a0_1, .int .i64 a0_2, .int .i64 a0_3, .int .i64 a0_4, .int .i64 a0_5]) (t := 46) ?hr ?_; (case hd => rfl); (case hg => rfl); (case hr => first | (go_simp; done) | (go_simp; rfl)); intro g hg wb hbox hb; have BB := Aside0.mk hb; obtain ⟨z0, z1, z2, z3, z4, z5, y0, y1, y2, y3, y4, y5⟩ := blk6 hbox; clear hg hbox hb) | (go_at_call 67; refine (listing_pair.calls _ _ _ E0.out).mono ?_; rintro e w' ⟨rfl, ⟨nd, rfl⟩⟩) | (go_at_call 37; refine (join_new _ [(⟨#[68, 69, 67, 32]⟩ : ByteArray), t0] _ _ EJ.out).mono ?_; rintro e w' ⟨rfl, hb⟩; have BR := Aside0.mk (bel_new (by repeat (first | exact BB.out | apply pw_below_drewN)) hb); clear hb))
  go_ret
  exact ⟨rfl, BR.out⟩
theorem reck_w29 (a0_1 a0_2 a0_3 a0_4 a0_5 : Int) (a1 : ByteArray) (r : ByteArray) (w : World) (t0 : ByteArray) (h0 : listing_pair.f a0_1 = some t0) (hj : listing_join.f [(⟨#[65, 68, 68, 32, 72, 76, 44]⟩ : ByteArray), t0] = some r) :
    Calls Tryd.prog 41 #[.agg #[.int .i64 29, .int .i64 a0_1, .int .i64 a0_2, .int .i64 a0_3, .int .i64 a0_4, .int .i64 a0_5], .string a1] w fun e w' => e = .returned (.string r) ∧ Below w.heap.size w w' := by
  have hu46 := Tryd.underlying46
  have EJ := Aside0.mk hj
  have E0 := Aside0.mk h0
  clear h0
  clear hj
  go_enter Tryd.func41, Tryd.ntmps41
  go_wp2_with (first | ((with_reducible refine gate_dst (N := 2) rfl ?_); refine box_event ?hg (N := 2) ?hd (cs := #[.int .i64 29, .int .i64 a0_1, .int .i64 a0_2, .int .i64 a0_3, .int .i64 a0_4, .int .i64 a0_5]) (t := 46) ?hr ?_; (case hd => rfl); (case hg => rfl); (case hr => first | (go_simp; done) | (go_simp; rfl)); intro g hg wb hbox hb; have BB := Aside0.mk hb; obtain ⟨z0, z1, z2, z3, z4, z5, y0, y1, y2, y3, y4, y5⟩ := blk6 hbox; clear hg hbox hb) | (go_at_call 67; refine (listing_pair.calls _ _ _ E0.out).mono ?_; rintro e w' ⟨rfl, ⟨nd, rfl⟩⟩) | (go_at_call 37; refine (join_new _ [(⟨#[65, 68, 68, 32, 72, 76, 44]⟩ : ByteArray), t0] _ _ EJ.out).mono ?_; rintro e w' ⟨rfl, hb⟩; have BR := Aside0.mk (bel_new (by repeat (first | exact BB.out | apply pw_below_drewN)) hb); clear hb))
  go_ret
  exact ⟨rfl, BR.out⟩
theorem reck_w30 (a0_1 a0_2 a0_3 a0_4 a0_5 : Int) (a1 : ByteArray) (r : ByteArray) (w : World) (hj : listing_join.f [(⟨#[65, 68, 68, 32, 83, 80, 44]⟩ : ByteArray), a1] = some r) :
    Calls Tryd.prog 41 #[.agg #[.int .i64 30, .int .i64 a0_1, .int .i64 a0_2, .int .i64 a0_3, .int .i64 a0_4, .int .i64 a0_5], .string a1] w fun e w' => e = .returned (.string r) ∧ Below w.heap.size w w' := by
  have hu46 := Tryd.underlying46
  have EJ := Aside0.mk hj
  clear hj
  go_enter Tryd.func41, Tryd.ntmps41
  go_wp2_with (first | ((with_reducible refine gate_dst (N := 2) rfl ?_); refine box_event ?hg (N := 2) ?hd (cs := #[.int .i64 30, .int .i64 a0_1, .int .i64 a0_2, .int .i64 a0_3, .int .i64 a0_4, .int .i64 a0_5]) (t := 46) ?hr ?_; (case hd => rfl); (case hg => rfl); (case hr => first | (go_simp; done) | (go_simp; rfl)); intro g hg wb hbox hb; have BB := Aside0.mk hb; obtain ⟨z0, z1, z2, z3, z4, z5, y0, y1, y2, y3, y4, y5⟩ := blk6 hbox; clear hg hbox hb) | (go_at_call 37; refine (join_new _ [(⟨#[65, 68, 68, 32, 83, 80, 44]⟩ : ByteArray), a1] _ _ EJ.out).mono ?_; rintro e w' ⟨rfl, hb⟩; have BR := Aside0.mk (bel_new (by repeat (first | exact BB.out | apply pw_below_drewN)) hb); clear hb))
  go_ret
  exact ⟨rfl, BR.out⟩
theorem reck_w31 (a0_1 a0_2 a0_3 a0_4 a0_5 : Int) (a1 : ByteArray) (r : ByteArray) (w : World) (t0 : ByteArray) (h0 : listing_shifted.f a0_1 = some t0) (hj : listing_join.f [t0, (⟨#[65]⟩ : ByteArray)] = some r) :
    Calls Tryd.prog 41 #[.agg #[.int .i64 31, .int .i64 a0_1, .int .i64 a0_2, .int .i64 a0_3, .int .i64 a0_4, .int .i64 a0_5], .string a1] w fun e w' => e = .returned (.string r) ∧ Below w.heap.size w w' := by
  have hu46 := Tryd.underlying46
  have EJ := Aside0.mk hj
  have E0 := Aside0.mk h0
  clear h0
  clear hj
  go_enter Tryd.func41, Tryd.ntmps41
  go_wp2_with (first | ((with_reducible refine gate_dst (N := 2) rfl ?_); refine box_event ?hg (N := 2) ?hd (cs := #[.int .i64 31, .int .i64 a0_1, .int .i64 a0_2, .int .i64 a0_3, .int .i64 a0_4, .int .i64 a0_5]) (t := 46) ?hr ?_; (case hd => rfl); (case hg => rfl); (case hr => first | (go_simp; done) | (go_simp; rfl)); intro g hg wb hbox hb; have BB := Aside0.mk hb; obtain ⟨z0, z1, z2, z3, z4, z5, y0, y1, y2, y3, y4, y5⟩ := blk6 hbox; clear hg hbox hb) | (go_at_call 69; refine (listing_shifted.calls _ _ _ E0.out).mono ?_; rintro e w' ⟨rfl, ⟨nd, rfl⟩⟩) | (go_at_call 37; refine (join_new _ [t0, (⟨#[65]⟩ : ByteArray)] _ _ EJ.out).mono ?_; rintro e w' ⟨rfl, hb⟩; have BR := Aside0.mk (bel_new (by repeat (first | exact BB.out | apply pw_below_drewN)) hb); clear hb))
  go_ret
  exact ⟨rfl, BR.out⟩
end Go.Proofs.YtpjbfpheenamiaaDoor.PF
