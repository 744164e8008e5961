/- The walk of objects.Scan: the row that comes back reads as the objects that stand on the line, ten at most; condition: what came in reads as a list of bytes. -/
import Derived.Test.YtgffjhbmggmcoaaGOrder
import Derived.Test.YtgffjhbmggmcoaaPF18
namespace Go.Proofs.Ytgffjhbmggmcoaa.PF
open Go.RowKit Go.Shelf Go.Lib Go.Sort Go.Proofs.Ytgffjhbmggmcoaa.SortD Go.Proofs.YtgffjhbmggmcoaaW.PrintWords
set_option linter.unusedVariables false

/-- A byte, or 0. -/
def bAt (l : List Int) (i : Nat) : Int := if i < l.length then rd l (i : Int) else 0
def objAt (l : List Int) (i : Nat) : S28 := ⟨bAt l (4 * i), bAt l (4 * i + 1), bAt l (4 * i + 2), bAt l (4 * i + 3), (i : Int)⟩
def onB (o : S28) (line : Int) (tall : Bool) : Bool := ((objects_on.f o.f0 o.f1 o.f2 o.f3 o.f4 line tall).getD (0, false)).2
def onR (o : S28) (line : Int) (tall : Bool) : Int := ((objects_on.f o.f0 o.f1 o.f2 o.f3 o.f4 line tall).getD (0, false)).1
def selAt (l : List Int) (line : Int) (tall : Bool) (i : Nat) : List S28 := ((List.range i).map (objAt l)).filter fun o => onB o line tall
def scanL (l : List Int) (line : Int) (tall : Bool) : List S28 := (selAt l line tall 40).take 10
theorem on_some (o : S28) (line : Int) (tall : Bool) : objects_on.f o.f0 o.f1 o.f2 o.f3 o.f4 line tall = some (onR o line tall, onB o line tall) := by
  unfold onR onB
  have h : ∃ r, objects_on.f o.f0 o.f1 o.f2 o.f3 o.f4 line tall = some r := by
    unfold objects_on.f
    split
    · exact ⟨_, rfl⟩
    · split
      · exact ⟨_, rfl⟩
      · split
        · cases tall <;> exact ⟨_, rfl⟩
        · exact ⟨_, rfl⟩
  obtain ⟨r, h⟩ := h
  rw [h]
  rfl
theorem selAt_len (l : List Int) (line : Int) (tall : Bool) (i : Nat) : (selAt l line tall i).length ≤ i := by
  unfold selAt
  exact Nat.le_trans (List.length_filter_le _ _) (by simp)
theorem selAt_succ (l : List Int) (line : Int) (tall : Bool) (i : Nat) : selAt l line tall (i + 1) = if onB (objAt l i) line tall then selAt l line tall i ++ [objAt l i] else selAt l line tall i := by
  unfold selAt
  rw [List.range_succ, List.map_append, List.filter_append]
  by_cases h : onB (objAt l i) line tall = true
  · simp [h]
  · simp [h]

set_option maxHeartbeats 1000000 in
/-- The closure: a byte, or 0. -/
theorem byteAt_calls (A0 : Option Addr) (c0 : Nat) (l0 : List Int) (i bx : Nat) (w : World) (hr0 : Kd.C (Kd.int .u8) w A0 l0.length l0) (hc0 : l0.length ≤ c0)
    (hb : w.cell? ⟨bx, 0, none⟩ = some (.slice A0 l0.length c0)) :
    Calls Try.prog 20 #[.int .i64 i, .pointer (some ⟨bx, 0, none⟩)] w fun e w' => e = .returned (.int .u8 (bAt l0 i)) ∧ w = w' := by
  have hm := hr0.2.1
  by_cases h : i < l0.length
  · have hz : (i : Int) < (l0.length : Int) := by omega
    obtain ⟨ad, rfl, hcell⟩ := Kd.at_int hr0 (i : Int) (by omega) hz
    have e1 : bAt l0 i = rd l0 (i : Int) := by unfold bAt; rw [if_pos h]
    rw [e1]
    rw [Int.toNat_natCast] at hcell
    have hp : (0 : Int) ≤ (i : Int) := by omega
    have HM : Hid _ := hm
    clear hr0 hc0 e1 hm
    generalize rd l0 (i : Int) = v at hcell ⊢
    generalize l0.length = n at *
    go_enter Try.func20, Try.ntmps20
    go_wp2
    go_ret
    exact ⟨rfl, rfl⟩
  · have hz : ¬ (i : Int) < (l0.length : Int) := by omega
    have e1 : bAt l0 i = 0 := by unfold bAt; rw [if_neg h]
    rw [e1]
    clear hr0 hc0 e1 hm
    generalize l0.length = n at *
    go_enter Try.func20, Try.ntmps20
    go_wp2
    go_ret
    exact ⟨rfl, rfl⟩

theorem run_stO_new (W : World) (p0 p1 p2 p3 p4 : Int) (a b c d e : Value) :
    Sem.run Try.prog (stO ⟨W.heap.size, 0, none⟩ (.agg #[.int .u8 p0, .int .u8 p1, .int .u8 p2, .int .u8 p3, .int .u8 p4])) (W.alloc (.cells #[a, b, c, d, e] 28)) =
      .ok () (W.alloc (.cells #[.int .u8 p0, .int .u8 p1, .int .u8 p2, .int .u8 p3, .int .u8 p4] 28)) := by
  unfold stO storeVar
  go_simp

/-- A row of one object more. -/
theorem flat_set (d : Array S28) (n : Nat) (o : S28) (hn : n < d.size) : setMany (flatK encO 5 d) (n * 5) (encO o) = flatK encO 5 (d.setIfInBounds n o) := by
  refine ext_get! (by simp) (fun t ht => ?_)
  have ht2 : t < d.size * 5 := by simpa using ht
  rw [get_setMany _ _ _ _ (by simpa using ht2), get_flatK encO 5 (d.setIfInBounds n o) t (by simpa using ht2)]
  rw [encO_len]
  by_cases h : n * 5 ≤ t ∧ t < n * 5 + 5
  · have h1 : t / 5 = n := by omega
    have h2 : t - n * 5 = t % 5 := by omega
    rw [if_pos h, h1, getElem!_set_same d n o hn, h2]
  · rw [if_neg h, getElem!_set_other d n (t / 5) o (by omega), get_flatK encO 5 d t ht2]
theorem holds_set {W : World} {blk : Nat} {d : Array S28} (h : HoldsK encO 5 W blk 0 d) (n : Nat) (o : S28) (hn : n < d.size) : HoldsK encO 5 (W.setCells blk (0 + n * 5) (encO o)) blk 0 (d.setIfInBounds n o) := by
  have h2 := holds_setCells_c h (n * 5) (encO o) (by rw [encO_len, size_flatK]; omega)
  rw [flat_set d n o hn] at h2
  exact h2
theorem holds_below {W W' : World} {blk : Nat} {d : Array S28} (h : HoldsK encO 5 W blk 0 d) (hb : RowKit.Below W.heap.size W W') : HoldsK encO 5 W' blk 0 d := by
  intro j hj
  obtain ⟨h1, h2⟩ := h j hj
  have hlt : blk < W.heap.size := World.block_lt_of_cell? W ⟨blk, 0 + j, none⟩ h1
  exact ⟨(hb.cell (p := ⟨blk, 0 + j, none⟩) hlt).trans h1, (hb.frozen (p := ⟨blk, 0 + j, none⟩) hlt).trans h2⟩
theorem below_setCells {B : Nat} {w W : World} (h : RowKit.Below B w W) (b : Nat) (hb : B ≤ b) : ∀ (vs : List Value) (o : Nat) (W : World), RowKit.Below B w W → RowKit.Below B w (W.setCells b o vs)
  | [], _, _, h => h
  | v :: vs, o, W, h => below_setCells h b hb vs (o + 1) _ (h.setCell hb v)

/-- Forty objects of zeros. -/
def zeros40 : Array Value := Array.replicate 200 (.int .u8 0)
theorem zeroV40 (w : World) : Sem.run Try.prog (zeroValue 44) w = .ok (.agg zeros40) w := by unfold zeros40; kernel_rfl
theorem zeros40_holds (W : World) : HoldsK encO 5 (W.alloc (.cells zeros40 44)) W.heap.size 0 (Array.replicate 40 z28) := by
  intro j hj
  rw [size_flatK] at hj
  simp only [Array.size_replicate] at hj
  have h1 : zeros40[j]? = some (flatK encO 5 (Array.replicate 40 z28))[j]! := by
    rw [get_flatK encO 5 _ j (by simpa using hj)]
    have h2 : (Array.replicate 40 z28)[j / 5]! = z28 := by
      have h3 : j / 5 < (Array.replicate 40 z28).size := by simp; omega
      rw [getElem!_pos (Array.replicate 40 z28) (j / 5) h3]
      simp
    rw [h2]
    have h4 : (encO z28)[j % 5]! = .int .u8 0 := by
      have : j % 5 < 5 := by omega
      generalize j % 5 = q at *
      rcases q with _ | _ | _ | _ | _ | q <;> first | rfl | omega
    rw [h4]
    unfold zeros40
    rw [Array.getElem?_replicate, if_pos (by omega)]
  rw [Nat.zero_add, id, ← h1.symm.symm]
  constructor
  · simp [h1]
  · simp
attribute [local go_sem ↓] storeVar_O
attribute [local go_sem] run_stO_new
set_option maxHeartbeats 2000000 in
set_option maxRecDepth 100000 in
theorem scan_calls (A0 : Option Addr) (c0 : Nat) (l0 : List Int) (line : Int) (tall : Bool) (w : World) (hr0 : Kd.C (Kd.int .u8) w A0 l0.length l0) (hc0 : l0.length ≤ c0) :
    Calls Try.prog 11 #[.slice A0 l0.length c0, .int .i64 line, .bool tall] w fun e w' => ∃ A n, e = .returned (.slice A n n) ∧ Kd.C k28 w' A n (scanL l0 line tall) ∧ Below w.heap.size w w' := by
  have HR := Aside0.mk hr0
  have HC := Aside0.mk hc0
  clear hr0 hc0
  have eg : ∀ args w, (callFunc 20 args).run Try.prog w = .ok (.enter 20 args) w := enters_of Try.func20 (by kernel_rfl) rfl
  have hz40 := zeroV40
  go_enter Try.func11, Try.ntmps11
  go_wp2
  have hb2 : RowKit.Below w.heap.size w ((w.alloc (.cells #[.slice A0 l0.length c0] 34)).alloc (.cells zeros40 44)) := ((Below.refl _ _).alloc (Nat.le_refl _) _).alloc (by simp) _
  have hh2 : HoldsK encO 5 ((w.alloc (.cells #[.slice A0 l0.length c0] 34)).alloc (.cells zeros40 44)) (w.heap.size + 1) 0 (Array.replicate 40 z28) := by
    have := zeros40_holds (w.alloc (.cells #[.slice A0 l0.length c0] 34))
    simpa using this
  have hc2 : ((w.alloc (.cells #[.slice A0 l0.length c0] 34)).alloc (.cells zeros40 44)).cell? ⟨w.heap.size, 0, none⟩ = some (.slice A0 l0.length c0) := by simp
  have hs2 : w.heap.size + 1 < ((w.alloc (.cells #[.slice A0 l0.length c0] 34)).alloc (.cells zeros40 44)).heap.size := by simp
  have HB2 := Aside0.mk hb2
  have HH2 := Aside0.mk hh2
  have HC2 := Aside0.mk hc2
  have HS2 := Aside0.mk hs2
  clear hb2 hh2 hc2 hs2
  generalize (w.alloc (.cells #[.slice A0 l0.length c0] 34)).alloc (.cells zeros40 44) = W2 at HB2 HH2 HC2 HS2 ⊢
  go_loopg [9, 10, 11, 12, 13, 15] 40 (fun g1 vn _v10 _v11 _v12 _v13 vi wr => ∃ (i n : Nat) (d : Array S28), vi = .int .i64 i ∧ vn = .int .i64 n ∧ i ≤ 40 ∧ 40 - i ≤ g1 ∧ n ≤ i ∧ Aside0 (d.size = 40 ∧ (selAt l0 line tall i).length = n ∧ d.toList.take n = selAt l0 line tall i) ∧
    Aside0 (HoldsK encO 5 wr (w.heap.size + 1) 0 d) ∧ Aside0 (Below w.heap.size w wr) ∧ Aside0 (wr.cell? ⟨w.heap.size, 0, none⟩ = some (.slice A0 l0.length c0)) ∧ w.heap.size + 1 < wr.heap.size)
  case atStart => exact ⟨0, 0, Array.replicate 40 z28, rfl, rfl, by omega, by omega, by omega, ⟨by simp, by simp [selAt], by simp [selAt]⟩, HH2, HB2, HC2, HS2.out⟩
  case round =>
    clear HB2 HH2 HC2 HS2
    obtain ⟨i, n, d, rfl, rfl, hi, hg1, hn, HD, HH, HB, HX, hsz⟩ := hrel
    have HSZ := Aside0.mk hsz
    by_cases hlt : i < 40
    · have hltz : (i : Int) < 40 := by omega
      have hby : Aside0 (∀ (k : Nat) (j : Int) (W : World), j = (k : Int) → Below wr.heap.size wr W → Calls Try.prog 20 #[.int .i64 j, .pointer (some ⟨w.heap.size, 0, none⟩)] W fun e w' => e = .returned (.int .u8 (bAt l0 k)) ∧ W = w') := ⟨fun k j W hj hb => by
        subst hj
        exact byteAt_calls A0 c0 l0 k w.heap.size W (Kd.C_below HR.out (HB.out.trans ⟨hb.os, hb.tape, hb.output, hb.size, fun q hq => hb.block q (by omega)⟩)) HC.out ((hb.cell (p := ⟨w.heap.size, 0, none⟩) (by show w.heap.size < _; omega)).trans HX.out)⟩
      have w2 : (i : Int) % 256 = (i : Int) := by omega
      clear hsz
      go_wp2_with fail
      refine (hby.out (4 * i) _ _ (by omega) (Below.refl _ _)).mono ?_
      rintro e wx ⟨rfl, rfl⟩
      go_wp2_with fail
      refine (hby.out (4 * i + 1) _ _ (by omega) (Below.refl _ _)).mono ?_
      rintro e wx ⟨rfl, rfl⟩
      go_wp2_with fail
      refine (hby.out (4 * i + 2) _ _ (by omega) (Below.refl _ _)).mono ?_
      rintro e wx ⟨rfl, rfl⟩
      go_wp2_with fail
      refine (hby.out (4 * i + 3) _ _ (by omega) (Below.refl _ _)).mono ?_
      rintro e wx ⟨rfl, rfl⟩
      have HO : Hid (objAt l0 i = ⟨bAt l0 (4 * i), bAt l0 (4 * i + 1), bAt l0 (4 * i + 2), bAt l0 (4 * i + 3), (i : Int)⟩) := rfl
      have HON := Aside0.mk (on_some (objAt l0 i) line tall)
      rw [HO.out] at HON
      have HS1 := Aside0.mk (selAt_succ l0 line tall i)
      clear hby
      generalize bAt l0 (4 * i) = b0 at HO HON ⊢
      generalize bAt l0 (4 * i + 1) = b1 at HO HON ⊢
      generalize bAt l0 (4 * i + 2) = b2 at HO HON ⊢
      generalize bAt l0 (4 * i + 3) = b3 at HO HON ⊢
      generalize onR ⟨b0, b1, b2, b3, (i : Int)⟩ line tall = r1 at HON
      have HEQ : Hid (onB (objAt l0 i) line tall = onB ⟨b0, b1, b2, b3, (i : Int)⟩ line tall) := by show _ = _; rw [HO.out]
      generalize onB ⟨b0, b1, b2, b3, (i : Int)⟩ line tall = r2 at HON HEQ
      go_wp2_with fail
      refine (objects_on.calls _ _ _ _ _ _ _ r1 r2 _ HON.out).mono ?_
      rintro e w3 ⟨rfl, hb3⟩
      have hb1 : RowKit.Below w.heap.size w ((wr.alloc (.cells #[.int .u8 b0, .int .u8 b1, .int .u8 b2, .int .u8 b3, .int .u8 (i : Int)] 28))) := HB.out.alloc (by have := HSZ.out; omega) _
      have HB3 := Aside0.mk (hb1.trans ⟨hb3.os, hb3.tape, hb3.output, hb3.size, fun q hq => hb3.block q (by simp; have := HSZ.out; omega)⟩)
      have HH3 := Aside0.mk (holds_below HH.out (((Below.refl wr.heap.size wr).alloc (Nat.le_refl _) (.cells #[.int .u8 b0, .int .u8 b1, .int .u8 b2, .int .u8 b3, .int .u8 (i : Int)] 28)).trans ⟨hb3.os, hb3.tape, hb3.output, hb3.size, fun q hq => hb3.block q (by simp; omega)⟩))
      have hbw : RowKit.Below wr.heap.size wr w3 := (((Below.refl wr.heap.size wr).alloc (Nat.le_refl _) (.cells #[.int .u8 b0, .int .u8 b1, .int .u8 b2, .int .u8 b3, .int .u8 (i : Int)] 28)).trans ⟨hb3.os, hb3.tape, hb3.output, hb3.size, fun q hq => hb3.block q (by simp; omega)⟩)
      have HX3 := Aside0.mk ((hbw.cell (p := ⟨w.heap.size, 0, none⟩) (by show w.heap.size < _; have := HSZ.out; omega)).trans HX.out)
      have hsz3 : wr.heap.size + 1 ≤ w3.heap.size := by have := hb3.size; simpa using this
      have HSZ3 := Aside0.mk hsz3
      have k0 : w3.cell? ⟨wr.heap.size, 0, none⟩ = some (.int .u8 b0) := (hb3.cell (p := ⟨wr.heap.size, 0, none⟩) (by simp)).trans (by simp)
      have k1 : w3.cell? ⟨wr.heap.size, 1, none⟩ = some (.int .u8 b1) := (hb3.cell (p := ⟨wr.heap.size, 1, none⟩) (by simp)).trans (by simp)
      have k2 : w3.cell? ⟨wr.heap.size, 2, none⟩ = some (.int .u8 b2) := (hb3.cell (p := ⟨wr.heap.size, 2, none⟩) (by simp)).trans (by simp)
      have k3 : w3.cell? ⟨wr.heap.size, 3, none⟩ = some (.int .u8 b3) := (hb3.cell (p := ⟨wr.heap.size, 3, none⟩) (by simp)).trans (by simp)
      have k4 : w3.cell? ⟨wr.heap.size, 4, none⟩ = some (.int .u8 (i : Int)) := (hb3.cell (p := ⟨wr.heap.size, 4, none⟩) (by simp)).trans (by simp)
      clear hb3 hb1 hsz3 hbw HB HH HX
      cases r2 with
      | false =>
        go_wp2
        go_roundg (40 - (i + 1))
        case measure => omega
        case rel => exact ⟨i + 1, n, d, by go_num, rfl, by omega, Nat.le_refl _, by omega, ⟨HD.out.1, by rw [HS1.out, HEQ.out]; exact HD.out.2.1, by rw [HS1.out, HEQ.out]; exact HD.out.2.2⟩, HH3, HB3, HX3, by have := HSZ.out; have := HSZ3.out; omega⟩
      | true =>
        have hnd : n < d.size := by rw [HD.out.1]; omega
        have nz : (n : Int) < 40 := by omega
        have st := run_stO (w := w3) (a := ⟨w.heap.size + 1, n * 5, none⟩) (encO_len ⟨b0, b1, b2, b3, (i : Int)⟩) (by
          have := stores_of_holds Try.prog HH3.out (n * 5) (encO ⟨b0, b1, b2, b3, (i : Int)⟩) (by rw [encO_len, size_flatK]; omega) (encO_one _)
          rw [Nat.zero_add] at this
          exact this)
        have HH4 := Aside0.mk (holds_set HH3.out n ⟨b0, b1, b2, b3, (i : Int)⟩ hnd)
        have HB4 := Aside0.mk (below_setCells HB3.out (w.heap.size + 1) (by omega) (encO ⟨b0, b1, b2, b3, (i : Int)⟩) (n * 5) w3 HB3.out)
        have hX4 : (w3.setCells (w.heap.size + 1) (n * 5) (encO ⟨b0, b1, b2, b3, (i : Int)⟩)).cell? ⟨w.heap.size, 0, none⟩ = some (.slice A0 l0.length c0) := by
          rw [World.cell?_setCells_out _ _ _ _ _ (fun e _ => absurd e (by simp))]
          exact HX3.out
        have HX4 := Aside0.mk hX4
        have hsz4 : (w3.setCells (w.heap.size + 1) (n * 5) (encO ⟨b0, b1, b2, b3, (i : Int)⟩)).heap.size = w3.heap.size := size_setCells _ _ _ _
        have HSZ4 := Aside0.mk hsz4
        rw [Nat.zero_add] at HH4
        have HD4 := Aside0.mk (show (d.setIfInBounds n ⟨b0, b1, b2, b3, (i : Int)⟩).size = 40 ∧ (selAt l0 line tall (i + 1)).length = n + 1 ∧ (d.setIfInBounds n ⟨b0, b1, b2, b3, (i : Int)⟩).toList.take (n + 1) = selAt l0 line tall (i + 1) from by
          refine ⟨by simpa using HD.out.1, ?_, ?_⟩
          · rw [HS1.out, HEQ.out, if_pos rfl, List.length_append, HD.out.2.1]; rfl
          · rw [HS1.out, HEQ.out, if_pos rfl, ← HD.out.2.2, HO.out, Array.toList_setIfInBounds, List.take_add_one, List.take_set_of_le (Nat.le_refl _), List.getElem?_set_self (by simpa using hnd)]
            rfl)
        simp only [encO] at st
        clear hX4 hsz4 HX3 HB3 HH3 hnd
        generalize hw4 : w3.setCells (w.heap.size + 1) (n * 5) [.int .u8 b0, .int .u8 b1, .int .u8 b2, .int .u8 b3, .int .u8 (i : Int)] = w4 at st
        have HW4 : Hid _ := hw4
        clear hw4
        go_wp2
        go_roundg (40 - (i + 1))
        case measure => omega
        case rel =>
          have e4 : w3.setCells (w.heap.size + 1) (n * 5) (encO ⟨b0, b1, b2, b3, (i : Int)⟩) = w4 := HW4.out
          rw [e4] at HH4 HB4 HX4 HSZ4
          exact ⟨i + 1, n + 1, _, by go_num, by go_num, by omega, Nat.le_refl _, by omega, HD4, HH4, HB4, HX4, by have := HSZ.out; have := HSZ3.out; have := HSZ4.out; omega⟩
    · have hltz : ¬ (i : Int) < 40 := by omega
      obtain rfl : i = 40 := by omega
      have hread : ∀ m, m ≤ n → m = (scanL l0 line tall).length → Kd.C k28 wr (some ⟨w.heap.size + 1, 0, none⟩) m (scanL l0 line tall) := fun m hm hml => by
        refine ⟨hml.symm, by omega, fun _ => ⟨_, rfl, fun j p hj => ⟨encO p, rfl, k28_mk _ p, fun q u hq => ?_⟩⟩⟩
        have hjl : j < (scanL l0 line tall).length := (List.getElem?_eq_some_iff.1 hj).1
        have hj10 : j < 10 := by
          have : (scanL l0 line tall).length ≤ 10 := by unfold scanL; exact List.length_take_le _ _
          omega
        have hq5 : q < 5 := by
          have := (List.getElem?_eq_some_iff.1 hq).1
          rwa [encO_len] at this
        have hp : d[j]! = p := by
          have h1 : (selAt l0 line tall 40)[j]? = some p := by
            unfold scanL at hj
            rw [List.getElem?_take, if_pos hj10] at hj
            exact hj
          rw [← HD.out.2.2, List.getElem?_take, if_pos (by omega), Array.getElem?_toList] at h1
          have h2 : j < d.size := (Array.getElem?_eq_some_iff.1 h1).1
          rw [getElem!_pos d j h2]
          exact (Array.getElem?_eq_some_iff.1 h1).2
        obtain ⟨h3, _⟩ := HH.out (j * 5 + q) (by rw [size_flatK, HD.out.1]; omega)
        rw [get_flatK encO 5 d (j * 5 + q) (by rw [HD.out.1]; omega), show (j * 5 + q) / 5 = j by omega, show (j * 5 + q) % 5 = q by omega, hp] at h3
        have h4 : (encO p)[q]! = u := by
          have h5 := List.getElem?_eq_some_iff.1 hq
          rw [getElem!_pos (encO p) q h5.1]
          exact h5.2
        rw [h4, Nat.zero_add] at h3
        rw [add_plain]
        exact h3
      have HRD := Aside0.mk hread
      clear hread
      have hlen : (scanL l0 line tall).length = min 10 n := by
        unfold scanL
        rw [List.length_take, HD.out.2.1]
      by_cases h10 : n ≤ 10
      · have HM : Hid ((scanL l0 line tall).length = n) := by show _ = _; omega
        have hmin : min (n : Int) 10 = (n : Int) := by omega
        have hz1 : (n : Int) ≤ 10 := by omega
        have hz2 : (n : Int) ≤ 40 := by omega
        clear hlen
        go_wp2
        go_ret
        exact ⟨_, _, rfl, HRD.out n (Nat.le_refl _) HM.out.symm, HB.out⟩
      · have HM : Hid ((scanL l0 line tall).length = 10) := by show _ = _; omega
        have hmin : min (n : Int) 10 = 10 := by omega
        have hz1 : ¬ (n : Int) ≤ 10 := by omega
        have hz2 : (10 : Int) < (n : Int) := by omega
        have HN10 : Hid (10 ≤ n) := by show _ ≤ _; omega
        clear hlen h10
        go_wp2
        go_ret
        exact ⟨_, _, rfl, HRD.out 10 HN10.out HM.out.symm, HB.out⟩
end Go.Proofs.Ytgffjhbmggmcoaa.PF
