/- Texts of this claim, put together: PF11, GPureT. -/
import Derived.Test.YtpjbfpheenamiaaDoorB1
import Derived.Test.YtpjbfpheenamiaaDoorB7
import Derived.Test.YtpjbfpheenamiaaDoorB12
import Derived.Test.YtpjbfpheenamiaaDoorB25
import Derived.KernelRfl
import Derived.Laws.BitsLemmas
-- PRINTED by print.py (a twelfth state) out of the translation. Not trusted: Lean checks it.
namespace Go.Proofs.YtpjbfpheenamiaaDoor.PF
open Go.RowKit Go.Proofs.YtpjbfpheenamiaaDoorW.PrintWords Go.Proofs.YtpjbfpheenamiaaDoorW.PrintLast Go.Proofs.YtpjbfpheenamiaaDoorW.PrintMore
attribute [local go_sem] max2_int min2_int max_two min_two max_three min_three max_four min_four   -- for this text's walks alone
set_option linter.unusedVariables false
set_option linter.unusedSimpArgs false

/-! ### listing_Text: function 11 -/
def listing_Text.f (k : Nat) (a0 : Int) (a1 : Bool) (a2 : Int) (a3 : Int) : Option (ByteArray) := (listing_form.f k a0 a1).bind fun bt192 => ((word_Hex8.f a2).bind fun t198 => (if 1 + t198.size ≤ 9223372036854775807 then ((word_Join.f a3 a2).bind fun t199 => ((word_Hex16.f t199).bind fun t200 => (if 1 + t200.size ≤ 9223372036854775807 then ((listing_text.f k bt192.1 bt192.2.1 bt192.2.2.1 bt192.2.2.2.1 bt192.2.2.2.2.1 bt192.2.2.2.2.2 a0 ((⟨#[36]⟩ : ByteArray) ++ t198) ((⟨#[36]⟩ : ByteArray) ++ t200)).bind fun t201 => (some t201)) else (none)))) else (none)))
theorem listing_Text.mono : ∀ a0 a1 a2 a3 k, LeO (listing_Text.f k a0 a1 a2 a3) (listing_Text.f (k + 1) a0 a1 a2 a3) := by
 intro a0 a1 a2 a3 k
 unfold listing_Text.f
 repeat' first
   | (with_reducible exact listing_form.mono _ _ _)
   | (with_reducible exact listing_text.mono _ _ _ _ _ _ _ _ _ _)
   | (with_reducible exact LeO.refl _)
   | (with_reducible exact LeO.none _)
   | (with_reducible refine LeO.ite ?_ ?_)
   | (with_reducible refine LeO.bind ?_ (fun _ => ?_))
   | exact listing_form.mono _ _ _
   | exact listing_text.mono _ _ _ _ _ _ _ _ _ _
   | exact LeO.none _
   | refine LeO.ite ?_ ?_
   | refine LeO.bind ?_ (fun _ => ?_)
set_option maxHeartbeats 8000000 in
set_option maxRecDepth 100000 in
theorem listing_Text.calls (k : Nat) (a0 : Int) (a1 : Bool) (a2 : Int) (a3 : Int) (r : ByteArray) (w : World) (h : listing_Text.f k a0 a1 a2 a3 = some r) :
  Calls Tryd.prog 11 #[.int .u8 a0, .bool a1, .int .u8 a2, .int .u8 a3] w fun e w' => e = .returned (.string r) ∧ Below w.heap.size w w' := by
 have HB := Aside0.mk (Below.refl w.heap.size w)
 have H : ((listing_form.f k a0 a1).bind fun bt192 => ((word_Hex8.f a2).bind fun t198 => (if 1 + t198.size ≤ 9223372036854775807 then ((word_Join.f a3 a2).bind fun t199 => ((word_Hex16.f t199).bind fun t200 => (if 1 + t200.size ≤ 9223372036854775807 then ((listing_text.f k bt192.1 bt192.2.1 bt192.2.2.1 bt192.2.2.2.1 bt192.2.2.2.2.1 bt192.2.2.2.2.2 a0 ((⟨#[36]⟩ : ByteArray) ++ t198) ((⟨#[36]⟩ : ByteArray) ++ t200)).bind fun t201 => (some t201)) else (none)))) else (none)))) = some r := h
 clear h
 replace H := Option.bind_eq_some_iff.mp H
 obtain ⟨⟨t192, t193, t194, t195, t196, t197⟩, A50, H⟩ := H
 replace H : ((word_Hex8.f a2).bind fun t198 => (if 1 + t198.size ≤ 9223372036854775807 then ((word_Join.f a3 a2).bind fun t199 => ((word_Hex16.f t199).bind fun t200 => (if 1 + t200.size ≤ 9223372036854775807 then ((listing_text.f k t192 t193 t194 t195 t196 t197 a0 ((⟨#[36]⟩ : ByteArray) ++ t198) ((⟨#[36]⟩ : ByteArray) ++ t200)).bind fun t201 => (some t201)) else (none)))) else (none))) = some r := H
 have A5 := Aside0.mk A50
 clear A50
 replace H := Option.bind_eq_some_iff.mp H
 obtain ⟨t198, A60, H⟩ := H
 replace H : (if 1 + t198.size ≤ 9223372036854775807 then ((word_Join.f a3 a2).bind fun t199 => ((word_Hex16.f t199).bind fun t200 => (if 1 + t200.size ≤ 9223372036854775807 then ((listing_text.f k t192 t193 t194 t195 t196 t197 a0 ((⟨#[36]⟩ : ByteArray) ++ t198) ((⟨#[36]⟩ : ByteArray) ++ t200)).bind fun t201 => (some t201)) else (none)))) else (none)) = some r := H
 have A6 := Aside0.mk A60
 clear A60
 by_cases c7 : 1 + t198.size ≤ 9223372036854775807
 ·rw [if_pos c7] at H
  have c7b0 := eq_true c7
  have c7b1 : decide (1 + t198.size ≤ 9223372036854775807) = true := decide_eq_true c7
  try have c7b2 : (9223372036854775807 < 1 + t198.size) = False := eq_false (Nat.not_lt.2 c7)
  replace H := Option.bind_eq_some_iff.mp H
  obtain ⟨t199, A80, H⟩ := H
  replace H : ((word_Hex16.f t199).bind fun t200 => (if 1 + t200.size ≤ 9223372036854775807 then ((listing_text.f k t192 t193 t194 t195 t196 t197 a0 ((⟨#[36]⟩ : ByteArray) ++ t198) ((⟨#[36]⟩ : ByteArray) ++ t200)).bind fun t201 => (some t201)) else (none))) = some r := H
  have A8 := Aside0.mk A80
  clear A80
  replace H := Option.bind_eq_some_iff.mp H
  obtain ⟨t200, A90, H⟩ := H
  replace H : (if 1 + t200.size ≤ 9223372036854775807 then ((listing_text.f k t192 t193 t194 t195 t196 t197 a0 ((⟨#[36]⟩ : ByteArray) ++ t198) ((⟨#[36]⟩ : ByteArray) ++ t200)).bind fun t201 => (some t201)) else (none)) = some r := H
  have A9 := Aside0.mk A90
  clear A90
  by_cases c10 : 1 + t200.size ≤ 9223372036854775807
  ·rw [if_pos c10] at H
   have c10b0 := eq_true c10
   have c10b1 : decide (1 + t200.size ≤ 9223372036854775807) = true := decide_eq_true c10
   try have c10b2 : (9223372036854775807 < 1 + t200.size) = False := eq_false (Nat.not_lt.2 c10)
   replace H := Option.bind_eq_some_iff.mp H
   obtain ⟨t201, A110, H⟩ := H
   replace H : (some t201) = some r := H
   have A11 := Aside0.mk A110
   clear A110
   obtain rfl := Option.some.inj H
   go_enter Tryd.func11, Tryd.ntmps11
   go_wp2_with (first | ((with_reducible refine gate_callee (f := 23) rfl ?_); refine goesL_ (some 11) rfl rfl Tryd.func23 (by kernel_rfl) rfl #[.int .u8 a0, .bool a1] rfl (by (try simp only [List.map_toArray, List.map_cons, List.map_nil]); first | done | rfl | (simp only [List.length_drop, List.length_take]; rfl)) ?_; (with_reducible refine (listing_form.calls k a0 a1 t192 t193 t194 t195 t196 t197 _ A5.out).mono ?_); rintro e w12 ⟨rfl, hb⟩; refine ⟨_, rfl, ?_⟩; have n0_ := Aside0.mk (below_step (by repeat (first | (with_reducible first | exact HB.out | apply below_alloc | apply pw_below_drewN | apply below_drew1) | exact HB.out)) hb); clear HB; have HB := n0_; clear n0_; (try clear hb)) | ((with_reducible refine gate_callee (f := 24) rfl ?_); refine goesL_ (some 14) rfl rfl Tryd.func24 (by kernel_rfl) rfl #[.int .u8 a2] rfl (by (try simp only [List.map_toArray, List.map_cons, List.map_nil]); first | done | rfl | (simp only [List.length_drop, List.length_take]; rfl)) ?_; (with_reducible refine (word_Hex8.calls a2 t198 _ A6.out).mono ?_); rintro e w13 ⟨rfl, hb⟩; refine ⟨_, rfl, ?_⟩; have n0_ := Aside0.mk (below_step (by repeat (first | (with_reducible first | exact HB.out | apply below_alloc | apply pw_below_drewN | apply below_drew1) | exact HB.out)) hb); clear HB; have HB := n0_; clear n0_; (try clear hb)) | ((with_reducible refine gate_callee (f := 26) rfl ?_); refine goesL_ (some 18) rfl rfl Tryd.func26 (by kernel_rfl) rfl #[.int .u8 a3, .int .u8 a2] rfl (by (try simp only [List.map_toArray, List.map_cons, List.map_nil]); first | done | rfl | (simp only [List.length_drop, List.length_take]; rfl)) ?_; (with_reducible refine (word_Join.calls a3 a2 t199 _ A8.out).mono ?_); rintro e w' ⟨rfl, ⟨nd, rfl⟩⟩; refine ⟨_, rfl, ?_⟩) | ((with_reducible refine gate_callee (f := 25) rfl ?_); refine goesL_ (some 19) rfl rfl Tryd.func25 (by kernel_rfl) rfl #[.int .u16 t199] rfl (by (try simp only [List.map_toArray, List.map_cons, List.map_nil]); first | done | rfl | (simp only [List.length_drop, List.length_take]; rfl)) ?_; (with_reducible refine (word_Hex16.calls t199 t200 _ A9.out).mono ?_); rintro e w14 ⟨rfl, hb⟩; refine ⟨_, rfl, ?_⟩; have n0_ := Aside0.mk (below_step (by repeat (first | (with_reducible first | exact HB.out | apply below_alloc | apply pw_below_drewN | apply below_drew1) | exact HB.out)) hb); clear HB; have HB := n0_; clear n0_; (try clear hb)) | ((with_reducible refine gate_callee (f := 22) rfl ?_); refine goesL_ (some 21) rfl rfl Tryd.func22 (by kernel_rfl) rfl #[.agg #[.int .i64 t192, .int .i64 t193, .int .i64 t194, .int .i64 t195, .int .i64 t196, .int .i64 t197], .int .u8 a0, .string ((⟨#[36]⟩ : ByteArray) ++ t198), .string ((⟨#[36]⟩ : ByteArray) ++ t200)] rfl (by (try simp only [List.map_toArray, List.map_cons, List.map_nil]); first | done | rfl | (simp only [List.length_drop, List.length_take]; rfl)) ?_; (with_reducible refine (listing_text.calls k t192 t193 t194 t195 t196 t197 a0 ((⟨#[36]⟩ : ByteArray) ++ t198) ((⟨#[36]⟩ : ByteArray) ++ t200) t201 _ A11.out).mono ?_); rintro e w15 ⟨rfl, hb⟩; refine ⟨_, rfl, ?_⟩; have n0_ := Aside0.mk (below_step (by repeat (first | (with_reducible first | exact HB.out | apply below_alloc | apply pw_below_drewN | apply below_drew1) | exact HB.out)) hb); clear HB; have HB := n0_; clear n0_; (try clear hb)))
   go_ret
   exact ⟨by first | rfl | (simp [errW_none, errW_some] <;> rfl) | (simp [*, errW_none, errW_some] <;> rfl), by repeat (first | (with_reducible first | exact HB.out | apply below_alloc | apply pw_below_drewN | apply below_drew1) | exact HB.out)⟩
  ·rw [if_neg c10] at H
   exact absurd H (by simp)
 ·rw [if_neg c7] at H
  exact absurd H (by simp)

end Go.Proofs.YtpjbfpheenamiaaDoor.PF
/- Each instruction's line, as the program and as the document's answer write it, is one and the same list of letters (for every opcode, every low and high byte); no condition. -/
namespace Go.Proofs.YtpjbfpheenamiaaDoor.PF
open Go.RowKit Go.Proofs.YtpjbfpheenamiaaDoorW.PrintWords
set_option linter.unusedVariables false
set_option linter.unusedSimpArgs false
def hexd (n : Nat) : UInt8 := [48, 49, 50, 51, 52, 53, 54, 55, 56, 57, 65, 66, 67, 68, 69, 70].getD n 0
def putTok (h1 h2 h3 h4 : UInt8) : List UInt8 → List UInt8
  | [] => []
  | c :: l => (match c.toNat with
    | 98 => [36, h1, h2]
    | 119 => [36, h3, h4, h1, h2]
    | _ => [c]) ++ putTok h1 h2 h3 h4 l
/-- An opcode's line with its numbers' digits. -/
def lineT (op : Nat) (h1 h2 h3 h4 : UInt8) : List UInt8 :=
  match bookKey op with
  | some t => putTok h1 h2 h3 h4 t.data.toList
  | none => [68, 66, 32, 36, hexd (op % 256 / 16), hexd (op % 16)]
def lineL (op lo hi : Nat) : List UInt8 := lineT op (hexd (lo / 16)) (hexd (lo % 16)) (hexd (hi / 16)) (hexd (hi % 16))
def hexB (v : Nat) : ByteArray := ⟨#[hexd (v / 16), hexd (v % 16)]⟩
theorem bind_some' {α β : Type} (x : α) (f : α → Option β) : (some x).bind f = f x := rfl
/-! ### the program's -/
theorem hex8_all : ((List.range 256).all fun v => decide (word_Hex8.f (v : Int) = some (hexB v))) = true := by kernel_rfl
theorem hex8_prog (v : Nat) (h : v < 256) : word_Hex8.f (v : Int) = some (hexB v) := of_decide_eq_true (List.all_eq_true.1 hex8_all v (List.mem_range.2 h))
theorem join_prog (hi lo : Nat) (h : hi < 256) (l : lo < 256) : word_Join.f (hi : Int) (lo : Int) = some ((hi : Int) * 256 + lo) := by
  unfold word_Join.f
  rw [wrapU16, wrapU16, wrapU16, show ((hi : Int) % 65536 * 256) % 65536 = hi * 256 by omega, show (lo : Int) % 65536 = lo by omega]
  congr 1
  exact bits_join .u16 16 (by decide) (fun n h0 h1 => by simp [IntKind.wrap, IntKind.bits, IntKind.signed]; omega) 8 ((hi : Int) * 256) lo (by omega) (by omega) (by omega) (by omega) (by omega) (by omega)
theorem cat22 (a b c d : UInt8) : (⟨#[a, b]⟩ : ByteArray) ++ ⟨#[c, d]⟩ = ⟨#[a, b, c, d]⟩ := rfl
theorem hex16_prog (hi lo : Nat) (h : hi < 256) (l : lo < 256) : word_Hex16.f ((hi : Int) * 256 + lo) = some ⟨#[hexd (hi / 16), hexd (hi % 16), hexd (lo / 16), hexd (lo % 16)]⟩ := by
  unfold word_Hex16.f
  rw [show ((hi : Int) * 256 + lo) / 256 % 256 = (hi : Int) by omega, show ((hi : Int) * 256 + lo) % 256 = (lo : Int) by omega, hex8_prog hi h, hex8_prog lo l]
  rfl
def progT (op : Nat) (h1 h2 h3 h4 : UInt8) : Option ByteArray :=
  (bookForm op).bind fun f => listing_text.f 9 f.1 f.2.1 f.2.2.1 f.2.2.2.1 f.2.2.2.2.1 f.2.2.2.2.2 ((op : Int) % 256) (⟨#[36]⟩ ++ ⟨#[h1, h2]⟩) (⟨#[36]⟩ ++ ⟨#[h3, h4, h1, h2]⟩)
set_option maxRecDepth 100000 in
theorem prog_all (h1 h2 h3 h4 : UInt8) : (List.range 512).map (fun op => progT op h1 h2 h3 h4) = (List.range 512).map (fun op => some ⟨(lineT op h1 h2 h3 h4).toArray⟩) := by kernel_rfl
theorem progT_is (op : Nat) (h : op < 512) (h1 h2 h3 h4 : UInt8) : progT op h1 h2 h3 h4 = some ⟨(lineT op h1 h2 h3 h4).toArray⟩ :=
  List.map_inj_left.1 (prog_all h1 h2 h3 h4) op (List.mem_range.2 h)
theorem text_prog (op lo hi : Nat) (h : op < 512) (hl : lo < 256) (hh : hi < 256) : listing_Text.f 9 ((op : Int) % 256) (decide (255 < (op : Int))) (lo : Int) (hi : Int) = some ⟨(lineL op lo hi).toArray⟩ := by
  have e := progT_is op h (hexd (lo / 16)) (hexd (lo % 16)) (hexd (hi / 16)) (hexd (hi % 16))
  unfold listing_Text.f
  rw [hex8_prog lo hl, join_prog hi lo hh hl]
  unfold progT bookForm at e
  cases hf : listing_form.f 9 ((op : Int) % 256) (decide (255 < (op : Int))) with
  | none => rw [hf] at e; cases e
  | some f =>
    rw [hf] at e
    simp only [bind_some'] at e ⊢
    rw [hex16_prog hi lo hh hl]
    have s2 : (hexB lo).size = 2 := rfl
    rw [if_pos (by omega)]
    simp only [bind_some']
    rw [if_pos (by show 1 + 4 ≤ _; omega)]
    have e' : listing_text.f 9 f.1 f.2.1 f.2.2.1 f.2.2.2.1 f.2.2.2.2.1 f.2.2.2.2.2 ((op : Int) % 256) ((⟨#[36]⟩ : ByteArray) ++ hexB lo) ((⟨#[36]⟩ : ByteArray) ++ ⟨#[hexd (hi / 16), hexd (hi % 16), hexd (lo / 16), hexd (lo % 16)]⟩) = some ⟨(lineL op lo hi).toArray⟩ := e
    rw [e']
    rfl
/-! ### the document's -/
theorem hex8_allR : ((List.range 256).all fun v => decide (whirligigref01_Hex8.f (v : Int) = some (hexB v))) = true := by kernel_rfl
theorem hex8_ref (v : Nat) (h : v < 256) : whirligigref01_Hex8.f (v : Int) = some (hexB v) := of_decide_eq_true (List.all_eq_true.1 hex8_allR v (List.mem_range.2 h))
theorem wrap64_id {x : Int} (h0 : -9223372036854775808 ≤ x) (h1 : x ≤ 9223372036854775807) : wrap64 x = x := by unfold wrap64; omega
theorem join_ref (hi lo : Nat) (h : hi < 256) (l : lo < 256) : whirligigref01_Join.f (hi : Int) (lo : Int) = some ((hi : Int) * 256 + lo) := by
  unfold whirligigref01_Join.f
  rw [wrap64_id (x := (hi : Int)) (by omega) (by omega), wrap64_id (x := (lo : Int)) (by omega) (by omega), wrap64_id (x := (hi : Int) * 256) (by omega) (by omega), wrap64_id (by omega) (by omega), wrapU16]
  congr 1
  omega
theorem split_ref (hi lo : Nat) (h : hi < 256) (l : lo < 256) : whirligigref01_Split.f ((hi : Int) * 256 + lo) = some ((hi : Int), (lo : Int)) := by
  unfold whirligigref01_Split.f
  rw [wrap64_id (x := (hi : Int) * 256 + lo) (by omega) (by omega), Int.tdiv_eq_ediv_of_nonneg (by omega), Int.tmod_eq_emod_of_nonneg (by omega), wrap64_id (by omega) (by omega)]
  congr 1
  refine Prod.ext ?_ ?_
  · show ((hi : Int) * 256 + lo) / 256 % 256 = hi; omega
  · show ((hi : Int) * 256 + lo) % 256 % 256 = lo; omega
theorem hex16_ref (hi lo : Nat) (h : hi < 256) (l : lo < 256) : whirligigref01_Hex16.f ((hi : Int) * 256 + lo) = some ⟨#[hexd (hi / 16), hexd (hi % 16), hexd (lo / 16), hexd (lo % 16)]⟩ := by
  unfold whirligigref01_Hex16.f
  rw [split_ref hi lo h l, bind_some']
  dsimp only
  rw [hex8_ref hi h, bind_some', hex8_ref lo l, bind_some', if_pos (by show 2 + 2 ≤ 9223372036854775807; omega)]
  exact congrArg some (cat22 _ _ _ _)
/-- What a small letter stands for, with the two numbers' texts handed in. -/
def meansH (k : Nat) (B W : Option ByteArray) (c f0 f1 f2 f3 f4 f5 op : Int) : Option ByteArray :=
  if c = 114 then ((whirligigref06_Reg.f k f1).bind fun t => some t) else (if c = 115 then ((whirligigref06_Reg.f k f2).bind fun t => some t) else (if c = 112 then ((whirligigref06_Pair.f k f1).bind fun t => some t) else (if c = 110 then ((whirligigref06_Cond.f k f1).bind fun t => some t) else (if c = 113 then ((whirligigref06_word.f k (⟨#[40, 66, 67, 41, 32, 40, 68, 69, 41, 32, 40, 72, 76, 43, 41, 32, 40, 72, 76, 45, 41]⟩ : ByteArray) f1).bind fun t => some t) else (if c = 97 then ((whirligigref06_Op.f k f1).bind fun t => some t) else (if c = 104 then ((whirligigref06_Shift.f k f1).bind fun t => some t) else (if c = 120 then (if 0 ≤ f1 then (if f1 ≤ (wrap64 (f1 + 1)) then (if (wrap64 (f1 + 1)) ≤ 8 then (some ((⟨#[48, 49, 50, 51, 52, 53, 54, 55]⟩ : ByteArray).extract (f1 : Int).toNat ((wrap64 (f1 + 1)) : Int).toNat)) else (none)) else (none)) else (none)) else (if c = 101 then ((whirligigref01_Hex8.f ((wrap64 (8 * f1)) % 256)).bind fun t => (if 1 + t.size ≤ 9223372036854775807 then (some ((⟨#[36]⟩ : ByteArray) ++ t)) else (none))) else (if c = 111 then ((whirligigref01_Hex8.f op).bind fun t => (if 1 + t.size ≤ 9223372036854775807 then (some ((⟨#[36]⟩ : ByteArray) ++ t)) else (none))) else (if c = 98 then (B.bind fun t => (if 1 + t.size ≤ 9223372036854775807 then (some ((⟨#[36]⟩ : ByteArray) ++ t)) else (none))) else (W.bind fun t => (if 1 + t.size ≤ 9223372036854775807 then (some ((⟨#[36]⟩ : ByteArray) ++ t)) else (none)))))))))))))
theorem means_is (k : Nat) (c f0 f1 f2 f3 f4 f5 op lo hi : Int) : whirligigref06_means.f k c f0 f1 f2 f3 f4 f5 op lo hi = meansH k (whirligigref01_Hex8.f lo) ((whirligigref01_Join.f hi lo).bind whirligigref01_Hex16.f) c f0 f1 f2 f3 f4 f5 op := rfl
def textH : Nat → Option ByteArray → Option ByteArray → Int → ByteArray → ByteArray → Int → Int → Int → Int → Int → Int → Int → Option ByteArray
  | 0, _, _, _, _, _, _, _, _, _, _, _, _ => none
  | k + 1, B, W, x0, x10, x11, x12, f0, f1, f2, f3, f4, f5 => if x12 < (x10.size : Int) then (if 0 ≤ x12 then (if (bt x10 x12) ≥ 97 then (if (bt x10 x12) ≤ 122 then ((meansH k B W (bt x10 x12) f0 f1 f2 f3 f4 f5 x0).bind fun t408 => (if x11.size + t408.size ≤ 9223372036854775807 then (textH k B W x0 x10 (x11 ++ t408) (wrap64 (x12 + 1)) f0 f1 f2 f3 f4 f5) else (none))) else (if x12 ≤ (wrap64 (x12 + 1)) then (if (wrap64 (x12 + 1)) ≤ (x10.size : Int) then (if x11.size + (x10.extract (x12 : Int).toNat ((wrap64 (x12 + 1)) : Int).toNat).size ≤ 9223372036854775807 then (textH k B W x0 x10 (x11 ++ (x10.extract (x12 : Int).toNat ((wrap64 (x12 + 1)) : Int).toNat)) (wrap64 (x12 + 1)) f0 f1 f2 f3 f4 f5) else (none)) else (none)) else (none))) else (if x12 ≤ (wrap64 (x12 + 1)) then (if (wrap64 (x12 + 1)) ≤ (x10.size : Int) then (if x11.size + (x10.extract (x12 : Int).toNat ((wrap64 (x12 + 1)) : Int).toNat).size ≤ 9223372036854775807 then (textH k B W x0 x10 (x11 ++ (x10.extract (x12 : Int).toNat ((wrap64 (x12 + 1)) : Int).toNat)) (wrap64 (x12 + 1)) f0 f1 f2 f3 f4 f5) else (none)) else (none)) else (none))) else (none)) else (some x11)
theorem text_is (k : Nat) : ∀ (x0 lo hi : Int) (x10 x11 : ByteArray) (x12 f0 f1 f2 f3 f4 f5 : Int), whirligigref06_Text.l0 k x0 lo hi x10 x11 x12 f0 f1 f2 f3 f4 f5 = textH k (whirligigref01_Hex8.f lo) ((whirligigref01_Join.f hi lo).bind whirligigref01_Hex16.f) x0 x10 x11 x12 f0 f1 f2 f3 f4 f5 := by
  induction k with
  | zero => intros; rfl
  | succ k ih =>
    intro x0 lo hi x10 x11 x12 f0 f1 f2 f3 f4 f5
    unfold whirligigref06_Text.l0 textH
    simp only [means_is, ih]
set_option maxRecDepth 100000 in
theorem forms_all : ((List.range 512).all fun op => decide (whirligigref06_form.f 100 ((op : Int) % 256) (decide (255 < (op : Int))) = bookForm op)) = true := by kernel_rfl
theorem form_ref (op : Nat) (h : op < 512) : whirligigref06_form.f 100 ((op : Int) % 256) (decide (255 < (op : Int))) = bookForm op := of_decide_eq_true (List.all_eq_true.1 forms_all op (List.mem_range.2 h))
def refT (op : Nat) (h1 h2 h3 h4 : UInt8) : Option ByteArray :=
  (bookForm op).bind fun f => (whirligigref06_Pattern.f 100 f.1 (f.2.1 == 4)).bind fun p => textH 100 (some ⟨#[h1, h2]⟩) (some ⟨#[h3, h4, h1, h2]⟩) ((op : Int) % 256) p ⟨#[]⟩ 0 f.1 f.2.1 f.2.2.1 f.2.2.2.1 f.2.2.2.2.1 f.2.2.2.2.2
set_option maxRecDepth 100000 in
theorem ref_all (h1 h2 h3 h4 : UInt8) : (List.range 512).map (fun op => refT op h1 h2 h3 h4) = (List.range 512).map (fun op => some ⟨(lineT op h1 h2 h3 h4).toArray⟩) := by kernel_rfl
theorem refT_is (op : Nat) (h : op < 512) (h1 h2 h3 h4 : UInt8) : refT op h1 h2 h3 h4 = some ⟨(lineT op h1 h2 h3 h4).toArray⟩ :=
  List.map_inj_left.1 (ref_all h1 h2 h3 h4) op (List.mem_range.2 h)
theorem text_ref (op lo hi : Nat) (h : op < 512) (hl : lo < 256) (hh : hi < 256) : whirligigref06_Text.f 100 ((op : Int) % 256) (decide (255 < (op : Int))) (lo : Int) (hi : Int) = some ⟨(lineL op lo hi).toArray⟩ := by
  refine Eq.trans ?_ (refT_is op h (hexd (lo / 16)) (hexd (lo % 16)) (hexd (hi / 16)) (hexd (hi % 16)))
  unfold whirligigref06_Text.f refT
  rw [form_ref op h]
  refine congrArg (Option.bind _) (funext fun f => ?_)
  refine congrArg (Option.bind _) (funext fun p => ?_)
  rw [text_is, hex8_ref lo hl, join_ref hi lo hh hl, bind_some', hex16_ref hi lo hh hl]
  rfl
end Go.Proofs.YtpjbfpheenamiaaDoor.PF
