/- Texts of this claim, put together: GPureTexts, GPureOnes, GPureK, GPureA, GPureB, GPureC, GPureL, PF20, GAllS, PF18, GLinesP, PF9, GPureBack, GBulk. -/
import Derived.Test.YtpjbfpheenamiaaDoorGWordsD
import Derived.Test.YtpjbfpheenamiaaDoorB26
import Derived.Test.YtpjbfpheenamiaaDoorB15
import Derived.Test.YtpjbfpheenamiaaDoorB28
import Derived.Test.YtpjbfpheenamiaaDoorB27
import Derived.Test.YtpjbfpheenamiaaDoorB1
import Derived.Test.YtpjbfpheenamiaaDoorRows
import Derived.OpenShut
import Derived.ChangeSlices
/- The lines of both, for every opcode, with any number of rounds that is enough; no condition. -/
namespace Go.Proofs.YtpjbfpheenamiaaDoor.PF
open Go.RowKit Go.Proofs.YtpjbfpheenamiaaDoorW.PrintWords
set_option linter.unusedVariables false
set_option maxRecDepth 100000 in
theorem shown_ok : whirligiglaw06_shown.f 100 = some true := by kernel_rfl
theorem u8_nat {x : Int} (h : (Lit.int .u8 x).wf = true) : ∃ n : Nat, n < 256 ∧ x = n := by
  simp [Lit.wf, IntKind.min, IntKind.max, IntKind.signed, IntKind.bits] at h
  exact ⟨x.toNat, by omega, by omega⟩
theorem op_of (x : Nat) (b : Bool) (h : x < 256) : ∃ op : Nat, op < 512 ∧ (x : Int) = (op : Int) % 256 ∧ b = decide (255 < (op : Int)) ∧ op = if b = true then x + 256 else x := by
  cases b with
  | false => exact ⟨x, by omega, by omega, by rw [decide_eq_false (by omega)], rfl⟩
  | true => exact ⟨x + 256, by omega, by omega, by rw [decide_eq_true (by omega)], rfl⟩
theorem text_prog_k {k : Nat} (hk : 9 ≤ k) (op lo hi : Nat) (h : op < 512) (hl : lo < 256) (hh : hi < 256) : listing_Text.f k ((op : Int) % 256) (decide (255 < (op : Int))) (lo : Int) (hi : Int) = some ⟨(lineL op lo hi).toArray⟩ :=
  at_rounds (g := fun k => listing_Text.f k ((op : Int) % 256) (decide (255 < (op : Int))) (lo : Int) (hi : Int)) (listing_Text.mono _ _ _ _) hk (text_prog op lo hi h hl hh)
theorem text_ref_k {k : Nat} (hk : 100 ≤ k) (op lo hi : Nat) (h : op < 512) (hl : lo < 256) (hh : hi < 256) : whirligigref06_Text.f k ((op : Int) % 256) (decide (255 < (op : Int))) (lo : Int) (hi : Int) = some ⟨(lineL op lo hi).toArray⟩ :=
  at_rounds (g := fun k => whirligigref06_Text.f k ((op : Int) % 256) (decide (255 < (op : Int))) (lo : Int) (hi : Int)) (whirligigref06_Text.mono _ _ _ _) hk (text_ref op lo hi h hl hh)
end Go.Proofs.YtpjbfpheenamiaaDoor.PF
/- What the program lists of the bytes that there are: one line, and how many bytes it takes; no condition. -/
namespace Go.Proofs.YtpjbfpheenamiaaDoor.PF
open Go.RowKit Go.Proofs.YtpjbfpheenamiaaDoorW.PrintWords
set_option linter.unusedVariables false
set_option linter.unusedSimpArgs false
set_option maxRecDepth 100000
/-- How many bytes an opcode's instruction takes. -/
def nbT (op : Nat) : Nat := match bookForm op with
  | some f => f.2.2.2.1.toNat
  | none => 0
def formTabB (op : Nat) : Bool := match bookForm op with
  | some f => (f.2.2.2.1 == 1 || f.2.2.2.1 == 2 || f.2.2.2.1 == 3) && (decide (f.1 = 6) == decide (op = 203)) && (!decide (op = 203) || f.2.2.2.1 == 1) && decide (opcode_Decode.f 9 (op : Int) = bookForm op)
  | none => false
theorem formTab_all : ((List.range 256).all formTabB) = true := by kernel_rfl
theorem formTab (op : Nat) (h : op < 256) : ∃ f0 f1 f2 f3 f4 f5, bookForm op = some (f0, f1, f2, f3, f4, f5) ∧ opcode_Decode.f 9 (op : Int) = some (f0, f1, f2, f3, f4, f5) ∧ (f3 = 1 ∨ f3 = 2 ∨ f3 = 3) ∧ (f0 = 6 ↔ op = 203) ∧ (op = 203 → f3 = 1) ∧ ((nbT op : Nat) : Int) = f3 := by
  have hb := List.all_eq_true.1 formTab_all op (List.mem_range.2 h)
  unfold formTabB at hb
  unfold nbT
  cases hf : bookForm op with
  | none => rw [hf] at hb; cases hb
  | some f =>
    obtain ⟨f0, f1, f2, f3, f4, f5⟩ := f
    rw [hf] at hb
    simp only [Bool.and_eq_true, Bool.or_eq_true, beq_iff_eq, decide_eq_true_eq, Bool.not_eq_true', decide_eq_false_iff_not] at hb
    obtain ⟨⟨⟨h1, h2⟩, h3⟩, h4⟩ := hb
    refine ⟨f0, f1, f2, f3, f4, f5, rfl, h4, ?_, ?_, fun e => ?_, ?_⟩
    · rcases h1 with (h1 | h1) | h1 <;> simp [h1]
    · exact decide_eq_decide.1 h2
    · rcases h3 with h3 | h3
      · exact absurd e h3
      · exact h3
    · show ((f3.toNat : Nat) : Int) = f3
      rcases h1 with (h1 | h1) | h1 <;> omega
def cbTabB (op : Nat) : Bool := decide (opcode_DecodeCB.f (op : Int) = bookForm (op + 256)) && match bookForm (op + 256) with
  | some f => f.2.2.2.1 == 2
  | none => false
theorem cbTab_all : ((List.range 256).all cbTabB) = true := by kernel_rfl
theorem cbTab (op : Nat) (h : op < 256) : ∃ f0 f1 f2 f4 f5, opcode_DecodeCB.f (op : Int) = some (f0, f1, f2, 2, f4, f5) := by
  have hb := List.all_eq_true.1 cbTab_all op (List.mem_range.2 h)
  unfold cbTabB at hb
  simp only [Bool.and_eq_true, decide_eq_true_eq] at hb
  cases hf : bookForm (op + 256) with
  | none => rw [hf] at hb; cases hb.2
  | some f =>
    obtain ⟨f0, f1, f2, f3, f4, f5⟩ := f
    rw [hf] at hb
    have : f3 = 2 := by simpa using hb.2
    subst this
    exact ⟨f0, f1, f2, f4, f5, hb.1⟩
def dbB (x : Nat) : ByteArray := (⟨#[68, 66, 32, 36]⟩ : ByteArray) ++ hexB x
theorem db203 : (⟨(lineL 203 0 0).toArray⟩ : ByteArray) = dbB 203 := by kernel_rfl
/-- The line of what bytes begin with, and how many it takes. -/
def oneS : List Nat → ByteArray × Nat
  | [] => (⟨#[]⟩, 0)
  | x :: r => if x = 203 then (match r with
      | [] => (dbB x, 1)
      | y :: _ => (⟨(lineL (y + 256) 0 0).toArray⟩, 2))
    else if r.length + 1 < nbT x then (dbB x, 1)
    else (⟨(lineL x (if 1 < nbT x then r.getD 0 0 else 0) (if 2 < nbT x then r.getD 1 0 else 0)).toArray⟩, nbT x)
theorem oneS_cons (x : Nat) (r : List Nat) : oneS (x :: r) = if x = 203 then (match r with
      | [] => (dbB x, 1)
      | y :: _ => (⟨(lineL (y + 256) 0 0).toArray⟩, 2))
    else if r.length + 1 < nbT x then (dbB x, 1)
    else (⟨(lineL x (if 1 < nbT x then r.getD 0 0 else 0) (if 2 < nbT x then r.getD 1 0 else 0)).toArray⟩, nbT x) := rfl
def ints (l : List Nat) : List Int := l.map fun n : Nat => (n : Int)
theorem ints_of (l : List Int) (h : ∀ x ∈ l, (Lit.int .u8 x).wf = true) : ∃ m : List Nat, l = ints m ∧ ∀ x ∈ m, x < 256 := by
  refine ⟨l.map Int.toNat, ?_, ?_⟩
  · unfold ints
    rw [List.map_map]
    conv => lhs; rw [← List.map_id l]
    refine List.map_congr_left fun x hx => ?_
    obtain ⟨n, _, rfl⟩ := u8_nat (h x hx)
    simp
  · intro x hx
    obtain ⟨y, hy, rfl⟩ := List.mem_map.1 hx
    obtain ⟨n, hn, rfl⟩ := u8_nat (h y hy)
    simpa using hn
theorem ints_length (l : List Nat) : (ints l).length = l.length := by simp [ints]
theorem rd_ints (l : List Nat) (i : Nat) : rd (ints l) (i : Int) = ((l.getD i 0 : Nat) : Int) := by
  unfold rd ints
  rw [Int.toNat_natCast, List.getD_eq_getElem?_getD, List.getD_eq_getElem?_getD, List.getElem?_map]
  cases l[i]? <;> rfl
theorem decode_k {k : Nat} (hk : 9 ≤ k) {x : Int} {f : Int × Int × Int × Int × Int × Int} (h : opcode_Decode.f 9 x = some f) : opcode_Decode.f k x = some f :=
  at_rounds (g := fun k => opcode_Decode.f k x) (opcode_Decode.mono _) hk h
theorem text_prog0 {k : Nat} (hk : 9 ≤ k) (x lo hi : Nat) (h : x < 256) (hl : lo < 256) (hh : hi < 256) : listing_Text.f k (x : Int) false (lo : Int) (hi : Int) = some ⟨(lineL x lo hi).toArray⟩ := by
  have := text_prog_k hk x lo hi (by omega) hl hh
  rwa [show ((x : Int) % 256) = x by omega, decide_eq_false (by omega)] at this
theorem text_prog1 {k : Nat} (hk : 9 ≤ k) (x : Nat) (h : x < 256) : listing_Text.f k (x : Int) true 0 0 = some ⟨(lineL (x + 256) 0 0).toArray⟩ := by
  have := text_prog_k hk (x + 256) 0 0 (by omega) (by omega) (by omega)
  rwa [show (((x + 256 : Nat) : Int) % 256) = x by omega, decide_eq_true (by omega)] at this
theorem text_ref0 {k : Nat} (hk : 100 ≤ k) (x lo hi : Nat) (h : x < 256) (hl : lo < 256) (hh : hi < 256) : whirligigref06_Text.f k (x : Int) false (lo : Int) (hi : Int) = some ⟨(lineL x lo hi).toArray⟩ := by
  have := text_ref_k hk x lo hi (by omega) hl hh
  rwa [show ((x : Int) % 256) = x by omega, decide_eq_false (by omega)] at this
theorem text_ref1 {k : Nat} (hk : 100 ≤ k) (x : Nat) (h : x < 256) : whirligigref06_Text.f k (x : Int) true 0 0 = some ⟨(lineL (x + 256) 0 0).toArray⟩ := by
  have := text_ref_k hk (x + 256) 0 0 (by omega) (by omega) (by omega)
  rwa [show (((x + 256 : Nat) : Int) % 256) = x by omega, decide_eq_true (by omega)] at this
theorem getD_lt {l : List Nat} (h : ∀ x ∈ l, x < 256) (i : Nat) : l.getD i 0 < 256 := by
  rw [List.getD_eq_getElem?_getD]
  cases hi : l[i]? with
  | none => simp
  | some y => exact h y (List.mem_of_getElem? hi)
theorem db_some (x : Nat) (h : x < 256) : ((word_Hex8.f (x : Int)).bind fun t => (if 4 + t.size ≤ 9223372036854775807 then (some ((⟨#[68, 66, 32, 36]⟩ : ByteArray) ++ t, (1 : Int))) else (none))) = some (dbB x, 1) := by
  rw [hex8_prog x h, bind_some', if_pos (by show 4 + 2 ≤ 9223372036854775807; omega)]
  rfl
theorem db_someR (x : Nat) (h : x < 256) : ((whirligigref01_Hex8.f (x : Int)).bind fun t => (if 4 + t.size ≤ 9223372036854775807 then (some ((⟨#[68, 66, 32, 36]⟩ : ByteArray) ++ t, (1 : Int))) else (none))) = some (dbB x, 1) := by
  rw [hex8_ref x h, bind_some', if_pos (by show 4 + 2 ≤ 9223372036854775807; omega)]
  rfl
theorem one_prog {k : Nat} (hk : 20 ≤ k) (l : List Nat) (h : ∀ x ∈ l, x < 256) : listing_One.f k (ints l) = some ((oneS l).1, ((oneS l).2 : Int)) := by
  obtain ⟨m, rfl⟩ : ∃ m, k = m + 1 + 1 + 1 := ⟨k - 3, by omega⟩
  cases l with
  | nil => unfold listing_One.f; rw [if_pos (by simp [ints])]; rfl
  | cons x r =>
    have hx : x < 256 := h x (by simp)
    have hr : ∀ y ∈ r, y < 256 := fun y hy => h y (by simp [hy])
    obtain ⟨f0, f1, f2, f3, f4, f5, hf, hd, h3, h6, h1, hn⟩ := formTab x hx
    have hlen : ((ints (x :: r)).length : Int) = r.length + 1 := by rw [ints_length]; simp
    have r0 : rd (ints (x :: r)) 0 = (x : Int) := rd_ints _ 0
    have r1 : rd (ints (x :: r)) 1 = ((r.getD 0 0 : Nat) : Int) := (rd_ints (x :: r) 1).trans rfl
    have r2 : rd (ints (x :: r)) 2 = ((r.getD 1 0 : Nat) : Int) := (rd_ints (x :: r) 2).trans rfl
    unfold listing_One.f
    rw [if_neg (by omega), if_pos (by omega), r0, decode_k (by omega) hd, bind_some']
    dsimp only
    rw [oneS_cons]
    by_cases hc : x = 203
    · have e6 := h6.2 hc
      have e3 := h1 hc
      rw [if_pos e6, if_pos hc]
      cases r with
      | nil =>
        rw [decide_eq_false (by rw [hlen]; simp), listing_One.j0, if_neg (by simp), listing_One.j1, if_neg (by rw [hlen, e3]; simp), if_neg (by simp), listing_One.j2, decide_eq_false (by omega), if_neg (by simp), if_neg (by omega)]
        have t := text_prog0 (k := m) (by omega) x 0 0 hx (by omega) (by omega)
        rw [show ((0 : Nat) : Int) = 0 from rfl] at t
        rw [t, bind_some', e3, hc, db203]
        rfl
      | cons y t =>
        have hy : y < 256 := hr y (by simp)
        obtain ⟨g0, g1, g2, g4, g5, hg⟩ := cbTab y hy
        rw [decide_eq_true (by rw [hlen]; simp only [List.length_cons]; omega), listing_One.j0, if_pos rfl, if_pos (by rw [hlen]; simp only [List.length_cons]; omega), r1]
        simp only [List.getD_cons_zero]
        rw [hg, bind_some']
        dsimp only
        rw [listing_One.j1, if_neg (by rw [hlen]; simp only [List.length_cons]; omega), if_pos rfl, listing_One.j2, if_neg (by simp), if_neg (by omega), text_prog1 (by omega) y hy, bind_some']
        rfl
    · have n6 : ¬ f0 = 6 := fun e => hc (h6.1 e)
      rw [if_neg n6, if_neg hc, listing_One.j0, if_neg (by simp), listing_One.j1]
      by_cases hl : r.length + 1 < nbT x
      · rw [if_pos (by rw [hlen]; omega), if_pos hl, if_pos (by omega), r0]
        exact db_some x hx
      · rw [if_neg (by rw [hlen]; omega), if_neg hl, if_neg (by simp), listing_One.j2]
        rcases h3 with e | e | e
        · rw [decide_eq_false (by omega), if_neg (by simp), if_neg (by omega), if_neg (by omega), if_neg (by omega)]
          have t := text_prog0 (k := m) (by omega) x 0 0 hx (by omega) (by omega)
          rw [show ((0 : Nat) : Int) = 0 from rfl] at t
          rw [t, bind_some', hn]
        · rw [decide_eq_true (by omega), if_pos rfl, if_pos (by rw [hlen]; omega), if_neg (by omega), if_pos (by omega), if_neg (by omega), r1]
          have t := text_prog0 (k := m) (by omega) x (r.getD 0 0) 0 hx (getD_lt hr 0) (by omega)
          rw [show ((0 : Nat) : Int) = 0 from rfl] at t
          rw [t, bind_some', hn]
        · rw [decide_eq_true (by omega), if_pos rfl, if_pos (by rw [hlen]; omega), if_pos (by omega), if_pos (by rw [hlen]; omega), if_pos (by omega), if_pos (by omega), r1, r2, text_prog0 (by omega) x _ _ hx (getD_lt hr 0) (getD_lt hr 1), bind_some', hn]
theorem shown_k {k : Nat} (hk : 100 ≤ k) : whirligiglaw06_shown.f k = some true := at_rounds (g := whirligiglaw06_shown.f) whirligiglaw06_shown.mono hk shown_ok
end Go.Proofs.YtpjbfpheenamiaaDoor.PF
/- What the book's lines are: no two alike, each with one number at most, between letters that the document names; no condition. -/
namespace Go.Proofs.YtpjbfpheenamiaaDoor.PF
open Go.RowKit Go.Proofs.YtpjbfpheenamiaaDoorW.PrintWords
set_option linter.unusedVariables false
set_option linter.unusedSimpArgs false
set_option maxRecDepth 100000
def num : List UInt8 → Nat
  | [] => 1
  | c :: l => num l * 256 + c.toNat
theorem num_pos (l : List UInt8) : 1 ≤ num l := by
  induction l with
  | nil => exact Nat.le_refl _
  | cons c l ih => unfold num; omega
theorem num_inj : ∀ (l m : List UInt8), num l = num m → l = m := by
  intro l
  induction l with
  | nil =>
    intro m h
    cases m with
    | nil => rfl
    | cons c m => have := num_pos m; simp only [num] at h; omega
  | cons c l ih =>
    intro m h
    cases m with
    | nil => have := num_pos l; simp only [num] at h; omega
    | cons d m =>
      simp only [num] at h
      have hc := c.toNat_lt
      have hd := d.toNat_lt
      have e1 : c.toNat = d.toNat := by omega
      have e2 : num l = num m := by omega
      rw [ih m e2, UInt8.toNat_inj.1 e1]
def keyNum (op : Nat) : Nat := match bookKey op with
  | some t => num t.data.toList
  | none => 0
def keyNums : List Nat := [22040398, 105601783650337868, 5924586996223900140620, 355426264895049, 1383520751177, 1383520748868, 389417204204620, 5389896786, 6204099219562283680844, 5963066605786326385729, 5483529470211277210700, 355426264892740, 1387815718473, 1387815716164, 389417220981836, 5389898322, 389365902562387, 105601792273826892, 5924586998431513330764, 357633878085193, 1392110685769, 1392110683460, 389417237759052, 21056594, 5941252682, 6000104209121821344833, 5483674148349306487884, 357633878082884, 1396405653065, 1396405650756, 389417254536268, 21058130, 99690908124992074, 105601822405706828, 1516694264289051682030668, 365347639348809, 1409290554953, 1409290552644, 389417304867916, 21053764, 389417606861386, 6129519648013939917889, 1403341552094969881183308, 365347639346500, 1426470424137, 1426470421828, 389417371976780, 21778499, 99690809340744266, 105601839770125388, 1516694264852001635451980, 369792930500169, 21422576864671780425, 21422576864671778116, 6533329560577689797708, 21381971, 389417220985418, 6204099257843195331649, 1403378445583117300286540, 369792930497860, 1379225783881, 1379225781572, 389417187427404, 21381955, 354232832115788, 355332343743564, 356431855371340, 357531366999116, 360829901882444, 365227948393548, 5484179677407495603276, 353133320488012, 354232848893004, 355332360520780, 356431872148556, 357531383776332, 360829918659660, 365227965170764, 5484179677407512380492, 353133337265228, 354232865670220, 355332377297996, 356431888925772, 357531400553548, 360829935436876, 365227981947980, 5484179677407529157708, 353133354042444, 354232882447436, 355332394075212, 356431905702988, 357531417330764, 360829952214092, 365227998725196, 5484179677407545934924, 353133370819660, 354232932779084, 355332444406860, 356431956034636, 357531467662412, 360830002545740, 365228049056844, 5484179677407596266572, 353133421151308, 354232999887948, 355332511515724, 356432023143500, 357531534771276, 360830069654604, 365228116165708, 5484179677407663375436, 353133488260172, 5943033750218984145996, 5961480494292693697612, 5979927238366403249228, 5998373982440112800844, 6053714214661241455692, 6127501190956079662156, 5709250888, 5924587006145274594380, 354232815338572, 355332326966348, 356431838594124, 357531350221900, 360829885105228, 365227931616332, 5484179677407478826060, 353133303710796, 1383520814145, 1387815781441, 1392110748737, 1396405716033, 1409290617921, 1426470487105, 21422576864671843393, 1379225846849, 1383520748609, 1387815715905, 1392110683201, 1396405650497, 1409290552385, 1426470421569, 21422576864671777857, 1379225781313, 1383520687443, 1387815654739, 1392110622035, 1396405589331, 1409290491219, 1426470360403, 21422576864671716691, 1379225720147, 1383520748115, 1387815715411, 1392110682707, 1396405650003, 1409290551891, 1426470421075, 21422576864671777363, 1379225780819, 1383520816705, 1387815784001, 1392110751297, 1396405718593, 1409290620481, 1426470489665, 21422576864671845953, 1379225849409, 1383521734488, 1387816701784, 1392111669080, 1396406636376, 1409291538264, 1426471407448, 21422576864672763736, 1379226767192, 5404381775, 5421158991, 5437936207, 5454713423, 5505045071, 5572153935, 83681940877627983, 5387604559, 5404381251, 5421158467, 5437935683, 5454712899, 5505044547, 5572153411, 83681940877627459, 5387604035, 380766573053266, 355426265747280, 105601882635915338, 6293573706, 6920724980427280630083, 90989123897349456, 1520959767617, 85621324639392594, 1486601078098, 22299986, 412507351044170, 0, 27034081757963764035, 412455579435331, 1520959702081, 87873124453077842, 355477805614418, 357633878937424, 105601783851667530, 0, 6920718506502816284995, 91554272874026320, 1520959640915, 85622424151020370, 1387816830290, 5525226834, 412506965168202, 0, 27034056469196325187, 0, 1520959701587, 87874223964705618, 5924587030196959855692, 365347640201040, 5924586996112099394636, 0, 0, 93528995757512016, 1520959770177, 85623523662648146, 25520861506355610689, 1427139219530, 23142918176901186636, 0, 0, 0, 1520960687960, 87875323476333394, 5485755941764748297292, 358720505663312, 5483522156349572531276, 84292, 0, 91832449315853648, 5941252687, 85624623174275922, 1672516732949676156798028, 23943436142418871372, 21434645122029470796, 84293, 0, 0, 5941252163, 87876422987961170, 1383520750674, 1387815717970, 1392110685266, 1396405652562, 1409290554450, 1426470423634, 21422576864671779922, 1379225783378, 1383520752210, 1387815719506, 1392110686802, 1396405654098, 1409290555986, 1426470425170, 21422576864671781458, 1379225784914, 5404380242, 5421157458, 5437934674, 5454711890, 5505043538, 5572152402, 83681940877626450, 5387603026, 5404381778, 5421158994, 5437936210, 5454713426, 5505045074, 5572153938, 83681940877627986, 5387604562, 1383520619603, 1387815586899, 1392110554195, 1396405521491, 1409290423379, 1426470292563, 21422576864671648851, 1379225652307, 1383520621139, 1387815588435, 1392110555731, 1396405523027, 1409290424915, 1426470294099, 21422576864671650387, 1379225653843, 354181529556819, 355281041184595, 356380552812371, 357480064440147, 360778599323475, 365176645834579, 5484179677356193044307, 353082017929043, 1383521342035, 1387816309331, 1392111276627, 1396406243923, 1409291145811, 1426471014995, 21422576864672371283, 1379226374739, 90683527713278274, 90965002689988930, 91246477666699586, 91527952643410242, 92372377573542210, 93498277480384834, 1403949997416241566075202, 90402052736567618, 90683532008245570, 90965006984956226, 91246481961666882, 91527956938377538, 92372381868509506, 93498281775352130, 1403949997416245861042498, 90402057031534914, 90683536303212866, 90965011279923522, 91246486256634178, 91527961233344834, 92372386163476802, 93498286070319426, 1403949997416250156009794, 90402061326502210, 90683540598180162, 90965015574890818, 91246490551601474, 91527965528312130, 92372390458444098, 93498290365286722, 1403949997416254450977090, 90402065621469506, 90683544893147458, 90965019869858114, 91246494846568770, 91527969823279426, 92372394753411394, 93498294660254018, 1403949997416258745944386, 90402069916436802, 90683549188114754, 90965024164825410, 91246499141536066, 91527974118246722, 92372399048378690, 93498298955221314, 1403949997416263040911682, 90402074211404098, 90683553483082050, 90965028459792706, 91246503436503362, 91527978413214018, 92372403343345986, 93498303250188610, 1403949997416267335878978, 90402078506371394, 90683557778049346, 90965032754760002, 91246507731470658, 91527982708181314, 92372407638313282, 93498307545155906, 1403949997416271630846274, 90402082801338690, 90683527713211730, 90965002689922386, 91246477666633042, 91527952643343698, 92372377573475666, 93498277480318290, 1403949997416241566008658, 90402052736501074, 90683532008179026, 90965006984889682, 91246481961600338, 91527956938310994, 92372381868442962, 93498281775285586, 1403949997416245860975954, 90402057031468370, 90683536303146322, 90965011279856978, 91246486256567634, 91527961233278290, 92372386163410258, 93498286070252882, 1403949997416250155943250, 90402061326435666, 90683540598113618, 90965015574824274, 91246490551534930, 91527965528245586, 92372390458377554, 93498290365220178, 1403949997416254450910546, 90402065621402962, 90683544893080914, 90965019869791570, 91246494846502226, 91527969823212882, 92372394753344850, 93498294660187474, 1403949997416258745877842, 90402069916370258, 90683549188048210, 90965024164758866, 91246499141469522, 91527974118180178, 92372399048312146, 93498298955154770, 1403949997416263040845138, 90402074211337554, 90683553483015506, 90965028459726162, 91246503436436818, 91527978413147474, 92372403343279442, 93498303250122066, 1403949997416267335812434, 90402078506304850, 90683557777982802, 90965032754693458, 91246507731404114, 91527982708114770, 92372407638246738, 93498307545089362, 1403949997416271630779730, 90402082801272146, 90683527713277267, 90965002689987923, 91246477666698579, 91527952643409235, 92372377573541203, 93498277480383827, 1403949997416241566074195, 90402052736566611, 90683532008244563, 90965006984955219, 91246481961665875, 91527956938376531, 92372381868508499, 93498281775351123, 1403949997416245861041491, 90402057031533907, 90683536303211859, 90965011279922515, 91246486256633171, 91527961233343827, 92372386163475795, 93498286070318419, 1403949997416250156008787, 90402061326501203, 90683540598179155, 90965015574889811, 91246490551600467, 91527965528311123, 92372390458443091, 93498290365285715, 1403949997416254450976083, 90402065621468499, 90683544893146451, 90965019869857107, 91246494846567763, 91527969823278419, 92372394753410387, 93498294660253011, 1403949997416258745943379, 90402069916435795, 90683549188113747, 90965024164824403, 91246499141535059, 91527974118245715, 92372399048377683, 93498298955220307, 1403949997416263040910675, 90402074211403091, 90683553483081043, 90965028459791699, 91246503436502355, 91527978413213011, 92372403343344979, 93498303250187603, 1403949997416267335877971, 90402078506370387, 90683557778048339, 90965032754758995, 91246507731469651, 91527982708180307, 92372407638312275, 93498307545154899, 1403949997416271630845267, 90402082801337683]
theorem keyNums_is : (List.range 512).map keyNum = keyNums := by kernel_rfl
def apartB : List Nat → Bool
  | [] => true
  | a :: l => (a == 0 || l.all fun b => !(a == b)) && apartB l
theorem apart_all : apartB keyNums = true := by kernel_rfl
theorem apart_at : ∀ (l : List Nat), apartB l = true → ∀ i j, i < j → j < l.length → l.getD i 0 ≠ 0 → l.getD i 0 ≠ l.getD j 0 := by
  intro l
  induction l with
  | nil => intro _ i j _ hj; exact absurd hj (Nat.not_lt_zero _)
  | cons a l ih =>
    intro h i j hij hj hne
    simp only [apartB, Bool.and_eq_true, Bool.or_eq_true, beq_iff_eq] at h
    obtain ⟨h1, h2⟩ := h
    obtain ⟨j, rfl⟩ : ∃ m, j = m + 1 := ⟨j - 1, by omega⟩
    cases i with
    | zero =>
      simp only [List.getD_cons_zero, List.getD_cons_succ] at hne ⊢
      rcases h1 with h1 | h1
      · exact absurd h1 hne
      · intro e
        have hm : l.getD j 0 ∈ l := by
          rw [List.getD_eq_getElem?_getD, List.getElem?_eq_getElem (by simpa using hj)]
          exact List.getElem_mem _
        have := List.all_eq_true.1 h1 _ hm
        simp [e] at this
    | succ i =>
      simp only [List.getD_cons_succ] at hne ⊢
      exact ih h2 i j (by omega) (by simpa using hj) hne
theorem keyNums_at (i : Nat) (h : i < 512) : keyNums.getD i 0 = keyNum i := by
  rw [← keyNums_is, List.getD_eq_getElem?_getD, List.getElem?_map, List.getElem?_range h]
  rfl
theorem keyNums_length : keyNums.length = 512 := by rw [← keyNums_is]; simp
theorem key_inj {i j : Nat} (hi : i < 512) (hj : j < 512) {t : ByteArray} (h1 : bookKey i = some t) (h2 : bookKey j = some t) : i = j := by
  have e1 : keyNum i = num t.data.toList := by unfold keyNum; rw [h1]
  have e2 : keyNum j = num t.data.toList := by unfold keyNum; rw [h2]
  have hp := num_pos t.data.toList
  rcases Nat.lt_trichotomy i j with h | h | h
  · have := apart_at keyNums apart_all i j h (by rw [keyNums_length]; exact hj) (by rw [keyNums_at i hi]; omega)
    rw [keyNums_at i hi, keyNums_at j hj] at this
    omega
  · exact h
  · have := apart_at keyNums apart_all j i h (by rw [keyNums_length]; exact hi) (by rw [keyNums_at j hj]; omega)
    rw [keyNums_at i hi, keyNums_at j hj] at this
    omega
theorem bookAt_some {n : Nat} {s : ByteArray} {op : Int} (h : bookAt n s = some op) : ∃ i : Nat, i < n ∧ op = i ∧ bookKey i = some s := by
  induction n with
  | zero => cases h
  | succ n ih =>
    unfold bookAt at h
    split at h
    case isTrue e => exact ⟨n, by omega, (Option.some.inj h).symm, e⟩
    case isFalse => obtain ⟨i, h1, h2⟩ := ih h; exact ⟨i, by omega, h2⟩
theorem bookAt_none {n : Nat} {s : ByteArray} (h : bookAt n s = none) (i : Nat) (hi : i < n) : bookKey i ≠ some s := by
  induction n with
  | zero => omega
  | succ n ih =>
    unfold bookAt at h
    split at h
    case isTrue e => cases h
    case isFalse e =>
      by_cases hn : i = n
      · subst hn; exact e
      · exact ih h (by omega)
theorem bookAt_key {i : Nat} (hi : i < 512) {s : ByteArray} (h : bookKey i = some s) : bookAt 512 s = some (i : Int) := by
  cases hb : bookAt 512 s with
  | none => exact absurd h (bookAt_none hb i hi)
  | some op =>
    obtain ⟨j, hj, e, hk⟩ := bookAt_some hb
    rw [e, key_inj hj hi hk h]
/-- Ahead of the first number, its letter (0: there is none), behind it. -/
def splitT : List UInt8 → List UInt8 × Nat × List UInt8
  | [] => ([], 0, [])
  | c :: l => if c = 98 then ([], 98, l) else if c = 119 then ([], 119, l) else ((splitT l).1.cons c, (splitT l).2.1, (splitT l).2.2)
def noTok (l : List UInt8) : Bool := l.all fun c => c != 98 && c != 119
def keyB (op : Nat) : Bool := match bookKey op with
  | none => decide (op < 256) && (nbT op == 1)
  | some t =>
    let s := splitT t.data.toList
    (s.2.1 == 0 || (s.1.all fun c => c != 36) && s.1 != [82, 83, 84, 32] && decide (op < 256) && decide (op ≠ 203) && s.1 != [68, 66, 32]) && noTok s.2.2 && (s.2.2.all fun c => c != 36) && (s.2.2 == [] || s.2.2 == [41] || s.2.2 == [41, 44, 65] || s.2.2 == [41, 44, 83, 80])
    && (s.2.1 != 98 || nbT op == 2) && (s.2.1 != 119 || nbT op == 3) && (s.2.1 != 0 || s.2.2 == [] && (decide (256 ≤ op) || nbT op == 1)) && (decide (op < 256) || nbT op == 2)
    && ((t.data.toList.all fun c => c != 36) || (t.data.toList.takeWhile fun c => c != 36) == [82, 83, 84, 32])
theorem key_all : ((List.range 512).all keyB) = true := by kernel_rfl
end Go.Proofs.YtpjbfpheenamiaaDoor.PF
/- What listing.bare answers, and what hexadecimal digits are; condition: a text of no more than 2^47 bytes. -/

namespace Go.Proofs.YtpjbfpheenamiaaDoor.PF
open Go.RowKit Go.Proofs.YtpjbfpheenamiaaDoorW.PrintWords
set_option linter.unusedVariables false
set_option linter.unusedSimpArgs false
set_option maxRecDepth 100000
theorem extract_list (b : ByteArray) (i j : Nat) : (b.extract i j).data.toList = (b.data.toList.drop i).take (j - i) := by
  rw [ByteArray.data_extract, Array.toList_extract]
theorem size_list (b : ByteArray) : b.size = b.data.toList.length := (Array.length_toList (xs := b.data)).symm
theorem index_no {l : List UInt8} {c : UInt8} (h : c ∉ l) : Lib.indexByte l c = -1 := by
  induction l with
  | nil => rfl
  | cons b l ih =>
    have h1 : ¬ (b == c) = true := fun e => h (by rw [beq_iff_eq.1 e]; simp)
    have h2 := ih (fun e => h (by simp [e]))
    unfold Lib.indexByte
    rw [if_neg h1, h2]
    rfl
theorem index_at {p q : List UInt8} {c : UInt8} (h : c ∉ p) : Lib.indexByte (p ++ c :: q) c = (p.length : Int) := by
  induction p with
  | nil => show (if (c == c) = true then (0 : Int) else _) = _; rw [if_pos (beq_self_eq_true c)]; rfl
  | cons b l ih =>
    have h1 : ¬ (b == c) = true := fun e => h (by rw [beq_iff_eq.1 e]; simp)
    have h2 := ih (fun e => h (by simp [e]))
    rw [List.cons_append]
    unfold Lib.indexByte
    rw [if_neg h1, h2, if_neg (by simp)]
    simp
/-! ### digits -/
theorem digV_all : ((List.range 16).all fun n => decide (digV (hexd n).toNat = (n : Int)) && decide (Lib.upperB (hexd n) = hexd n) && decide ((hexd n).toNat < 128)) = true := by kernel_rfl
theorem digV_hex (n : Nat) (h : n < 16) : digV (hexd n).toNat = (n : Int) ∧ Lib.upperB (hexd n) = hexd n := by
  have := List.all_eq_true.1 digV_all n (List.mem_range.2 h)
  simp only [Bool.and_eq_true, decide_eq_true_eq] at this
  exact this.1
theorem up_all : ((List.range 256).all fun c => decide (digV (c : Int) < 0) || !decide (Lib.upperB (UInt8.ofNat c) = UInt8.ofNat c) || decide (UInt8.ofNat c = hexd (digV (c : Int)).toNat)) = true := by kernel_rfl
theorem up_hex (c : UInt8) (h1 : 0 ≤ digV c.toNat) (h2 : Lib.upperB c = c) : c = hexd (digV c.toNat).toNat := by
  have := List.all_eq_true.1 up_all c.toNat (List.mem_range.2 c.toNat_lt)
  have e : UInt8.ofNat c.toNat = c := UInt8.ofNat_toNat
  rw [e] at this
  simp only [Bool.or_eq_true, decide_eq_true_eq, Bool.not_eq_true', decide_eq_false_iff_not] at this
  rcases this with (h | h) | h
  · omega
  · exact absurd h2 h
  · exact h
theorem readV_neg {l : List UInt8} {acc : Int} (h0 : 0 ≤ acc) (h : readV l acc < 0) : ∃ c ∈ l, digV c.toNat < 0 := by
  induction l generalizing acc with
  | nil => unfold readV at h; omega
  | cons c l ih =>
    unfold readV at h
    by_cases hc : digV c.toNat < 0
    · exact ⟨c, by simp, hc⟩
    · rw [if_neg hc] at h
      obtain ⟨d, hd, hh⟩ := ih (by omega) h
      exact ⟨d, by simp [hd], hh⟩
theorem readV_bad {l : List UInt8} {c : UInt8} (hc : c ∈ l) (h : digV c.toNat < 0) (acc : Int) : readV l acc < 0 := by
  induction l generalizing acc with
  | nil => cases hc
  | cons d l ih =>
    unfold readV
    by_cases hd : digV d.toNat < 0
    · rw [if_pos hd]; omega
    · rw [if_neg hd]
      rcases List.mem_cons.1 hc with e | e
      · subst e; exact absurd h hd
      · exact ih e _
theorem readV_digs {l : List UInt8} {acc : Int} (h0 : 0 ≤ acc) (h : 0 ≤ readV l acc) : ∀ c ∈ l, 0 ≤ digV c.toNat := by
  intro c hc
  by_cases hd : digV c.toNat < 0
  · have := readV_bad hc hd acc
    omega
  · omega
theorem read2 (a b : Nat) (ha : a < 16) (hb : b < 16) : readV [hexd a, hexd b] 0 = (a : Int) * 16 + b := by
  unfold readV
  rw [(digV_hex a ha).1, if_neg (by omega)]
  unfold readV
  rw [(digV_hex b hb).1, if_neg (by omega)]
  unfold readV
  omega
theorem read4 (a b c d : Nat) (ha : a < 16) (hb : b < 16) (hc : c < 16) (hd : d < 16) : readV [hexd a, hexd b, hexd c, hexd d] 0 = (((a : Int) * 16 + b) * 16 + c) * 16 + d := by
  unfold readV
  rw [(digV_hex a ha).1, if_neg (by omega)]
  unfold readV
  rw [(digV_hex b hb).1, if_neg (by omega)]
  unfold readV
  rw [(digV_hex c hc).1, if_neg (by omega)]
  unfold readV
  rw [(digV_hex d hd).1, if_neg (by omega)]
  unfold readV
  omega
theorem upper_hex {l : List UInt8} (h : ∀ c ∈ l, ∃ n, n < 16 ∧ c = hexd n) : Lib.toUpperA l = l := by
  unfold Lib.toUpperA
  conv => rhs; rw [← List.map_id l]
  refine List.map_congr_left fun c hc => ?_
  obtain ⟨n, hn, rfl⟩ := h c hc
  exact (digV_hex n hn).2
theorem hex_of {l : List UInt8} (h1 : 0 ≤ readV l 0) (h2 : Lib.toUpperA l = l) : ∀ c ∈ l, ∃ n, n < 16 ∧ c = hexd n := by
  intro c hc
  have hd := readV_digs (Int.le_refl 0) h1 c hc
  have hu : Lib.upperB c = c := by
    have : ∀ (m : List UInt8), m.map Lib.upperB = m → ∀ c ∈ m, Lib.upperB c = c := by
      intro m
      induction m with
      | nil => intro _ c hc; cases hc
      | cons d m ih =>
        intro h c hc
        simp only [List.map_cons, List.cons.injEq] at h
        rcases List.mem_cons.1 hc with e | e
        · subst e; exact h.1
        · exact ih h.2 c e
    exact this l h2 c hc
  have hlt := digV_lt c.toNat
  exact ⟨(digV c.toNat).toNat, by omega, up_hex c hd hu⟩
/-! ### bare -/
def bareS (q : List UInt8) (d : Nat) : Option Int := if q.length < d then none else if readV (q.take d) 0 < 0 then none else if Lib.toUpperA (q.take d) = q.take d then some (readV (q.take d) 0) else none
theorem bare_no {k : Nat} (hk : 1 ≤ k) (s : ByteArray) (d : Int) (c : ByteArray) (h : (36 : UInt8) ∉ s.data.toList) : listing_bare.f k s d c = some (⟨#[]⟩, 0, false) := by
  obtain ⟨m, rfl⟩ : ∃ m, k = m + 1 := ⟨k - 1, by omega⟩
  unfold listing_bare.f strings_IndexByte.f
  rw [bind_some', show (Int.toNat 36).toUInt8 = (36 : UInt8) from rfl, index_no h, if_pos (by omega), listing_bare.j0, if_pos rfl]
theorem bare_at {k : Nat} (hk : 1 ≤ k) (s : ByteArray) (p q : List UInt8) (d : Nat) (c : UInt8) (hs : s.data.toList = p ++ 36 :: q) (hp : (36 : UInt8) ∉ p) (h1 : 1 ≤ d) (h4 : d ≤ 4) (hz : s.size ≤ 140737488351232) :
    listing_bare.f k s d ⟨#[c]⟩ = match bareS q d with
      | some v => some (⟨(p ++ c :: q.drop d).toArray⟩, v, true)
      | none => some (⟨#[]⟩, 0, false) := by
  obtain ⟨m, rfl⟩ : ∃ m, k = m + 1 := ⟨k - 1, by omega⟩
  have hlen : s.size = p.length + (q.length + 1) := by rw [size_list, hs]; simp
  unfold listing_bare.f strings_IndexByte.f
  rw [bind_some', show (Int.toNat 36).toUInt8 = (36 : UInt8) from rfl, hs, index_at hp, if_neg (by omega), wrap64_id (x := (p.length : Int) + 1) (by omega) (by omega), wrap64_id (x := (p.length : Int) + 1 + d) (by omega) (by omega), listing_bare.j0]
  rw [wrap64_id (x := (p.length : Int) + 1) (by omega) (by omega), wrap64_id (x := (p.length : Int) + 1 + d) (by omega) (by omega)]
  unfold bareS
  by_cases hq : q.length < d
  · rw [if_pos hq, if_pos (by simp only [decide_eq_true_eq]; omega)]
  · rw [if_neg hq, if_neg (by simp only [decide_eq_true_eq]; omega), if_pos (by omega), if_pos (by omega), if_pos (by omega)]
    have hn : (s.extract ((p.length : Int) + 1).toNat ((p.length : Int) + 1 + d).toNat).data.toList = q.take d := by
      rw [extract_list, hs, show ((p.length : Int) + 1).toNat = p.length + 1 by omega, show ((p.length : Int) + 1 + d).toNat - (p.length + 1) = d by omega, ← List.drop_drop, List.drop_left]
      rfl
    have hsz : (s.extract ((p.length : Int) + 1).toNat ((p.length : Int) + 1 + d).toNat).size = d := by rw [size_list, hn, List.length_take]; omega
    generalize hnn : s.extract ((p.length : Int) + 1).toNat ((p.length : Int) + 1 + d).toNat = n at hn hsz ⊢
    unfold word_Read.f
    rw [if_neg (by omega), if_neg (by omega), if_neg (by rw [hsz]; simp), hn]
    by_cases hr : readV (q.take d) 0 < 0
    · rw [if_pos hr, if_pos hr, bind_some', if_neg (by decide)]
    · rw [if_neg hr, if_neg hr, bind_some']
      dsimp only
      rw [if_pos rfl]
      have hdg := readV_digs (Int.le_refl 0) (Int.not_lt.1 hr)
      unfold strings_ToUpper.f
      rw [if_pos ⟨by omega, by
        rw [hn]
        refine List.all_eq_true.2 fun b hb => decide_eq_true ?_
        have h := hdg b hb
        by_cases hb8 : b.toNat < 128
        · exact hb8
        · rw [digV_hi (by omega)] at h; omega⟩, bind_some', ByteArray.toList_eq, ByteArray.toList_eq, hn]
      by_cases hu : Lib.toUpperA (q.take d) = q.take d
      · rw [if_pos hu, if_pos hu, if_pos (by omega), if_pos (by omega), if_pos (by omega)]
        unfold listing_join.f
        have e1 : (s.extract 0 (p.length : Int).toNat).data.toList = p := by rw [extract_list, hs]; simp
        have e2 : (s.extract ((p.length : Int) + 1 + d).toNat s.size).data.toList = q.drop d := by
          rw [extract_list, hs, show ((p.length : Int) + 1 + d).toNat = p.length + (d + 1) by omega, ← List.drop_drop, List.drop_left, List.drop_succ_cons, List.take_of_length_le (by simp; omega)]
        have e3 : ([s.extract 0 (p.length : Int).toNat, (⟨#[c]⟩ : ByteArray), s.extract ((p.length : Int) + 1 + d).toNat s.size].map fun x => x.data.toList).flatten = p ++ c :: q.drop d := by
          simp only [List.map_cons, List.map_nil, List.flatten_cons, List.flatten_nil, e1, e2]
          simp
        rw [e3, if_pos ⟨by simp; omega, by simp⟩, bind_some']
      · rw [if_neg hu, if_neg hu]
end Go.Proofs.YtpjbfpheenamiaaDoor.PF
/- listing.Assemble, in plain words: each line gives its bytes; what is no line is refused; condition: a text of no more than 2^47 bytes. -/
namespace Go.Proofs.YtpjbfpheenamiaaDoor.PF
open Go.RowKit Go.Proofs.YtpjbfpheenamiaaDoorW.PrintWords
set_option linter.unusedVariables false
set_option linter.unusedSimpArgs false
set_option maxRecDepth 100000
theorem uniq_split {c : UInt8} {p q r s : List UInt8} (h : p ++ c :: q = r ++ c :: s) (hr : c ∉ r) (hs : c ∉ s) : p = r ∧ q = s := by
  induction r generalizing p with
  | nil =>
    cases p with
    | nil => exact ⟨rfl, (List.cons.inj h).2⟩
    | cons b p =>
      have h2 := (List.cons.inj h).2
      exact absurd (h2 ▸ (by simp : c ∈ p ++ c :: q)) hs
  | cons a r ih =>
    cases p with
    | nil => exact absurd ((List.cons.inj h).1 ▸ (by simp : a ∈ a :: r)) hr
    | cons b p =>
      obtain ⟨e1, e2⟩ := List.cons.inj h
      obtain ⟨e3, e4⟩ := ih e2 (fun e => hr (by simp [e]))
      exact ⟨by rw [e1, e3], e4⟩
theorem first_split {c : UInt8} {l : List UInt8} (h : c ∈ l) : ∃ p q, l = p ++ c :: q ∧ c ∉ p := by
  induction l with
  | nil => cases h
  | cons a l ih =>
    by_cases e : a = c
    · subst e; exact ⟨[], l, rfl, by simp⟩
    · obtain ⟨p, q, h1, h2⟩ := ih (by rcases List.mem_cons.1 h with h | h; exact absurd h.symm e; exact h)
      exact ⟨a :: p, q, by rw [h1]; rfl, fun hm => by rcases List.mem_cons.1 hm with h | h; exact e h.symm; exact h2 h⟩
theorem noTok_not {l : List UInt8} (h : noTok l = true) : (98 : UInt8) ∉ l ∧ (119 : UInt8) ∉ l := by
  unfold noTok at h
  rw [List.all_eq_true] at h
  constructor
  · intro hm; have := h _ hm; simp at this
  · intro hm; have := h _ hm; simp at this
theorem putTok_app (h1 h2 h3 h4 : UInt8) (a b : List UInt8) : putTok h1 h2 h3 h4 (a ++ b) = putTok h1 h2 h3 h4 a ++ putTok h1 h2 h3 h4 b := by
  induction a with
  | nil => rfl
  | cons c a ih => simp only [List.cons_append, putTok, ih, List.append_assoc]
theorem putTok_no (h1 h2 h3 h4 : UInt8) {l : List UInt8} (h : noTok l = true) : putTok h1 h2 h3 h4 l = l := by
  induction l with
  | nil => rfl
  | cons c l ih =>
    unfold noTok at h
    simp only [List.all_cons, Bool.and_eq_true, bne_iff_ne, ne_eq] at h
    obtain ⟨⟨n1, n2⟩, h3⟩ := h
    have m1 : c.toNat ≠ 98 := fun e => n1 (UInt8.toNat_inj.1 e)
    have m2 : c.toNat ≠ 119 := fun e => n2 (UInt8.toNat_inj.1 e)
    have hh : noTok l = true := by unfold noTok; simpa using h3
    unfold putTok
    rw [ih hh]
    split
    · exact absurd ‹_› m1
    · exact absurd ‹_› m2
    · rfl
theorem splitT_spec (l : List UInt8) : noTok (splitT l).1 = true ∧ (((splitT l).2.1 = 0 ∧ l = (splitT l).1 ∧ (splitT l).2.2 = []) ∨ ((splitT l).2.1 = 98 ∧ l = (splitT l).1 ++ 98 :: (splitT l).2.2) ∨ ((splitT l).2.1 = 119 ∧ l = (splitT l).1 ++ 119 :: (splitT l).2.2)) := by
  induction l with
  | nil => exact ⟨rfl, .inl ⟨rfl, rfl, rfl⟩⟩
  | cons c l ih =>
    unfold splitT
    by_cases h1 : c = 98
    · rw [if_pos h1]; exact ⟨rfl, .inr (.inl ⟨rfl, by rw [h1]; rfl⟩)⟩
    · rw [if_neg h1]
      by_cases h2 : c = 119
      · rw [if_pos h2]; exact ⟨rfl, .inr (.inr ⟨rfl, by rw [h2]; rfl⟩)⟩
      · rw [if_neg h2]
        obtain ⟨i1, i2⟩ := ih
        refine ⟨?_, ?_⟩
        · show noTok (c :: (splitT l).1) = true
          unfold noTok at i1 ⊢
          rw [List.all_cons, i1, Bool.and_true]
          simp [h1, h2]
        · rcases i2 with ⟨a, b, d⟩ | ⟨a, b⟩ | ⟨a, b⟩
          · exact .inl ⟨a, congrArg (List.cons c) b, d⟩
          · exact .inr (.inl ⟨a, congrArg (List.cons c) b⟩)
          · exact .inr (.inr ⟨a, congrArg (List.cons c) b⟩)
/-- A key with no number; with a byte; with a word. -/
inductive KeyIs (op : Nat) (t : List UInt8) : Prop
  | plain (h : noTok t = true) (hb : 256 ≤ op ∧ nbT op = 2 ∨ op < 256 ∧ nbT op = 1) (hd : (36 : UInt8) ∉ t ∨ (t.takeWhile fun c => c != 36) = [82, 83, 84, 32])
  | byte (pre post : List UInt8) (e : t = pre ++ 98 :: post) (h1 : noTok pre = true) (h2 : noTok post = true) (h3 : (36 : UInt8) ∉ pre) (h4 : (36 : UInt8) ∉ post) (h5 : pre ≠ [82, 83, 84, 32]) (h6 : pre ≠ [68, 66, 32]) (h7 : post = [] ∨ ∃ r, post = 41 :: r) (hb : op < 256 ∧ nbT op = 2 ∧ op ≠ 203)
  | word (pre post : List UInt8) (e : t = pre ++ 119 :: post) (h1 : noTok pre = true) (h2 : noTok post = true) (h3 : (36 : UInt8) ∉ pre) (h4 : (36 : UInt8) ∉ post) (h5 : pre ≠ [82, 83, 84, 32]) (h6 : pre ≠ [68, 66, 32]) (h7 : post = [] ∨ ∃ r, post = 41 :: r) (hb : op < 256 ∧ nbT op = 3 ∧ op ≠ 203)
theorem all_ne {l : List UInt8} (h : (l.all fun c => c != 36) = true) : (36 : UInt8) ∉ l := by
  intro hm
  have := List.all_eq_true.1 h _ hm
  simp at this
theorem key_is {op : Nat} (h : op < 512) {t : ByteArray} (hk : bookKey op = some t) : KeyIs op t.data.toList := by
  have hb := List.all_eq_true.1 key_all op (List.mem_range.2 h)
  unfold keyB at hb
  rw [hk] at hb
  simp only [Bool.and_eq_true, Bool.or_eq_true, beq_iff_eq, bne_iff_ne, ne_eq, decide_eq_true_eq] at hb
  obtain ⟨⟨⟨⟨⟨⟨⟨⟨b1, b2⟩, b3⟩, b4⟩, b5⟩, b6⟩, b7⟩, b8⟩, b9⟩ := hb
  obtain ⟨s1, s2⟩ := splitT_spec t.data.toList
  have b4' : (splitT t.data.toList).2.2 = [] ∨ ∃ r, (splitT t.data.toList).2.2 = 41 :: r := by
    rcases b4 with ((e | e) | e) | e
    · exact .inl e
    · exact .inr ⟨_, e⟩
    · exact .inr ⟨_, e⟩
    · exact .inr ⟨_, e⟩
  rcases s2 with ⟨e0, e1, e2⟩ | ⟨e0, e1⟩ | ⟨e0, e1⟩
  · refine .plain (by rw [e1]; exact s1) ?_ ?_
    · rcases b7 with b7 | ⟨_, b7⟩
      · exact absurd e0 b7
      · rcases b7 with b7 | b7
        · rcases b8 with b8 | b8
          · omega
          · exact .inl ⟨b7, b8⟩
        · rcases b8 with b8 | b8
          · exact .inr ⟨b8, b7⟩
          · omega
    · rcases b9 with b9 | b9
      · refine .inl fun hm => ?_
        have := List.all_eq_true.1 b9 _ hm
        simp at this
      · exact .inr b9
  · rcases b1 with b1 | ⟨⟨⟨⟨b10, b11⟩, b12⟩, b13⟩, b14⟩
    · omega
    · refine .byte _ _ e1 s1 b2 (all_ne b10) (all_ne b3) b11 b14 b4' ⟨b12, ?_, b13⟩
      rcases b5 with b5 | b5
      · exact absurd e0 b5
      · exact b5
  · rcases b1 with b1 | ⟨⟨⟨⟨b10, b11⟩, b12⟩, b13⟩, b14⟩
    · omega
    · refine .word _ _ e1 s1 b2 (all_ne b10) (all_ne b3) b11 b14 b4' ⟨b12, ?_, b13⟩
      rcases b6 with b6 | b6
      · exact absurd e0 b6
      · exact b6
theorem line_plain {op : Nat} {t : ByteArray} (hk : bookKey op = some t) (h : noTok t.data.toList = true) (lo hi : Nat) : lineL op lo hi = t.data.toList := by
  unfold lineL lineT; rw [hk]; exact putTok_no _ _ _ _ h
theorem line_byte {op : Nat} {t : ByteArray} (hk : bookKey op = some t) {pre post : List UInt8} (e : t.data.toList = pre ++ 98 :: post) (h1 : noTok pre = true) (h2 : noTok post = true) (lo hi : Nat) : lineL op lo hi = pre ++ 36 :: hexd (lo / 16) :: hexd (lo % 16) :: post := by
  unfold lineL lineT
  rw [hk]
  show putTok _ _ _ _ t.data.toList = _
  rw [e, putTok_app, putTok_no _ _ _ _ h1]
  show pre ++ ([36, hexd (lo / 16), hexd (lo % 16)] ++ putTok _ _ _ _ post) = _
  rw [putTok_no _ _ _ _ h2]
  rfl
theorem line_word {op : Nat} {t : ByteArray} (hk : bookKey op = some t) {pre post : List UInt8} (e : t.data.toList = pre ++ 119 :: post) (h1 : noTok pre = true) (h2 : noTok post = true) (lo hi : Nat) : lineL op lo hi = pre ++ 36 :: hexd (hi / 16) :: hexd (hi % 16) :: hexd (lo / 16) :: hexd (lo % 16) :: post := by
  unfold lineL lineT
  rw [hk]
  show putTok _ _ _ _ t.data.toList = _
  rw [e, putTok_app, putTok_no _ _ _ _ h1]
  show pre ++ ([36, hexd (hi / 16), hexd (hi % 16), hexd (lo / 16), hexd (lo % 16)] ++ putTok _ _ _ _ post) = _
  rw [putTok_no _ _ _ _ h2]
  rfl
/-- The bytes of an instruction. -/
def bytesL (op lo hi : Nat) : List Int := if 256 ≤ op then [203, (op : Int) - 256] else if nbT op = 1 then [(op : Int)] else if nbT op = 2 then [(op : Int), (lo : Int)] else [(op : Int), (lo : Int), (hi : Int)]
theorem takeWhile_first {p q : List UInt8} (h : (36 : UInt8) ∉ p) : ((p ++ 36 :: q).takeWhile fun c => c != 36) = p := by
  induction p with
  | nil => rfl
  | cons a p ih =>
    have ha : a ≠ 36 := fun e => h (by simp [e])
    rw [List.cons_append, List.takeWhile_cons, if_pos (by simp [ha]), ih fun e => h (by simp [e])]
theorem book_no {s : ByteArray} {p q : List UInt8} (hs : s.data.toList = p ++ 36 :: q) (hp : (36 : UInt8) ∉ p) (hn : p ≠ [82, 83, 84, 32]) : bookAt 512 s = none := by
  cases hb : bookAt 512 s with
  | none => rfl
  | some op =>
    obtain ⟨i, hi, _, hk⟩ := bookAt_some hb
    have hm : (36 : UInt8) ∈ s.data.toList := by rw [hs]; simp
    cases key_is hi hk with
    | plain h hb hd =>
      rcases hd with hd | hd
      · exact absurd hm hd
      · rw [hs, takeWhile_first hp] at hd; exact absurd hd hn
    | byte pre post e h1 h2 h3 h4 _ _ _ _ => rw [e] at hm; simp at hm; rcases hm with hm | hm; exact absurd hm h3; exact absurd hm h4
    | word pre post e h1 h2 h3 h4 _ _ _ _ => rw [e] at hm; simp at hm; rcases hm with hm | hm; exact absurd hm h3; exact absurd hm h4
theorem nb_form {op : Nat} (h : op < 512) {t : ByteArray} (hk : bookKey op = some t) : ∃ f : Int × Int × Int × Int × Int × Int, listing_form.f 9 ((op : Int) % 256) (decide (255 < (op : Int))) = some f ∧ (op < 256 → f.2.2.2.1 = ((nbT op : Nat) : Int)) := by
  obtain ⟨f0, f1, f2, f3, f4, f5, hf, _⟩ := bookOk op h
  refine ⟨_, hf, fun ho => ?_⟩
  obtain ⟨g0, g1, g2, g3, g4, g5, hg, _, _, _, _, hn⟩ := formTab op ho
  have e : bookForm op = some (f0, f1, f2, f3, f4, f5) := hf
  rw [hg] at e
  injection e with e
  simp only [Prod.mk.injEq] at e
  rw [hn]
  exact e.2.2.2.1.symm
theorem arr_list (l : List UInt8) : (⟨l.toArray⟩ : ByteArray).data.toList = l := rfl
theorem asm_line {op : Nat} (h : op < 512) {t : ByteArray} (hk : bookKey op = some t) (lo hi : Nat) (hlo : lo < 256) (hhi : hi < 256) : listing_Assemble.f ⟨(lineL op lo hi).toArray⟩ = some (bytesL op lo hi, 0) := by
  have htz : t.size ≤ 100 := by
    obtain ⟨f0, f1, f2, f3, f4, f5, _, hc⟩ := bookOk op h
    rcases hc with ⟨_, hn⟩ | ⟨_, t', hz, _, ht⟩
    · rw [hk] at hn; cases hn
    · rw [hk] at ht; cases ht; exact hz
  obtain ⟨f, hf, hn⟩ := nb_form h hk
  unfold listing_Assemble.f
  cases key_is h hk with
  | plain h1 hb hd =>
    rw [line_plain hk h1]
    have e : (⟨t.data.toList.toArray⟩ : ByteArray) = t := toList_inj (arr_list _)
    rw [e, if_pos (by omega), bookAt_key h hk]
    dsimp only
    rw [hf, bind_some']
    unfold bytesL
    rcases hb with ⟨b1, b2⟩ | ⟨b1, b2⟩
    · rw [if_pos (by omega), if_pos b1]
      congr 4
      omega
    · rw [if_neg (by omega), if_pos (by rw [hn b1, b2]; rfl), if_neg (by omega), if_pos b2]
  | byte pre post e h1 h2 h3 h4 h5 h6 h7 hb =>
    rw [line_byte hk e h1 h2]
    obtain ⟨b1, b2, b3⟩ := hb
    have hl : t.size = pre.length + (post.length + 1) := by rw [size_list, e]; simp
    have hz : (⟨(pre ++ 36 :: hexd (lo / 16) :: hexd (lo % 16) :: post).toArray⟩ : ByteArray).size ≤ 200 := by rw [size_list, arr_list]; simp; omega
    have hr : readV [hexd (lo / 16), hexd (lo % 16)] 0 = (lo : Int) := by rw [read2 _ _ (by omega) (by omega)]; omega
    have hs4 : bareS (hexd (lo / 16) :: hexd (lo % 16) :: post) 4 = none := by
      unfold bareS
      rcases h7 with rfl | ⟨r, rfl⟩
      · rw [if_pos (by simp)]
      · by_cases hq : (hexd (lo / 16) :: hexd (lo % 16) :: 41 :: r).length < 4
        · rw [if_pos hq]
        · rw [if_neg hq, if_pos (readV_bad (c := 41) (by simp) (by decide) 0)]
    have hs2 : bareS (hexd (lo / 16) :: hexd (lo % 16) :: post) 2 = some (lo : Int) := by
      unfold bareS
      rw [if_neg (by simp), show (hexd (lo / 16) :: hexd (lo % 16) :: post).take 2 = [hexd (lo / 16), hexd (lo % 16)] from rfl, if_neg (by rw [hr]; omega), if_pos (upper_hex (by
        intro c hc
        simp at hc
        rcases hc with rfl | rfl
        · exact ⟨_, by omega, rfl⟩
        · exact ⟨_, by omega, rfl⟩)), hr]
    rw [if_pos (by omega), book_no (arr_list _) h3 h5]
    dsimp only
    rw [show (4 : Int) = ((4 : Nat) : Int) from rfl, bare_at (by omega) _ pre _ 4 119 (arr_list _) h3 (by omega) (by omega) (by omega), hs4]
    dsimp only
    rw [bind_some']
    unfold asmLow
    rw [if_neg (by decide), bind_some']
    dsimp only
    rw [show (2 : Int) = ((2 : Nat) : Int) from rfl, bare_at (by omega) _ pre _ 2 98 (arr_list _) h3 (by omega) (by omega) (by omega), hs2]
    dsimp only
    have e2 : (⟨(pre ++ 98 :: (hexd (lo / 16) :: hexd (lo % 16) :: post).drop 2).toArray⟩ : ByteArray) = t := toList_inj (by rw [arr_list, e]; rfl)
    rw [bind_some', if_pos rfl, e2, if_neg (by
      rw [ByteArray.toList_eq, e]
      intro e3
      exact h6 (uniq_split (p := pre) (r := [68, 66, 32]) (s := []) e3 (by decide) (by simp)).1), if_pos rfl, if_pos (by show t.size ≤ _; omega), bookAt_key h hk]
    dsimp only
    rw [if_pos (by omega), bind_some']
    unfold bytesL
    rw [if_neg (by omega), if_neg (by omega), if_pos b2]
    dsimp only
    congr 3
    · omega
    · congr 1; omega
  | word pre post e h1 h2 h3 h4 h5 h6 h7 hb =>
    rw [line_word hk e h1 h2]
    obtain ⟨b1, b2, b3⟩ := hb
    have hl : t.size = pre.length + (post.length + 1) := by rw [size_list, e]; simp
    have hz : (⟨(pre ++ 36 :: hexd (hi / 16) :: hexd (hi % 16) :: hexd (lo / 16) :: hexd (lo % 16) :: post).toArray⟩ : ByteArray).size ≤ 200 := by rw [size_list, arr_list]; simp; omega
    have hr : readV [hexd (hi / 16), hexd (hi % 16), hexd (lo / 16), hexd (lo % 16)] 0 = (hi : Int) * 256 + lo := by rw [read4 _ _ _ _ (by omega) (by omega) (by omega) (by omega)]; omega
    have hs4 : bareS (hexd (hi / 16) :: hexd (hi % 16) :: hexd (lo / 16) :: hexd (lo % 16) :: post) 4 = some ((hi : Int) * 256 + lo) := by
      unfold bareS
      rw [if_neg (by simp), show (hexd (hi / 16) :: hexd (hi % 16) :: hexd (lo / 16) :: hexd (lo % 16) :: post).take 4 = [hexd (hi / 16), hexd (hi % 16), hexd (lo / 16), hexd (lo % 16)] from rfl, if_neg (by rw [hr]; omega), if_pos (upper_hex (by
        intro c hc
        simp at hc
        rcases hc with rfl | rfl | rfl | rfl
        · exact ⟨_, by omega, rfl⟩
        · exact ⟨_, by omega, rfl⟩
        · exact ⟨_, by omega, rfl⟩
        · exact ⟨_, by omega, rfl⟩)), hr]
    rw [if_pos (by omega), book_no (arr_list _) h3 h5]
    dsimp only
    rw [show (4 : Int) = ((4 : Nat) : Int) from rfl, bare_at (by omega) _ pre _ 4 119 (arr_list _) h3 (by omega) (by omega) (by omega), hs4]
    dsimp only
    have e2 : (⟨(pre ++ 119 :: (hexd (hi / 16) :: hexd (hi % 16) :: hexd (lo / 16) :: hexd (lo % 16) :: post).drop 4).toArray⟩ : ByteArray) = t := toList_inj (by rw [arr_list, e]; rfl)
    rw [bind_some', e2]
    unfold asmLow
    rw [if_pos rfl, if_pos (by show t.size ≤ _; omega), bookAt_key h hk]
    dsimp only
    rw [if_pos (by omega), bind_some']
    unfold bytesL
    rw [if_neg (by omega), if_neg (by omega), if_neg (by omega)]
    dsimp only
    congr 3
    · omega
    · congr 1
      · omega
      · congr 1; omega
end Go.Proofs.YtpjbfpheenamiaaDoor.PF
/- listing.Assemble, in plain words: a byte's own line; and what it answers is that of a line, or a refusal; condition: a text of no more than 2^47 bytes. -/
namespace Go.Proofs.YtpjbfpheenamiaaDoor.PF
open Go.RowKit Go.Proofs.YtpjbfpheenamiaaDoorW.PrintWords
set_option linter.unusedVariables false
set_option linter.unusedSimpArgs false
set_option maxRecDepth 100000
theorem cat42 (a b : UInt8) : ((⟨#[68, 66, 32, 36]⟩ : ByteArray) ++ ⟨#[a, b]⟩) = ⟨#[68, 66, 32, 36, a, b]⟩ := rfl
theorem dbB_list (x : Nat) : (dbB x).data.toList = [68, 66, 32] ++ 36 :: [hexd (x / 16), hexd (x % 16)] := by
  unfold dbB hexB
  rw [cat42]
  rfl
theorem hexs2 {a b : Nat} (ha : a < 16) (hb : b < 16) : Lib.toUpperA [hexd a, hexd b] = [hexd a, hexd b] := upper_hex (by
  intro c hc
  simp at hc
  rcases hc with rfl | rfl
  · exact ⟨_, ha, rfl⟩
  · exact ⟨_, hb, rfl⟩)
theorem bare2_hex {a b : Nat} (ha : a < 16) (hb : b < 16) (r : List UInt8) : bareS (hexd a :: hexd b :: r) 2 = some ((a : Int) * 16 + b) := by
  unfold bareS
  rw [if_neg (by simp), show (hexd a :: hexd b :: r).take 2 = [hexd a, hexd b] from rfl, read2 a b ha hb, if_neg (by omega), if_pos (hexs2 ha hb)]
theorem asm_db (x : Nat) (h : x < 256) : listing_Assemble.f (dbB x) = some ([(x : Int)], 0) := by
  have hp : (36 : UInt8) ∉ ([68, 66, 32] : List UInt8) := by decide
  have hz : (dbB x).size = 6 := by rw [size_list, dbB_list]; rfl
  have hs4 : bareS [hexd (x / 16), hexd (x % 16)] 4 = none := by unfold bareS; rw [if_pos (by simp)]
  have hs2 : bareS [hexd (x / 16), hexd (x % 16)] 2 = some (x : Int) := by
    rw [bare2_hex (by omega) (by omega)]
    congr 1
    omega
  unfold listing_Assemble.f
  rw [if_pos (by omega), book_no (dbB_list x) hp (by decide)]
  dsimp only
  rw [show (4 : Int) = ((4 : Nat) : Int) from rfl, bare_at (by omega) _ [68, 66, 32] _ 4 119 (dbB_list x) hp (by omega) (by omega) (by omega), hs4]
  dsimp only
  rw [bind_some']
  unfold asmLow
  rw [if_neg (by decide), bind_some']
  dsimp only
  rw [show (2 : Int) = ((2 : Nat) : Int) from rfl, bare_at (by omega) _ [68, 66, 32] _ 2 98 (dbB_list x) hp (by omega) (by omega) (by omega), hs2]
  dsimp only
  rw [bind_some', if_pos rfl, if_pos (by rw [ByteArray.toList_eq]; rfl)]
  dsimp only
  congr 3
  omega
/-- A text is a line: of an opcode with its numbers, or a byte's own. -/
def IsLine (s : ByteArray) : Prop := (∃ (op lo hi : Nat) (t : ByteArray), op < 512 ∧ bookKey op = some t ∧ lo < 256 ∧ hi < 256 ∧ s = ⟨(lineL op lo hi).toArray⟩) ∨ ∃ x : Nat, x < 256 ∧ s = dbB x
theorem not_mem_of_noTok {pre post : List UInt8} {c d : UInt8} (h1 : d ∉ pre) (h2 : d ∉ post) (h3 : d ≠ c) : d ∉ pre ++ c :: post := by
  simp only [List.mem_append, List.mem_cons, not_or]
  exact ⟨h1, h3, h2⟩
/-- A found text with 'w' where the first number stood: the line of a word. -/
theorem word_line {s t : ByteArray} {p q : List UInt8} (hs : s.data.toList = p ++ 36 :: q) (ht : t.data.toList = p ++ 119 :: q.drop 4) {v : Int} (hv : bareS q 4 = some v) {i : Nat} (hi : i < 512) (hk : bookKey i = some t) : IsLine s := by
  unfold bareS at hv
  by_cases h1 : q.length < 4
  · rw [if_pos h1] at hv; cases hv
  rw [if_neg h1] at hv
  by_cases h2 : readV (q.take 4) 0 < 0
  · rw [if_pos h2] at hv; cases hv
  rw [if_neg h2] at hv
  by_cases h3 : Lib.toUpperA (q.take 4) = q.take 4
  case neg => rw [if_neg h3] at hv; cases hv
  have hx := hex_of (Int.not_lt.1 h2) h3
  obtain ⟨a, b, c, d, r, rfl⟩ : ∃ a b c d r, q = a :: b :: c :: d :: r := by
    rcases q with _ | ⟨a, _ | ⟨b, _ | ⟨c, _ | ⟨d, r⟩⟩⟩⟩
    · simp at h1
    · simp at h1
    · simp at h1
    · simp at h1
    · exact ⟨_, _, _, _, _, rfl⟩
  obtain ⟨a', ha, rfl⟩ := hx a (by simp)
  obtain ⟨b', hb, rfl⟩ := hx b (by simp)
  obtain ⟨c', hc, rfl⟩ := hx c (by simp)
  obtain ⟨d', hd, rfl⟩ := hx d (by simp)
  have ht' : t.data.toList = p ++ 119 :: r := ht
  have hm : (119 : UInt8) ∈ t.data.toList := by rw [ht']; simp
  cases key_is hi hk with
  | plain h _ _ => exact absurd hm (noTok_not h).2
  | byte pre post e n1 n2 _ _ _ _ _ _ => rw [e] at hm; exact absurd hm (not_mem_of_noTok (noTok_not n1).2 (noTok_not n2).2 (by decide))
  | word pre post e n1 n2 _ _ _ _ _ _ =>
    rw [e] at ht'
    obtain ⟨e1, e2⟩ := uniq_split ht'.symm (noTok_not n1).2 (noTok_not n2).2
    refine .inl ⟨i, c' * 16 + d', a' * 16 + b', t, hi, hk, by omega, by omega, toList_inj ?_⟩
    rw [hs, arr_list, line_word hk e n1 n2, e1, e2, show (a' * 16 + b') / 16 = a' by omega, show (a' * 16 + b') % 16 = b' by omega, show (c' * 16 + d') / 16 = c' by omega, show (c' * 16 + d') % 16 = d' by omega]
theorem two_of_bare {q : List UInt8} {v : Int} (hv : bareS q 2 = some v) : ∃ a b r, a < 16 ∧ b < 16 ∧ q = hexd a :: hexd b :: r := by
  unfold bareS at hv
  by_cases h1 : q.length < 2
  · rw [if_pos h1] at hv; cases hv
  rw [if_neg h1] at hv
  by_cases h2 : readV (q.take 2) 0 < 0
  · rw [if_pos h2] at hv; cases hv
  rw [if_neg h2] at hv
  by_cases h3 : Lib.toUpperA (q.take 2) = q.take 2
  case neg => rw [if_neg h3] at hv; cases hv
  have hx := hex_of (Int.not_lt.1 h2) h3
  rcases q with _ | ⟨a, _ | ⟨b, r⟩⟩
  · simp at h1
  · simp at h1
  · obtain ⟨a', ha, rfl⟩ := hx a (by simp)
    obtain ⟨b', hb, rfl⟩ := hx b (by simp)
    exact ⟨a', b', r, ha, hb, rfl⟩
theorem byte_line {s t : ByteArray} {p q : List UInt8} (hs : s.data.toList = p ++ 36 :: q) (ht : t.data.toList = p ++ 98 :: q.drop 2) {v : Int} (hv : bareS q 2 = some v) {i : Nat} (hi : i < 512) (hk : bookKey i = some t) : IsLine s := by
  obtain ⟨a', b', r, ha, hb, rfl⟩ := two_of_bare hv
  have ht' : t.data.toList = p ++ 98 :: r := ht
  have hm : (98 : UInt8) ∈ t.data.toList := by rw [ht']; simp
  cases key_is hi hk with
  | plain h _ _ => exact absurd hm (noTok_not h).1
  | word pre post e n1 n2 _ _ _ _ _ _ => rw [e] at hm; exact absurd hm (not_mem_of_noTok (noTok_not n1).1 (noTok_not n2).1 (by decide))
  | byte pre post e n1 n2 _ _ _ _ _ _ =>
    rw [e] at ht'
    obtain ⟨e1, e2⟩ := uniq_split ht'.symm (noTok_not n1).1 (noTok_not n2).1
    refine .inl ⟨i, a' * 16 + b', 0, t, hi, hk, by omega, by omega, toList_inj ?_⟩
    rw [hs, arr_list, line_byte hk e n1 n2, e1, e2, show (a' * 16 + b') / 16 = a' by omega, show (a' * 16 + b') % 16 = b' by omega]
theorem db_line {s : ByteArray} {p q : List UInt8} (hs : s.data.toList = p ++ 36 :: q) (ht : p ++ 98 :: q.drop 2 = [68, 66, 32, 98]) {v : Int} (hv : bareS q 2 = some v) : IsLine s := by
  obtain ⟨a', b', r, ha, hb, rfl⟩ := two_of_bare hv
  have ht' : p ++ 98 :: r = [68, 66, 32] ++ 98 :: [] := ht
  obtain ⟨e1, e2⟩ := uniq_split ht' (by decide) (by decide)
  refine .inr ⟨a' * 16 + b', by omega, toList_inj ?_⟩
  rw [hs, dbB_list, e1, e2, show (a' * 16 + b') / 16 = a' by omega, show (a' * 16 + b') % 16 = b' by omega]
/-- Each text gets an answer; what is no line is refused. -/
theorem asm_cases (s : ByteArray) (hz : s.size ≤ 140737488351232) : ∃ r, listing_Assemble.f s = some r ∧ (r = ([], 6) ∨ IsLine s) := by
  unfold listing_Assemble.f
  rw [if_pos (by omega)]
  cases h0 : bookAt 512 s with
  | some op =>
    obtain ⟨i, hi, rfl, hk⟩ := bookAt_some h0
    obtain ⟨f, hf, hn⟩ := nb_form hi hk
    dsimp only
    rw [hf, bind_some']
    cases key_is hi hk with
    | plain h1 hb hd =>
      have hl : IsLine s := .inl ⟨i, 0, 0, s, hi, hk, by omega, by omega, toList_inj (by rw [arr_list, line_plain hk h1])⟩
      split
      · exact ⟨_, rfl, .inr hl⟩
      · split
        · exact ⟨_, rfl, .inr hl⟩
        · exact ⟨_, rfl, .inl rfl⟩
    | byte pre post e n1 n2 _ _ _ _ _ hb => rw [if_neg (by omega), if_neg (by rw [hn hb.1, hb.2.1]; decide)]; exact ⟨_, rfl, .inl rfl⟩
    | word pre post e n1 n2 _ _ _ _ _ hb => rw [if_neg (by omega), if_neg (by rw [hn hb.1, hb.2.1]; decide)]; exact ⟨_, rfl, .inl rfl⟩
  | none =>
    dsimp only
    by_cases hm : (36 : UInt8) ∈ s.data.toList
    case neg =>
      rw [bare_no (by omega) s _ _ hm, bind_some']
      dsimp only
      unfold asmLow
      rw [if_neg (by decide), bind_some']
      dsimp only
      rw [bare_no (by omega) s _ _ hm, bind_some', if_neg (by decide)]
      exact ⟨_, rfl, .inl rfl⟩
    obtain ⟨p, q, hs, hp⟩ := first_split hm
    have hlen : s.size = p.length + (q.length + 1) := by rw [size_list, hs]; simp
    have second : ∃ r, ((listing_bare.f 9 s 2 ⟨#[98]⟩).bind fun b2 => if b2.2.2 = true then (if b2.1.toList = ([68, 66, 32, 98] : List UInt8) then some ([b2.2.1 % 256], (0 : Int)) else (asmLow b2.1 true).bind fun o2 => match o2 with
        | some op2 => some ([op2 % 256, b2.2.1 % 256], 0)
        | none => some ([], 6)) else some ([], 6)) = some r ∧ (r = (([] : List Int), (6 : Int)) ∨ IsLine s) := by
      rw [show (2 : Int) = ((2 : Nat) : Int) from rfl, bare_at (by omega) s p q 2 98 hs hp (by omega) (by omega) hz]
      cases hv : bareS q 2 with
      | none => dsimp only; rw [bind_some', if_neg (by decide)]; exact ⟨_, rfl, .inl rfl⟩
      | some v =>
        dsimp only
        rw [bind_some', if_pos rfl]
        by_cases hd : (⟨(p ++ 98 :: q.drop 2).toArray⟩ : ByteArray).toList = ([68, 66, 32, 98] : List UInt8)
        · rw [if_pos hd]
          rw [ByteArray.toList_eq] at hd
          exact ⟨_, rfl, .inr (db_line hs hd hv)⟩
        · rw [if_neg hd]
          unfold asmLow
          rw [if_pos rfl, if_pos (by rw [size_list, arr_list]; simp; omega)]
          cases hb : bookAt 512 (⟨(p ++ 98 :: q.drop 2).toArray⟩ : ByteArray) with
          | none => exact ⟨_, rfl, .inl rfl⟩
          | some o =>
            obtain ⟨i, hi, rfl, hk⟩ := bookAt_some hb
            dsimp only
            by_cases hlt : (i : Int) < 256
            · rw [if_pos hlt]; exact ⟨_, rfl, .inr (byte_line hs (arr_list _) hv hi hk)⟩
            · rw [if_neg hlt]; exact ⟨_, rfl, .inl rfl⟩
    rw [show (4 : Int) = ((4 : Nat) : Int) from rfl, bare_at (by omega) s p q 4 119 hs hp (by omega) (by omega) hz]
    cases hv : bareS q 4 with
    | none =>
      dsimp only
      rw [bind_some']
      have e : asmLow (⟨#[]⟩ : ByteArray) false = some none := by unfold asmLow; rw [if_neg (by decide)]
      rw [e, bind_some']
      exact second
    | some v =>
      dsimp only
      rw [bind_some']
      have e : asmLow (⟨(p ++ 119 :: q.drop 4).toArray⟩ : ByteArray) true = some (match bookAt 512 (⟨(p ++ 119 :: q.drop 4).toArray⟩ : ByteArray) with | some op => if op < 256 then some op else none | none => none) := by
        unfold asmLow; rw [if_pos rfl, if_pos (by rw [size_list, arr_list]; simp; omega)]; rfl
      rw [e, bind_some']
      cases hb : bookAt 512 (⟨(p ++ 119 :: q.drop 4).toArray⟩ : ByteArray) with
      | none => exact second
      | some o =>
        obtain ⟨i, hi, rfl, hk⟩ := bookAt_some hb
        dsimp only
        by_cases hlt : (i : Int) < 256
        · rw [if_pos hlt]; exact ⟨_, rfl, .inr (word_line hs (arr_list _) hv hi hk)⟩
        · rw [if_neg hlt]; exact second
def lineB (op lo hi : Nat) : ByteArray := ⟨(lineL op lo hi).toArray⟩
theorem key_none {op : Nat} (h : op < 512) (hk : bookKey op = none) : op < 256 ∧ nbT op = 1 := by
  have hb := List.all_eq_true.1 key_all op (List.mem_range.2 h)
  unfold keyB at hb
  rw [hk] at hb
  simp only [Bool.and_eq_true, decide_eq_true_eq, beq_iff_eq] at hb
  exact hb
theorem line_none {op : Nat} (h : op < 256) (hk : bookKey op = none) (lo hi : Nat) : lineB op lo hi = dbB op := by
  refine toList_inj ?_
  rw [dbB_list]
  show lineL op lo hi = _
  unfold lineL lineT
  rw [hk, show op % 256 / 16 = op / 16 by omega]
  rfl
end Go.Proofs.YtpjbfpheenamiaaDoor.PF
/- One line, and the bytes that it stands for: the line hangs on those bytes alone, and they are its assembly; condition: bytes. -/
namespace Go.Proofs.YtpjbfpheenamiaaDoor.PF
open Go.RowKit Go.Proofs.YtpjbfpheenamiaaDoorW.PrintWords
set_option linter.unusedVariables false
set_option linter.unusedSimpArgs false
set_option maxRecDepth 100000
/-- The line of the bytes that it took. -/
def oneT : List Nat → ByteArray
  | [] => ⟨#[]⟩
  | [x] => if x ≠ 203 ∧ nbT x = 1 then lineB x 0 0 else dbB x
  | [x, y] => if x = 203 then lineB (y + 256) 0 0 else lineB x y 0
  | x :: y :: z :: _ => lineB x y z
theorem asm_lineB (x lo hi : Nat) (h : x < 256) (hl : lo < 256) (hh : hi < 256) : listing_Assemble.f (lineB x lo hi) = some (bytesL x lo hi, 0) := by
  cases hk : bookKey x with
  | none =>
    obtain ⟨_, hn⟩ := key_none (by omega) hk
    rw [line_none h hk, asm_db x h]
    unfold bytesL
    rw [if_neg (by omega), if_pos hn]
  | some t => exact asm_line (by omega) hk lo hi hl hh
theorem asm_lineCB (y : Nat) (h : y < 256) : listing_Assemble.f (lineB (y + 256) 0 0) = some (ints [203, y], 0) := by
  cases hk : bookKey (y + 256) with
  | none => have := (key_none (by omega) hk).1; omega
  | some t =>
    have := asm_line (by omega) hk 0 0 (by omega) (by omega)
    show listing_Assemble.f ⟨(lineL (y + 256) 0 0).toArray⟩ = _
    rw [this]
    unfold bytesL
    rw [if_pos (by omega), show (((y + 256 : Nat) : Int) - 256) = (y : Int) by omega]
    rfl
/-- What 'oneS' gives, whatever bytes there are. -/
theorem one_is (x : Nat) (r : List Nat) (h : ∀ z ∈ x :: r, z < 256) : ∃ s n, oneS (x :: r) = (s, n) ∧ 1 ≤ n ∧ n ≤ 3 ∧ n ≤ (x :: r).length ∧ s = oneT ((x :: r).take n) ∧ listing_Assemble.f s = some (ints ((x :: r).take n), 0) := by
  have hx : x < 256 := h x (by simp)
  rw [oneS_cons]
  by_cases h203 : x = 203
  · subst h203
    rw [if_pos rfl]
    cases r with
    | nil => exact ⟨_, _, rfl, by omega, by omega, by simp, rfl, asm_db 203 (by omega)⟩
    | cons y r =>
      have hy : y < 256 := h y (by simp)
      exact ⟨_, _, rfl, by omega, by omega, by simp, rfl, asm_lineCB y hy⟩
  · rw [if_neg h203]
    obtain ⟨f0, f1, f2, f3, f4, f5, hf, _, h3, _, _, hn⟩ := formTab x hx
    by_cases hl : r.length + 1 < nbT x
    · rw [if_pos hl]
      refine ⟨_, _, rfl, by omega, by omega, by simp, ?_, asm_db x hx⟩
      show dbB x = if x ≠ 203 ∧ nbT x = 1 then lineB x 0 0 else dbB x
      rw [if_neg (fun e => by omega)]
    · rw [if_neg hl]
      rcases h3 with e | e | e
      · have hn1 : nbT x = 1 := by omega
        rw [hn1]
        refine ⟨_, _, rfl, by omega, by omega, by simp, ?_, ?_⟩
        · show lineB x 0 0 = if x ≠ 203 ∧ nbT x = 1 then lineB x 0 0 else dbB x
          rw [if_pos ⟨h203, hn1⟩]
        · show listing_Assemble.f (lineB x 0 0) = _
          rw [asm_lineB x 0 0 hx (by omega) (by omega)]
          unfold bytesL
          rw [if_neg (by omega), if_pos hn1]
          rfl
      · have hn2 : nbT x = 2 := by omega
        rw [hn2]
        cases r with
        | nil => rw [hn2] at hl; simp at hl
        | cons y r =>
          have hy : y < 256 := h y (by simp)
          refine ⟨_, _, rfl, by omega, by omega, by simp, ?_, ?_⟩
          · show lineB x y 0 = if x = 203 then lineB (y + 256) 0 0 else lineB x y 0
            rw [if_neg h203]
          · show listing_Assemble.f (lineB x y 0) = _
            rw [asm_lineB x y 0 hx hy (by omega)]
            unfold bytesL
            rw [if_neg (by omega), if_neg (by omega), if_pos hn2]
            rfl
      · have hn3 : nbT x = 3 := by omega
        rw [hn3]
        cases r with
        | nil => rw [hn3] at hl; simp at hl
        | cons y r =>
          have hy : y < 256 := h y (by simp)
          cases r with
          | nil => rw [hn3] at hl; simp at hl
          | cons z r =>
            have hz : z < 256 := h z (by simp)
            refine ⟨_, _, rfl, by omega, by omega, by simp, rfl, ?_⟩
            show listing_Assemble.f (lineB x y z) = _
            rw [asm_lineB x y z hx hy hz]
            unfold bytesL
            rw [if_neg (by omega), if_neg (by omega), if_neg (by omega)]
            rfl
theorem strOf_ints {l : List Nat} (h : ∀ x ∈ l, x < 256) : (strOfNums (ints l)).data.toList = l.map UInt8.ofNat := by
  rw [strOfNums_data]
  unfold ints
  rw [List.map_map]
  refine List.map_congr_left fun x _ => ?_
  show UInt8.ofNat ((x : Int)).toNat = _
  rw [Int.toNat_natCast]
theorem ofNats_inj : ∀ {a b : List Nat}, (∀ x ∈ a, x < 256) → (∀ x ∈ b, x < 256) → a.map UInt8.ofNat = b.map UInt8.ofNat → a = b := by
  intro a
  induction a with
  | nil => intro b _ _ e; cases b with
    | nil => rfl
    | cons y b => cases e
  | cons x a ih => intro b ha hb e; cases b with
    | nil => cases e
    | cons y b =>
      injection e with e1 e2
      have hx := ha x (by simp)
      have hy := hb y (by simp)
      have e3 : x = y := by
        have := congrArg UInt8.toNat e1
        rw [UInt8.toNat_ofNat', UInt8.toNat_ofNat'] at this
        omega
      rw [e3, ih (fun z hz => ha z (by simp [hz])) (fun z hz => hb z (by simp [hz])) e2]
theorem str_ints {a b : List Nat} (ha : ∀ x ∈ a, x < 256) (hb : ∀ x ∈ b, x < 256) : (strOfNums (ints a)).toList = (strOfNums (ints b)).toList ↔ a = b := by
  refine ⟨fun e => ?_, fun e => by rw [e]⟩
  rw [ByteArray.toList_eq, ByteArray.toList_eq, strOf_ints ha, strOf_ints hb] at e
  exact ofNats_inj ha hb e
theorem ints_take (l : List Nat) (n : Nat) : (ints l).take n = ints (l.take n) := by unfold ints; rw [List.map_take]
theorem ints_drop (l : List Nat) (n : Nat) : (ints l).drop n = ints (l.drop n) := by unfold ints; rw [List.map_drop]
end Go.Proofs.YtpjbfpheenamiaaDoor.PF
-- PRINTED by print.py (a twelfth state) out of the translation. Not trusted: Lean checks it.
namespace Go.Proofs.YtpjbfpheenamiaaDoor.PF
open Go.RowKit Go.Proofs.YtpjbfpheenamiaaDoorW.PrintWords Go.Proofs.YtpjbfpheenamiaaDoorW.PrintLast Go.Proofs.YtpjbfpheenamiaaDoorW.PrintMore
attribute [local go_sem] max2_int min2_int max_two min_two max_three min_three max_four min_four   -- for this text's walks alone
set_option linter.unusedVariables false
set_option linter.unusedSimpArgs false

/-! ### listing_All: function 20 -/
def listing_All.l0 : Nat → List Int → List ByteArray → Int → Int → Option (List Int × Int)
 | 0, _, _, _, _ => none
 | k + 1, x4, x9, x10, x11 => if x11 < x10 then (if 0 ≤ x11 then (if x11 < (x9.length : Int) then ((listing_Assemble.f (rdOf ByteArray.empty x9 x11)).bind fun bt454 => (if bt454.2 = 0 then (if x4.length + bt454.1.length < 140737488355328 then (listing_All.l0 k (x4 ++ bt454.1) x9 x10 (wrap64 (x11 + 1))) else (none)) else (some (([] : List Int), bt454.2)))) else (none)) else (none)) else (some (x4, 0))
def listing_All.f (k : Nat) (l0 : List ByteArray) : Option (List Int × Int) := listing_All.l0 k ([] : List Int) l0 (l0.length : Int) 0
theorem listing_All.mono_l : ∀ k, (∀ y0 y1 y2 y3, LeO (listing_All.l0 k y0 y1 y2 y3) (listing_All.l0 (k + 1) y0 y1 y2 y3))
 | 0 => fun _ _ _ _ r h => by simp [listing_All.l0] at h
 | k + 1 => by
  have ih0 := listing_All.mono_l k
  ·intro y0 y1 y2 y3
   unfold listing_All.l0
   repeat' first
   | (with_reducible exact ih0 _ _ _ _)
   | (with_reducible exact LeO.refl _)
   | (with_reducible exact LeO.none _)
   | (with_reducible refine LeO.ite ?_ ?_)
   | (with_reducible refine LeO.bind ?_ (fun _ => ?_))
   | exact ih0 _ _ _ _
   | exact LeO.none _
   | refine LeO.ite ?_ ?_
   | refine LeO.bind ?_ (fun _ => ?_)
theorem listing_All.mono : ∀ a0 k, LeO (listing_All.f k a0) (listing_All.f (k + 1) a0) := by
 intro a0 k
 have ih0 := listing_All.mono_l k
 unfold listing_All.f
 repeat' first
   | (with_reducible exact ih0 _ _ _ _)
   | (with_reducible exact LeO.refl _)
   | (with_reducible exact LeO.none _)
   | (with_reducible refine LeO.ite ?_ ?_)
   | (with_reducible refine LeO.bind ?_ (fun _ => ?_))
   | exact ih0 _ _ _ _
   | exact LeO.none _
   | refine LeO.ite ?_ ?_
   | refine LeO.bind ?_ (fun _ => ?_)
set_option maxHeartbeats 8000000 in
set_option maxRecDepth 100000 in
theorem listing_All.calls (k : Nat) (A0 : Option Addr) (c0 : Nat) (l0 : List ByteArray) (r1 : List Int) (r2 : Int) (w : World) (hr0 : Kd.C Kd.string w A0 l0.length l0) (hc0 : l0.length ≤ c0) (h : listing_All.f k l0 = some (r1, r2)) :
  Calls Tryd.prog 20 #[.slice A0 l0.length c0] w fun e w' => ∃ v0_ : Value, e = .returned (.tuple #[v0_, .int .i64 r2]) ∧ Kd.R (Kd.int .u8) 5 w' w.heap.size (fun _ => True) v0_ r1 ∧ Below w.heap.size w w' := by
 have HR0 := Aside0.mk hr0
 have HC0 := Aside0.mk hc0
 clear hr0 hc0
 have HB := Aside0.mk (Below.refl w.heap.size w)
 have H : (listing_All.l0 k ([] : List Int) l0 (l0.length : Int) 0) = some (r1, r2) := h
 clear h
 have H' := Aside0.mk H
 clear H
 go_enter Tryd.func20, Tryd.ntmps20
 go_wp2
 go_loopg [4, 11] k (fun kq v4 v11 w' => ∃ (x4_1 : List Int) (x11_1 : Int), v11 = .int .i64 x11_1 ∧ Aside0 (listing_All.l0 kq x4_1 l0 (l0.length : Int) x11_1 = some (r1, r2)) ∧ Aside0 (kq ≤ k) ∧ Aside0 (Kd.R (Kd.int .u8) 5 w' w.heap.size (fun _ => True) v4 x4_1) ∧ Aside0 (Below w.heap.size w w'))
 case atStart => exact ⟨(([] : List Int)), (0), (by first | rfl | (simp; done) | (simp [*]; done)), H', ⟨Nat.le_refl _⟩, ⟨by first | exact Kd.R_nil _ _ _ _ _ | exact Kd.N_nil _ _ _ _ _ | exact Kd.V_nil _ _ _ _ _ | exact Kd.Q_nil _ _ _ _ _ | exact Kd.S_nil _ _ _ _ _⟩, ⟨by repeat (first | (with_reducible first | exact HB.out | apply below_alloc | apply pw_below_drewN | apply below_drew1) | exact HB.out)⟩⟩
 case round =>
  clear H'
  obtain ⟨x4_1, x11_1, rfl, HA, HK1, HO_4, HB⟩ := hrel
  cases gk with
  | zero => exact absurd HA.out (by simp [listing_All.l0])
  | succ k1 =>
   have H := HA.out
   clear HA
   simp only [listing_All.l0] at H
   by_cases c2 : x11_1 < (l0.length : Int)
   ·rw [if_pos c2] at H
    have c2b0 : decide (x11_1 < (l0.length : Int)) = true := decide_eq_true c2
    clear c2
    by_cases c3 : 0 ≤ x11_1
    ·rw [if_pos c3] at H
     have c3b0 : decide (0 ≤ x11_1) = true := decide_eq_true c3
     clear c3
     by_cases c4 : x11_1 < (l0.length : Int)
     ·rw [if_pos c4] at H
      have c4b0 : decide (x11_1 < (l0.length : Int)) = true := decide_eq_true c4
      clear c4
      replace H := Option.bind_eq_some_iff.mp H
      obtain ⟨⟨t454, t455⟩, A50, H⟩ := H
      replace H : (if t455 = 0 then (if x4_1.length + t454.length < 140737488355328 then (listing_All.l0 k1 (x4_1 ++ t454) l0 (l0.length : Int) (wrap64 (x11_1 + 1))) else (none)) else (some (([] : List Int), t455))) = some (r1, r2) := H
      have A5 := Aside0.mk A50
      clear A50
      by_cases c6 : t455 = 0
      ·rw [if_pos c6] at H
       have c6b0 : (t455 == 0) = true := beq_iff_eq.mpr c6
       have c6b1 : (t455 != 0) = false := bne_eq_false_iff_eq.mpr c6
       clear c6
       by_cases c7 : x4_1.length + t454.length < 140737488355328
       ·rw [if_pos c7] at H
        have LMc7 := Aside0.mk c7
        clear c7
        obtain ⟨y458, hy458⟩ : ∃ y_ : List Int, y_ = (x4_1 ++ t454) := ⟨_, rfl⟩
        replace H : (listing_All.l0 k1 y458 l0 (l0.length : Int) (wrap64 (x11_1 + 1))) = some (r1, r2) := by first | (rw [hy458]; with_reducible exact H) | (have H2_ := (Option.bind_some _ _).symm.trans H; rw [hy458]; with_reducible exact H2_) | (have H2_ := (Option.bind_some _ _).symm.trans H; with_reducible exact H2_) | with_reducible exact H | (rw [hy458]; exact H) | exact H
        have Ny458 := Aside0.mk hy458
        clear hy458
        have H' := Aside0.mk H
        clear H
        have p453 : 0 ≤ (x11_1 : Int) := of_decide_eq_true (by first | (with_reducible assumption) | assumption)
        have q453 : x11_1 < (l0.length : Int) := of_decide_eq_true (by first | (with_reducible assumption) | assumption)
        obtain ⟨ad453, e453, hx453_0⟩ := Kd.at_string HR0.out x11_1 p453 q453
        cases e453
        replace hx453_0 := (HB.out.cell (World.block_lt_of_cell? w _ hx453_0)).trans hx453_0
        replace p453 := eq_true p453
        replace q453 := eq_true q453
        go_wp2_with (first | ((with_reducible refine gate_callee (f := 15) rfl ?_); refine goesL_ (some 17) rfl rfl Tryd.func15 (by kernel_rfl) rfl #[.string (rdOf ByteArray.empty l0 x11_1)] rfl (by (try simp only [List.map_toArray, List.map_cons, List.map_nil]); first | done | rfl | (simp only [List.length_drop, List.length_take]; rfl)) ?_; (with_reducible refine (listing_Assemble.calls (rdOf ByteArray.empty l0 x11_1) t454 t455 _ A5.out).mono ?_); rintro e w8 ⟨v456, rfl, ho0, hb⟩; refine ⟨_, rfl, ?_⟩; have n0_ := Aside0.mk (Kd.R_elder' (by (with_reducible repeat (first | apply Kd.R_alloc | apply Kd.R_drewN | apply Kd.R_drew)); exact HO_4.out) (Kd.R_base ho0) hb); have n1_ := Aside0.mk (Kd.R_lower (Kd.R_new' ho0 (Kd.R_lt (by (with_reducible repeat (first | apply Kd.R_alloc | apply Kd.R_drewN | apply Kd.R_drew)); exact HO_4.out))) (below_size (by repeat (first | (with_reducible first | exact HB.out | apply below_alloc | apply pw_below_drewN | apply below_drew1) | exact HB.out)))); have n2_ := Aside0.mk (below_step (by repeat (first | (with_reducible first | exact HB.out | apply below_alloc | apply pw_below_drewN | apply below_drew1) | exact HB.out)) hb); clear HO_4; clear HB; have HO_4 := n0_; have HO457 := n1_; have HB := n2_; clear n0_ n1_ n2_; (try clear hb); (try clear ho0); obtain ⟨Ao10, co10, eo10⟩ := Kd.R_slice HO457.out; subst eo10) | ((with_reducible refine gate_builtin (b := .append) (xs := #[.tmp 23, .tmp 24]) rfl ?_); at_builtin; refine Kd.R_append_rows (Kd.int .u8) (w0 := w) w.heap.size rfl (.tmp 23) (.tmp 24) 27 5 (.int .u8 0) 1 rfl Tryd.underlying27 info5 rfl (by decide) (by omega) u4 x4_1 t454 _ _ _ (fun k_ => some k_ ≠ (.slice Ao10 t454.length co10 : Value).ownBlock) (fun _ => False) rfl rfl ?aO ?aR (fun _ _ h => h) (fun _ h => h.elim) ?aF ?aB ?aS ?aL ?_; (case aR => repeat (first | exact (Kd.R_reads' HO457.out).2.2 | (with_reducible refine Kd.C_alloc ?_ _) | (with_reducible refine Kd.C_drewN ?_ _) | (with_reducible refine Kd.C_drew ?_))); (case aB => exact (by repeat (first | (with_reducible first | exact HB.out | apply below_alloc | apply pw_below_drewN | apply below_drew1) | exact HB.out))); (case aF => exact (fun k_ hk => Kd.fresh' (Kd.R_lt (by (with_reducible repeat (first | apply Kd.R_alloc | apply Kd.R_drewN | apply Kd.R_drew)); exact HO457.out)) k_ hk)); (case aO => exact (by (with_reducible repeat (first | apply Kd.R_alloc | apply Kd.R_drewN | apply Kd.R_drew)); exact Kd.R_mono HO_4.out (fun _ hk => hk.2))); (case aS => exact (below_size (by repeat (first | (with_reducible first | exact HB.out | apply below_alloc | apply pw_below_drewN | apply below_drew1) | exact HB.out)))); (case aL => have := LMc7.out; omega); intro v459 w9 ho hb hg hat; rw [← Ny458.out] at ho; have n0_ := Aside0.mk (Kd.R_after (ok := (fun _ => True)) (by (with_reducible repeat (first | apply Kd.R_alloc | apply Kd.R_drewN | apply Kd.R_drew)); exact HO457.out) hg hat); have n1_ := Aside0.mk (hb); have n2_ := Aside0.mk (ho); clear HO457; clear HB; clear HO_4; have HO457 := n0_; have HB := n1_; have HO460 := n2_; clear n0_ n1_ n2_; clear ho hb hg hat))
        go_roundg k1
        case measure => have := HK1.out; omega
        case rel => exact ⟨(y458), (wrap64 (x11_1 + 1)), (by first | rfl | (simp; done) | (simp [*]; done)), H', ⟨by have := HK1.out; omega⟩, ⟨by (with_reducible repeat (first | apply Kd.R_alloc | apply Kd.R_drewN | apply Kd.R_drew)); exact Kd.R_mono HO460.out (fun _ hk => trivial)⟩, ⟨by repeat (first | (with_reducible first | exact HB.out | apply below_alloc | apply pw_below_drewN | apply below_drew1) | exact HB.out)⟩⟩
       ·rw [if_neg c7] at H
        exact absurd H (by simp)
      ·rw [if_neg c6] at H
       have c6b0 : (t455 == 0) = false := beq_eq_false_iff_ne.mpr c6
       have c6b1 : (t455 != 0) = true := bne_iff_ne.mpr c6
       simp only [Option.some.injEq, Prod.mk.injEq] at H
       obtain ⟨rfl, rfl⟩ := H
       have p453 : 0 ≤ (x11_1 : Int) := of_decide_eq_true (by first | (with_reducible assumption) | assumption)
       have q453 : x11_1 < (l0.length : Int) := of_decide_eq_true (by first | (with_reducible assumption) | assumption)
       obtain ⟨ad453, e453, hx453_0⟩ := Kd.at_string HR0.out x11_1 p453 q453
       cases e453
       replace hx453_0 := (HB.out.cell (World.block_lt_of_cell? w _ hx453_0)).trans hx453_0
       replace p453 := eq_true p453
       replace q453 := eq_true q453
       go_wp2_with (first | ((with_reducible refine gate_callee (f := 15) rfl ?_); refine goesL_ (some 17) rfl rfl Tryd.func15 (by kernel_rfl) rfl #[.string (rdOf ByteArray.empty l0 x11_1)] rfl (by (try simp only [List.map_toArray, List.map_cons, List.map_nil]); first | done | rfl | (simp only [List.length_drop, List.length_take]; rfl)) ?_; (with_reducible refine (listing_Assemble.calls (rdOf ByteArray.empty l0 x11_1) t454 t455 _ A5.out).mono ?_); rintro e w11 ⟨v456, rfl, ho0, hb⟩; refine ⟨_, rfl, ?_⟩; have n0_ := Aside0.mk (Kd.R_elder' (by (with_reducible repeat (first | apply Kd.R_alloc | apply Kd.R_drewN | apply Kd.R_drew)); exact HO_4.out) (Kd.R_base ho0) hb); have n1_ := Aside0.mk (Kd.R_lower (Kd.R_new' ho0 (Kd.R_lt (by (with_reducible repeat (first | apply Kd.R_alloc | apply Kd.R_drewN | apply Kd.R_drew)); exact HO_4.out))) (below_size (by repeat (first | (with_reducible first | exact HB.out | apply below_alloc | apply pw_below_drewN | apply below_drew1) | exact HB.out)))); have n2_ := Aside0.mk (below_step (by repeat (first | (with_reducible first | exact HB.out | apply below_alloc | apply pw_below_drewN | apply below_drew1) | exact HB.out)) hb); clear HO_4; clear HB; have HO_4 := n0_; have HO457 := n1_; have HB := n2_; clear n0_ n1_ n2_; (try clear hb); (try clear ho0)))
       go_ret2
       exact ⟨_, by first | rfl | (simp [errW_none, errW_some] <;> rfl) | (simp [*, errW_none, errW_some] <;> rfl), by first | exact Kd.R_nil _ _ _ _ _ | exact Kd.N_nil _ _ _ _ _ | exact Kd.V_nil _ _ _ _ _ | exact Kd.Q_nil _ _ _ _ _ | exact Kd.S_nil _ _ _ _ _, by repeat (first | (with_reducible first | exact HB.out | apply below_alloc | apply pw_below_drewN | apply below_drew1) | exact HB.out)⟩
     ·rw [if_neg c4] at H
      exact absurd H (by simp)
    ·rw [if_neg c3] at H
     exact absurd H (by simp)
   ·rw [if_neg c2] at H
    have c2b0 : decide (x11_1 < (l0.length : Int)) = false := decide_eq_false c2
    clear c2
    simp only [Option.some.injEq, Prod.mk.injEq] at H
    obtain ⟨rfl, rfl⟩ := H
    go_wp2
    go_ret2
    exact ⟨_, by first | rfl | (simp [errW_none, errW_some] <;> rfl) | (simp [*, errW_none, errW_some] <;> rfl), by (with_reducible repeat (first | apply Kd.R_alloc | apply Kd.R_drewN | apply Kd.R_drew)); exact HO_4.out, by repeat (first | (with_reducible first | exact HB.out | apply below_alloc | apply pw_below_drewN | apply below_drew1) | exact HB.out)⟩

end Go.Proofs.YtpjbfpheenamiaaDoor.PF
/- The program's All over any lines: one behind the other, the first refusal ends it; condition: every line is answered, with no more than three bytes. -/
namespace Go.Proofs.YtpjbfpheenamiaaDoor.PF
open Go.RowKit Go.Proofs.YtpjbfpheenamiaaDoorW.PrintWords
set_option linter.unusedVariables false
set_option linter.unusedSimpArgs false
set_option maxRecDepth 100000
def allS : List ByteArray → List Int → List Int × Int
  | [], acc => (acc, 0)
  | s :: L, acc => match listing_Assemble.f s with
    | none => ([], 6)
    | some r => if r.2 = 0 then allS L (acc ++ r.1) else ([], r.2)
theorem allS_cons (s : ByteArray) (L : List ByteArray) (acc : List Int) : allS (s :: L) acc = match listing_Assemble.f s with
    | none => ([], 6)
    | some r => if r.2 = 0 then allS L (acc ++ r.1) else ([], r.2) := rfl
theorem rd_drop {L : List ByteArray} {i : Nat} {s : ByteArray} {R : List ByteArray} (h : L.drop i = s :: R) : rdOf ByteArray.empty L (i : Int) = s ∧ i < L.length ∧ L.drop (i + 1) = R := by
  have hl : i < L.length := by
    refine Nat.lt_of_not_le fun e => ?_
    rw [List.drop_eq_nil_of_le e] at h
    cases h
  rw [List.drop_eq_getElem_cons hl] at h
  injection h with h1 h2
  refine ⟨?_, hl, h2⟩
  unfold rdOf
  rw [Int.toNat_natCast, List.getD_eq_getElem?_getD, List.getElem?_eq_getElem hl, ← h1]
  rfl
theorem all_prog (L : List ByteArray) (hL : L.length ≤ 9000000000000) (h : ∀ s ∈ L, ∃ r, listing_Assemble.f s = some r ∧ r.1.length ≤ 3) : ∀ (d i : Nat) (acc : List Int) (k : Nat), d + i = L.length → acc.length + 3 * d < 140737488355328 → d + 1 ≤ k →
    listing_All.l0 k acc L (L.length : Int) (i : Int) = some (allS (L.drop i) acc) := by
  intro d
  induction d with
  | zero =>
    intro i acc k hd ha hk
    obtain ⟨k, rfl⟩ : ∃ m, k = m + 1 := ⟨k - 1, by omega⟩
    rw [listing_All.l0, if_neg (by omega), List.drop_eq_nil_of_le (by omega)]
    rfl
  | succ d ih =>
    intro i acc k hd ha hk
    obtain ⟨k, rfl⟩ : ∃ m, k = m + 1 := ⟨k - 1, by omega⟩
    cases hdr : L.drop i with
    | nil => have : L.length ≤ i := List.drop_eq_nil_iff.1 hdr; omega
    | cons s R =>
      obtain ⟨e1, e2, e3⟩ := rd_drop hdr
      obtain ⟨r, hr, h3⟩ := h s (List.mem_of_mem_drop (i := i) (by rw [hdr]; simp))
      rw [listing_All.l0, if_pos (by omega), if_pos (by omega), if_pos (by omega), e1, hr, bind_some', allS_cons, hr]
      dsimp only
      by_cases h0 : r.2 = 0
      · rw [if_pos h0, if_pos h0, if_pos (by omega), wrap64_id (by omega) (by omega), ← e3]
        exact ih (i + 1) (acc ++ r.1) k (by omega) (by rw [List.length_append]; omega) (by omega)
      · rw [if_neg h0, if_neg h0]
theorem allP {k : Nat} (L : List ByteArray) (hL : L.length ≤ 9000000000000) (h : ∀ s ∈ L, ∃ r, listing_Assemble.f s = some r ∧ r.1.length ≤ 3) (hk : L.length + 1 ≤ k) : listing_All.f k L = some (allS L []) := by
  unfold listing_All.f
  have := all_prog L hL h L.length 0 [] k (by omega) (by simp; omega) hk
  rw [List.drop_zero] at this
  exact this
end Go.Proofs.YtpjbfpheenamiaaDoor.PF
-- PRINTED by print.py (a twelfth state) out of the translation. Not trusted: Lean checks it.
namespace Go.Proofs.YtpjbfpheenamiaaDoor.PF
open Go.RowKit Go.Proofs.YtpjbfpheenamiaaDoorW.PrintWords Go.Proofs.YtpjbfpheenamiaaDoorW.PrintLast Go.Proofs.YtpjbfpheenamiaaDoorW.PrintMore
attribute [local go_sem] max2_int min2_int max_two min_two max_three min_three max_four min_four   -- for this text's walks alone
set_option linter.unusedVariables false
set_option linter.unusedSimpArgs false

/-! ### listing_Lines: function 18 -/
def listing_Lines.l0 : Nat → List Int → List ByteArray → Option (List ByteArray)
 | 0, _, _ => none
 | k + 1, x0, x3 => if (x0.length : Int) > 0 then ((listing_One.f k x0).bind fun bt429 => (if x3.length < 8796093022208 then (if 0 ≤ bt429.2 then (if bt429.2 ≤ (x0.length : Int) then (listing_Lines.l0 k (x0.drop (bt429.2 : Int).toNat) (x3 ++ [bt429.1])) else (none)) else (none)) else (none))) else (some x3)
def listing_Lines.f (k : Nat) (l0 : List Int) : Option (List ByteArray) := listing_Lines.l0 k l0 ([] : List ByteArray)
theorem listing_Lines.mono_l : ∀ k, (∀ y0 y1, LeO (listing_Lines.l0 k y0 y1) (listing_Lines.l0 (k + 1) y0 y1))
 | 0 => fun _ _ r h => by simp [listing_Lines.l0] at h
 | k + 1 => by
  have ih0 := listing_Lines.mono_l k
  ·intro y0 y1
   unfold listing_Lines.l0
   repeat' first
   | (with_reducible exact ih0 _ _)
   | (with_reducible exact listing_One.mono _ _)
   | (with_reducible exact LeO.refl _)
   | (with_reducible exact LeO.none _)
   | (with_reducible refine LeO.ite ?_ ?_)
   | (with_reducible refine LeO.bind ?_ (fun _ => ?_))
   | exact ih0 _ _
   | exact listing_One.mono _ _
   | exact LeO.none _
   | refine LeO.ite ?_ ?_
   | refine LeO.bind ?_ (fun _ => ?_)
theorem listing_Lines.mono : ∀ a0 k, LeO (listing_Lines.f k a0) (listing_Lines.f (k + 1) a0) := by
 intro a0 k
 have ih0 := listing_Lines.mono_l k
 unfold listing_Lines.f
 repeat' first
   | (with_reducible exact ih0 _ _)
   | (with_reducible exact listing_One.mono _ _)
   | (with_reducible exact LeO.refl _)
   | (with_reducible exact LeO.none _)
   | (with_reducible refine LeO.ite ?_ ?_)
   | (with_reducible refine LeO.bind ?_ (fun _ => ?_))
   | exact ih0 _ _
   | exact listing_One.mono _ _
   | exact LeO.none _
   | refine LeO.ite ?_ ?_
   | refine LeO.bind ?_ (fun _ => ?_)
set_option maxHeartbeats 8000000 in
set_option maxRecDepth 100000 in
theorem listing_Lines.calls (k : Nat) (P0_ : Nat → Prop) (A0 : Option Addr) (c0 : Nat) (l0 : List Int) (r : List ByteArray) (w : World) (hs0 : Kd.V (Kd.int .u8) 5 w w.heap.size (fun k_ => P0_ k_) (.slice A0 l0.length c0) l0) (h : listing_Lines.f k l0 = some r) :
  Calls Tryd.prog 18 #[.slice A0 l0.length c0] w fun e w' => ∃ v0_ : Value, e = .returned (v0_) ∧ Kd.R Kd.string 9 w' w.heap.size (fun k_ => (w.heap.size ≤ k_)) v0_ r ∧ Below w.heap.size w w' := by
 have HO0 := Aside0.mk (show Kd.V (Kd.int .u8) 5 w w.heap.size (fun k_ => (P0_ k_ ∨ w.heap.size ≤ k_)) (.slice A0 l0.length c0) l0 from Kd.V_mono hs0 (fun k_ hk => .inl hk))
 have HB := Aside0.mk (Below.refl w.heap.size w)
 have H : (listing_Lines.l0 k l0 ([] : List ByteArray)) = some r := h
 clear h
 have H' := Aside0.mk H
 clear H
 go_enter Tryd.func18, Tryd.ntmps18
 go_wp2
 go_loopg [0, 3] k (fun kq v0 v3 w' => ∃ (x0_1 : List Int) (x3_1 : List ByteArray), Aside0 (listing_Lines.l0 kq x0_1 x3_1 = some r) ∧ Aside0 (kq ≤ k) ∧ Aside0 (Kd.V (Kd.int .u8) 5 w' w.heap.size (fun k_ => (P0_ k_ ∨ w.heap.size ≤ k_) ∧ some k_ ≠ (v3 : Value).ownBlock) v0 x0_1) ∧ Aside0 (Kd.R Kd.string 9 w' w.heap.size (fun k_ => (w.heap.size ≤ k_)) v3 x3_1) ∧ Aside0 (Below w.heap.size w w'))
 case atStart => exact ⟨(l0), (([] : List ByteArray)), H', ⟨Nat.le_refl _⟩, ⟨by (with_reducible repeat (first | apply Kd.V_alloc | apply Kd.V_drewN | apply Kd.V_drew)); exact Kd.V_mono HO0.out (fun _ hk => ⟨hk, (by simp [Value.ownBlock])⟩)⟩, ⟨by first | exact Kd.R_nil _ _ _ _ _ | exact Kd.N_nil _ _ _ _ _ | exact Kd.V_nil _ _ _ _ _ | exact Kd.Q_nil _ _ _ _ _ | exact Kd.S_nil _ _ _ _ _⟩, ⟨by repeat (first | (with_reducible first | exact HB.out | apply below_alloc | apply pw_below_drewN | apply below_drew1) | exact HB.out)⟩⟩
 case round =>
  clear H'
  obtain ⟨x0_1, x3_1, HA, HK1, HO_0, HO_3, HB⟩ := hrel
  cases gk with
  | zero => exact absurd HA.out (by simp [listing_Lines.l0])
  | succ k1 =>
   have H := HA.out
   clear HA
   simp only [listing_Lines.l0] at H
   by_cases c2 : (x0_1.length : Int) > 0
   ·rw [if_pos c2] at H
    have c2b0 : decide (0 < (x0_1.length : Int)) = true := decide_eq_true c2
    have c2b1 : decide (0 < x0_1.length) = true := decide_eq_true (by omega)
    clear c2
    replace H := Option.bind_eq_some_iff.mp H
    obtain ⟨⟨t429, t430⟩, A30, H⟩ := H
    replace H : (if x3_1.length < 8796093022208 then (if 0 ≤ t430 then (if t430 ≤ (x0_1.length : Int) then (listing_Lines.l0 k1 (x0_1.drop (t430 : Int).toNat) (x3_1 ++ [t429])) else (none)) else (none)) else (none)) = some r := H
    have A3 := Aside0.mk A30
    clear A30
    by_cases c4 : x3_1.length < 8796093022208
    ·rw [if_pos c4] at H
     have LMc4 := Aside0.mk c4
     clear c4
     obtain ⟨y431, hy431⟩ : ∃ y_ : List ByteArray, y_ = (x3_1 ++ [t429]) := ⟨_, rfl⟩
     replace H : (if 0 ≤ t430 then (if t430 ≤ (x0_1.length : Int) then (listing_Lines.l0 k1 (x0_1.drop (t430 : Int).toNat) y431) else (none)) else (none)) = some r := by first | (rw [hy431]; with_reducible exact H) | (have H2_ := (Option.bind_some _ _).symm.trans H; rw [hy431]; with_reducible exact H2_) | (have H2_ := (Option.bind_some _ _).symm.trans H; with_reducible exact H2_) | with_reducible exact H | (rw [hy431]; exact H) | exact H
     have Ny431 := Aside0.mk hy431
     clear hy431
     by_cases c5 : 0 ≤ t430
     ·rw [if_pos c5] at H
      have c5b0 := eq_true c5
      have c5b1 : decide (0 ≤ t430) = true := decide_eq_true c5
      clear c5
      by_cases c6 : t430 ≤ (x0_1.length : Int)
      ·rw [if_pos c6] at H
       have c6b0 := eq_true c6
       have c6b1 : decide (t430 ≤ (x0_1.length : Int)) = true := decide_eq_true c6
       clear c6
       obtain ⟨y434, hy434⟩ : ∃ y_ : List Int, y_ = (x0_1.drop (t430 : Int).toNat) := ⟨_, rfl⟩
       replace H : (listing_Lines.l0 k1 y434 y431) = some r := by first | (rw [hy434]; with_reducible exact H) | (have H2_ := (Option.bind_some _ _).symm.trans H; rw [hy434]; with_reducible exact H2_) | (have H2_ := (Option.bind_some _ _).symm.trans H; with_reducible exact H2_) | with_reducible exact H | (rw [hy434]; exact H) | exact H
       have Ny434 := Aside0.mk hy434
       clear hy434
       have H' := Aside0.mk H
       clear H
       obtain ⟨Ao7, co7, eo7⟩ := Kd.V_slice HO_0.out
       subst eo7
       go_wp2_with (first | ((with_reducible refine gate_callee (f := 13) rfl ?_); refine goesL_ (some 11) rfl rfl Tryd.func13 (by kernel_rfl) rfl #[.slice Ao7 x0_1.length co7] rfl (by (try simp only [List.map_toArray, List.map_cons, List.map_nil]); first | done | rfl | (simp only [List.length_drop, List.length_take]; rfl)) ?_; (with_reducible refine (listing_One.calls k1 _ _ x0_1 t429 t430 _ ?side1 ?side2 A3.out).mono ?_); (case side1 => repeat (first | exact (Kd.V_reads' HO_0.out).2.2 | (with_reducible refine Kd.C_alloc ?_ _) | (with_reducible refine Kd.C_drewN ?_ _) | (with_reducible refine Kd.C_drew ?_))); (case side2 => exact (Kd.V_reads' HO_0.out).2.1); rintro e w8 ⟨rfl, hb⟩; refine ⟨_, rfl, ?_⟩; have n0_ := Aside0.mk (Kd.V_below (by (with_reducible repeat (first | apply Kd.V_alloc | apply Kd.V_drewN | apply Kd.V_drew)); exact HO_0.out) hb); have n1_ := Aside0.mk (Kd.R_below (by (with_reducible repeat (first | apply Kd.R_alloc | apply Kd.R_drewN | apply Kd.R_drew)); exact HO_3.out) hb); have n2_ := Aside0.mk (below_step (by repeat (first | (with_reducible first | exact HB.out | apply below_alloc | apply pw_below_drewN | apply below_drew1) | exact HB.out)) hb); clear HO_0; clear HO_3; clear HB; have HO_0 := n0_; have HO_3 := n1_; have HB := n2_; clear n0_ n1_ n2_; (try clear hb)) | ((with_reducible refine gate_builtin (b := .append) (xs := #[.tmp 14, .tmp 16]) rfl ?_); at_builtin; refine Kd.R_append Kd.string (w0 := w) w.heap.size rfl (.tmp 14) (.tmp 16) 39 9 (.string ⟨#[]⟩) 16 rfl Tryd.underlying39 info9 rfl (by decide) (by omega) u3 x3_1 t429 [.string t429] (fun k_ => (w.heap.size ≤ k_)) (fun _ => False) rfl rfl ?aP (fun _ hk => hk.elim) ?aF ?aO ?aB ?aS ?aL ?_; (case aP => exact rfl); (case aB => exact (by repeat (first | (with_reducible first | exact HB.out | apply below_alloc | apply pw_below_drewN | apply below_drew1) | exact HB.out))); (case aF => exact (fun k_ hk => (Nat.le_trans (below_size (by repeat (first | (with_reducible first | exact HB.out | apply below_alloc | apply pw_below_drewN | apply below_drew1) | exact HB.out))) hk))); (case aO => exact (by (with_reducible repeat (first | apply Kd.R_alloc | apply Kd.R_drewN | apply Kd.R_drew)); exact HO_3.out)); (case aS => exact (below_size (by repeat (first | (with_reducible first | exact HB.out | apply below_alloc | apply pw_below_drewN | apply below_drew1) | exact HB.out)))); (case aL => have := LMc4.out; omega); intro v432 w9 ho hb hg hat; rw [← Ny431.out] at ho; have n0_ := Aside0.mk (Kd.V_afterv (ok := (fun k_ => (P0_ k_ ∨ w.heap.size ≤ k_))) (by (with_reducible repeat (first | apply Kd.V_alloc | apply Kd.V_drewN | apply Kd.V_drew)); exact HO_0.out) hg hat); have n1_ := Aside0.mk (hb); have n2_ := Aside0.mk (ho); clear HO_0; clear HB; clear HO_3; have HO_0 := n0_; have HB := n1_; have HO433 := n2_; clear n0_ n1_ n2_; clear ho hb hg hat; have q10 : (t430 : Int) ≤ ((x0_1.length : Int) : Int) := of_decide_eq_true (by first | (with_reducible assumption) | assumption); obtain ⟨i010, hi010, _, hsz10, _⟩ := info_parts info5; have hroom10 : x0_1.length ≤ co7 := (Kd.V_reads' HO_0.out).2.1; have hC10 : Kd.F (Kd.int .u8) _ _ Ao7 x0_1.length x0_1 := (Kd.V_at (base := w.heap.size) HO_0.out).2.2; have q010 : (0 : Int) ≤ (t430 : Int) := of_decide_eq_true (by first | (with_reducible assumption) | assumption); have hcut10 := cut_from (P := Tryd.prog) 27 5 .i64 Tryd.underlying27 hi010 1 hsz10 Ao7 x0_1.length co7 t430 q010 q10; have hr10 := Kd.F_cut (m := (t430 : Int).toNat) (c := co7) hC10 (by omega) hroom10; obtain ⟨A10, hA10⟩ : ∃ A1, A1 = (if co7 = (t430 : Int).toNat then Ao7 else (Ao7 : Option Addr).map (·.add ((t430 : Int).toNat * 1))) := ⟨_, rfl⟩; obtain ⟨c10, hc10⟩ : ∃ c1, c1 = co7 - (t430 : Int).toNat := ⟨_, rfl⟩; have hy10 : y434.length = x0_1.length - (t430 : Int).toNat := (by rw [Ny434.out, List.length_drop] <;> omega); rw [show (x0_1).drop (t430 : Int).toNat = y434 from Ny434.out.symm] at hr10; replace hr10 : Kd.F (Kd.int .u8) _ _ A10 y434.length y434 := (by rw [hA10]; exact hr10); rw [← hy10, ← hA10, ← hc10] at hcut10; have HO438 := Aside0.mk (show Kd.V (Kd.int .u8) 5 _ w.heap.size _ (.slice A10 y434.length c10) y434 from Kd.V_mk (by rw [hy10, hc10]; exact Nat.sub_le_sub_right hroom10 _) hr10); have HC438 := Aside0.mk (show y434.length ≤ c10 from by rw [hy10, hc10]; exact Nat.sub_le_sub_right hroom10 _); clear hr10 hC10 hroom10 hi010 hsz10 hc10; have KY10 := Aside0.mk hy10; have KA10 := Aside0.mk hA10; clear hy10 hA10; replace q10 := eq_true q10))
       go_roundg k1
       case measure => have := HK1.out; omega
       case rel => exact ⟨(y434), (y431), H', ⟨by have := HK1.out; omega⟩, ⟨by (with_reducible repeat (first | apply Kd.V_alloc | apply Kd.V_drewN | apply Kd.V_drew)); exact HO438.out⟩, ⟨by (with_reducible repeat (first | apply Kd.R_alloc | apply Kd.R_drewN | apply Kd.R_drew)); exact HO433.out⟩, ⟨by repeat (first | (with_reducible first | exact HB.out | apply below_alloc | apply pw_below_drewN | apply below_drew1) | exact HB.out)⟩⟩
      ·rw [if_neg c6] at H
       exact absurd H (by simp)
     ·rw [if_neg c5] at H
      exact absurd H (by simp)
    ·rw [if_neg c4] at H
     exact absurd H (by simp)
   ·rw [if_neg c2] at H
    have c2b0 : decide (0 < (x0_1.length : Int)) = false := decide_eq_false c2
    have c2b1 : decide (0 < x0_1.length) = false := decide_eq_false (by omega)
    clear c2
    obtain rfl := Option.some.inj H
    obtain ⟨Ao11, co11, eo11⟩ := Kd.V_slice HO_0.out
    subst eo11
    go_wp2
    go_ret
    exact ⟨_, by first | rfl | (simp [errW_none, errW_some] <;> rfl) | (simp [*, errW_none, errW_some] <;> rfl), by (with_reducible repeat (first | apply Kd.R_alloc | apply Kd.R_drewN | apply Kd.R_drew)); exact HO_3.out, by repeat (first | (with_reducible first | exact HB.out | apply below_alloc | apply pw_below_drewN | apply below_drew1) | exact HB.out)⟩

end Go.Proofs.YtpjbfpheenamiaaDoor.PF
/- The program's Lines: the lines of the bytes, one behind the other; condition: no more than 8796093022207 bytes. -/
namespace Go.Proofs.YtpjbfpheenamiaaDoor.PF
open Go.RowKit Go.Proofs.YtpjbfpheenamiaaDoorW.PrintWords
set_option linter.unusedVariables false
set_option linter.unusedSimpArgs false
set_option maxRecDepth 100000
def linesS : Nat → List Nat → List ByteArray
  | 0, _ => []
  | _ + 1, [] => []
  | d + 1, x :: r => (oneS (x :: r)).1 :: linesS d ((x :: r).drop (oneS (x :: r)).2)
theorem linesS_nil (d : Nat) : linesS d [] = [] := by cases d <;> rfl
theorem linesS_cons (d x : Nat) (r : List Nat) : linesS (d + 1) (x :: r) = (oneS (x :: r)).1 :: linesS d ((x :: r).drop (oneS (x :: r)).2) := rfl
theorem lines_prog : ∀ (d : Nat) (l : List Nat) (acc : List ByteArray) (k : Nat), l.length ≤ d → (∀ x ∈ l, x < 256) → acc.length + d < 8796093022208 → d + 30 ≤ k → listing_Lines.l0 k (ints l) acc = some (acc ++ linesS d l) := by
  intro d
  induction d with
  | zero =>
    intro l acc k hl hb ha hk
    obtain ⟨k, rfl⟩ : ∃ m, k = m + 1 := ⟨k - 1, by omega⟩
    obtain rfl : l = [] := List.eq_nil_of_length_eq_zero (by omega)
    rw [listing_Lines.l0, if_neg (by simp [ints]), linesS_nil, List.append_nil]
  | succ d ih =>
    intro l acc k hl hb ha hk
    obtain ⟨k, rfl⟩ : ∃ m, k = m + 1 := ⟨k - 1, by omega⟩
    cases l with
    | nil => rw [listing_Lines.l0, if_neg (by simp [ints]), linesS_nil, List.append_nil]
    | cons x r =>
      obtain ⟨s, n, e, h1, h3, hn, hs, _⟩ := one_is x r hb
      have hlen := ints_length (x :: r)
      have hpos : 0 < (x :: r).length := by simp
      rw [listing_Lines.l0, if_pos (by omega), one_prog (by omega) (x :: r) hb, bind_some', e, if_pos (by omega)]
      dsimp only
      rw [if_pos (by omega), if_pos (by omega), Int.toNat_natCast, ints_drop, ih ((x :: r).drop n) (acc ++ [s]) k (by rw [List.length_drop]; omega) (fun y hy => hb y (List.mem_of_mem_drop hy)) (by rw [List.length_append]; simp; omega) (by omega)]
      rw [linesS_cons, e, List.append_assoc]
      rfl
theorem linesP {k : Nat} (l : List Nat) (h : ∀ x ∈ l, x < 256) (hl : l.length < 8796093022208) (hk : l.length + 30 ≤ k) : listing_Lines.f k (ints l) = some (linesS l.length l) := by
  unfold listing_Lines.f
  rw [lines_prog l.length l [] k (Nat.le_refl _) h (by simp; omega) hk, List.nil_append]
end Go.Proofs.YtpjbfpheenamiaaDoor.PF
-- PRINTED by print.py (a twelfth state) out of the translation. Not trusted: Lean checks it.
namespace Go.Proofs.YtpjbfpheenamiaaDoor.PF
open Go.RowKit Go.Proofs.YtpjbfpheenamiaaDoorW.PrintWords Go.Proofs.YtpjbfpheenamiaaDoorW.PrintLast Go.Proofs.YtpjbfpheenamiaaDoorW.PrintMore
attribute [local go_sem] max2_int min2_int max_two min_two max_three min_three max_four min_four   -- for this text's walks alone
set_option linter.unusedVariables false
set_option linter.unusedSimpArgs false

/-! ### whirligiglaw06_ListingBack: function 9 -/
def whirligiglaw06_ListingBack.l0 : Nat → List Int → Bool → List ByteArray → List Int → Int → Int → Int → Option (Bool)
 | 0, _, _, _, _, _, _, _ => none
 | k + 1, x0, x3, x4, x5, x6, x7, x8 => if x8 < (x4.length : Int) then (if 0 ≤ x8 then ((listing_Assemble.f (rdOf ByteArray.empty x4 x8)).bind fun bt487 => (if bt487.2 = 0 then (if (bt487.1.length : Int) < 1 then (some false) else (if (bt487.1.length : Int) > 3 then (some false) else (if (wrap64 (x7 + (bt487.1.length : Int))) > (x0.length : Int) then (some false) else (if 0 ≤ x7 then (if x7 ≤ (wrap64 (x7 + (bt487.1.length : Int))) then (if (wrap64 (x7 + (bt487.1.length : Int))) ≤ (x0.length : Int) then (if (strOfNums bt487.1).toList = (strOfNums ((x0.take ((wrap64 (x7 + (bt487.1.length : Int))) : Int).toNat).drop (x7 : Int).toNat)).toList then (whirligiglaw06_ListingBack.l0 k x0 x3 x4 x5 x6 (wrap64 (x7 + (bt487.1.length : Int))) (wrap64 (x8 + 1))) else (some false)) else (none)) else (none)) else (none))))) else (some false))) else (none)) else (if x3 = true then (if (strOfNums x5).toList = (strOfNums x0).toList then (if x6 = 0 then (some (x7 == (x0.length : Int))) else (some false)) else (some false)) else (some false))
def whirligiglaw06_ListingBack.f (k : Nat) (l0 : List Int) : Option (Bool) := (whirligiglaw06_shown.f k).bind fun t478 => ((listing_Lines.f k l0).bind fun t479 => ((listing_All.f k t479).bind fun bt482 => (whirligiglaw06_ListingBack.l0 k l0 t478 t479 bt482.1 bt482.2 0 0)))
theorem whirligiglaw06_ListingBack.mono_l : ∀ k, (∀ y0 y1 y2 y3 y4 y5 y6, LeO (whirligiglaw06_ListingBack.l0 k y0 y1 y2 y3 y4 y5 y6) (whirligiglaw06_ListingBack.l0 (k + 1) y0 y1 y2 y3 y4 y5 y6))
 | 0 => fun _ _ _ _ _ _ _ r h => by simp [whirligiglaw06_ListingBack.l0] at h
 | k + 1 => by
  have ih0 := whirligiglaw06_ListingBack.mono_l k
  ·intro y0 y1 y2 y3 y4 y5 y6
   unfold whirligiglaw06_ListingBack.l0
   repeat' first
   | (with_reducible exact ih0 _ _ _ _ _ _ _)
   | (with_reducible exact listing_All.mono _ _)
   | (with_reducible exact listing_Lines.mono _ _)
   | (with_reducible exact whirligiglaw06_shown.mono _)
   | (with_reducible exact LeO.refl _)
   | (with_reducible exact LeO.none _)
   | (with_reducible refine LeO.ite ?_ ?_)
   | (with_reducible refine LeO.bind ?_ (fun _ => ?_))
   | exact ih0 _ _ _ _ _ _ _
   | exact listing_All.mono _ _
   | exact listing_Lines.mono _ _
   | exact whirligiglaw06_shown.mono _
   | exact LeO.none _
   | refine LeO.ite ?_ ?_
   | refine LeO.bind ?_ (fun _ => ?_)
theorem whirligiglaw06_ListingBack.mono : ∀ a0 k, LeO (whirligiglaw06_ListingBack.f k a0) (whirligiglaw06_ListingBack.f (k + 1) a0) := by
 intro a0 k
 have ih0 := whirligiglaw06_ListingBack.mono_l k
 unfold whirligiglaw06_ListingBack.f
 repeat' first
   | (with_reducible exact ih0 _ _ _ _ _ _ _)
   | (with_reducible exact listing_All.mono _ _)
   | (with_reducible exact listing_Lines.mono _ _)
   | (with_reducible exact whirligiglaw06_shown.mono _)
   | (with_reducible exact LeO.refl _)
   | (with_reducible exact LeO.none _)
   | (with_reducible refine LeO.ite ?_ ?_)
   | (with_reducible refine LeO.bind ?_ (fun _ => ?_))
   | exact ih0 _ _ _ _ _ _ _
   | exact listing_All.mono _ _
   | exact listing_Lines.mono _ _
   | exact whirligiglaw06_shown.mono _
   | exact LeO.none _
   | refine LeO.ite ?_ ?_
   | refine LeO.bind ?_ (fun _ => ?_)
set_option maxHeartbeats 8000000 in
set_option maxRecDepth 100000 in
theorem whirligiglaw06_ListingBack.calls (k : Nat) (A0 : Option Addr) (c0 : Nat) (l0 : List Int) (r : Bool) (w : World) (hr0 : Kd.C (Kd.int .u8) w A0 l0.length l0) (hc0 : l0.length ≤ c0) (h : whirligiglaw06_ListingBack.f k l0 = some r) :
  Calls Tryd.prog 9 #[.slice A0 l0.length c0] w fun e w' => e = .returned (.bool r) ∧ Below w.heap.size w w' := by
 have HR0 := Aside0.mk hr0
 have HC0 := Aside0.mk hc0
 clear hr0 hc0
 have HB := Aside0.mk (Below.refl w.heap.size w)
 have H : ((whirligiglaw06_shown.f k).bind fun t478 => ((listing_Lines.f k l0).bind fun t479 => ((listing_All.f k t479).bind fun bt482 => (whirligiglaw06_ListingBack.l0 k l0 t478 t479 bt482.1 bt482.2 0 0)))) = some r := h
 clear h
 replace H := Option.bind_eq_some_iff.mp H
 obtain ⟨t478, A20, H⟩ := H
 replace H : ((listing_Lines.f k l0).bind fun t479 => ((listing_All.f k t479).bind fun bt482 => (whirligiglaw06_ListingBack.l0 k l0 t478 t479 bt482.1 bt482.2 0 0))) = some r := H
 have A2 := Aside0.mk A20
 clear A20
 replace H := Option.bind_eq_some_iff.mp H
 obtain ⟨t479, A30, H⟩ := H
 replace H : ((listing_All.f k t479).bind fun bt482 => (whirligiglaw06_ListingBack.l0 k l0 t478 t479 bt482.1 bt482.2 0 0)) = some r := H
 have A3 := Aside0.mk A30
 clear A30
 replace H := Option.bind_eq_some_iff.mp H
 obtain ⟨⟨t482, t483⟩, A40, H⟩ := H
 replace H : (whirligiglaw06_ListingBack.l0 k l0 t478 t479 t482 t483 0 0) = some r := H
 have A4 := Aside0.mk A40
 clear A40
 have H' := Aside0.mk H
 clear H
 go_enter Tryd.func9, Tryd.ntmps9
 go_wp2_with (first | (go_at_call 10; (with_reducible refine (whirligiglaw06_shown.calls k  t478 _ A2.out).mono ?_); rintro e w5 ⟨rfl, hb⟩; have n0_ := Aside0.mk (below_step (by repeat (first | (with_reducible first | exact HB.out | apply below_alloc | apply pw_below_drewN | apply below_drew1) | exact HB.out)) hb); clear HB; have HB := n0_; clear n0_; (try clear hb)) | (go_at_call 18; (with_reducible refine (listing_Lines.calls k (fun k_ => k_ < w.heap.size) _ _ l0 t479 _ ?side1 A3.out).mono ?_); (case side1 => exact Kd.V_mk HC0.out (Kd.F_below (Kd.C_F (Kd.heap_int .u8) HR0.out) (by repeat (first | (with_reducible first | exact HB.out | apply below_alloc | apply pw_below_drewN | apply below_drew1) | exact HB.out)))); rintro e w6 ⟨v480, rfl, ho0, hb⟩; have n0_ := Aside0.mk (Kd.R_lower (Kd.R_mono (ok' := fun k_ => True) ho0 (fun _ hk_ => trivial)) (below_size (by repeat (first | (with_reducible first | exact HB.out | apply below_alloc | apply pw_below_drewN | apply below_drew1) | exact HB.out)))); have n1_ := Aside0.mk (below_step (by repeat (first | (with_reducible first | exact HB.out | apply below_alloc | apply pw_below_drewN | apply below_drew1) | exact HB.out)) hb); clear HB; have HO481 := n0_; have HB := n1_; clear n0_ n1_; (try clear hb); (try clear ho0); obtain ⟨Ao7, co7, eo7⟩ := Kd.R_slice HO481.out; subst eo7) | (go_at_call 20; (with_reducible refine (listing_All.calls k _ _ t479 t482 t483 _ ?side1 ?side2 A4.out).mono ?_); (case side1 => repeat (first | exact (Kd.R_reads' HO481.out).2.2 | (with_reducible refine Kd.C_alloc ?_ _) | (with_reducible refine Kd.C_drewN ?_ _) | (with_reducible refine Kd.C_drew ?_))); (case side2 => exact (Kd.R_reads' HO481.out).2.1); rintro e w8 ⟨v484, rfl, ho0, hb⟩; have n0_ := Aside0.mk (Kd.R_below (by (with_reducible repeat (first | apply Kd.R_alloc | apply Kd.R_drewN | apply Kd.R_drew)); exact HO481.out) hb); have n1_ := Aside0.mk (Kd.R_lower ho0 (below_size (by repeat (first | (with_reducible first | exact HB.out | apply below_alloc | apply pw_below_drewN | apply below_drew1) | exact HB.out)))); have n2_ := Aside0.mk (below_step (by repeat (first | (with_reducible first | exact HB.out | apply below_alloc | apply pw_below_drewN | apply below_drew1) | exact HB.out)) hb); clear HO481; clear HB; have HO481 := n0_; have HO485 := n1_; have HB := n2_; clear n0_ n1_ n2_; (try clear hb); (try clear ho0)))
 repeat (go_quiet (first | (go_at_call 10; (with_reducible refine (whirligiglaw06_shown.calls k  t478 _ A2.out).mono ?_); rintro e w5 ⟨rfl, hb⟩; have n0_ := Aside0.mk (below_step (by repeat (first | (with_reducible first | exact HB.out | apply below_alloc | apply pw_below_drewN | apply below_drew1) | exact HB.out)) hb); clear HB; have HB := n0_; clear n0_; (try clear hb)) | (go_at_call 18; (with_reducible refine (listing_Lines.calls k (fun k_ => k_ < w.heap.size) _ _ l0 t479 _ ?side1 A3.out).mono ?_); (case side1 => exact Kd.V_mk HC0.out (Kd.F_below (Kd.C_F (Kd.heap_int .u8) HR0.out) (by repeat (first | (with_reducible first | exact HB.out | apply below_alloc | apply pw_below_drewN | apply below_drew1) | exact HB.out)))); rintro e w6 ⟨v480, rfl, ho0, hb⟩; have n0_ := Aside0.mk (Kd.R_lower (Kd.R_mono (ok' := fun k_ => True) ho0 (fun _ hk_ => trivial)) (below_size (by repeat (first | (with_reducible first | exact HB.out | apply below_alloc | apply pw_below_drewN | apply below_drew1) | exact HB.out)))); have n1_ := Aside0.mk (below_step (by repeat (first | (with_reducible first | exact HB.out | apply below_alloc | apply pw_below_drewN | apply below_drew1) | exact HB.out)) hb); clear HB; have HO481 := n0_; have HB := n1_; clear n0_ n1_; (try clear hb); (try clear ho0); obtain ⟨Ao7, co7, eo7⟩ := Kd.R_slice HO481.out; subst eo7) | (go_at_call 20; (with_reducible refine (listing_All.calls k _ _ t479 t482 t483 _ ?side1 ?side2 A4.out).mono ?_); (case side1 => repeat (first | exact (Kd.R_reads' HO481.out).2.2 | (with_reducible refine Kd.C_alloc ?_ _) | (with_reducible refine Kd.C_drewN ?_ _) | (with_reducible refine Kd.C_drew ?_))); (case side2 => exact (Kd.R_reads' HO481.out).2.1); rintro e w8 ⟨v484, rfl, ho0, hb⟩; have n0_ := Aside0.mk (Kd.R_below (by (with_reducible repeat (first | apply Kd.R_alloc | apply Kd.R_drewN | apply Kd.R_drew)); exact HO481.out) hb); have n1_ := Aside0.mk (Kd.R_lower ho0 (below_size (by repeat (first | (with_reducible first | exact HB.out | apply below_alloc | apply pw_below_drewN | apply below_drew1) | exact HB.out)))); have n2_ := Aside0.mk (below_step (by repeat (first | (with_reducible first | exact HB.out | apply below_alloc | apply pw_below_drewN | apply below_drew1) | exact HB.out)) hb); clear HO481; clear HB; have HO481 := n0_; have HO485 := n1_; have HB := n2_; clear n0_ n1_ n2_; (try clear hb); (try clear ho0))); try go_wp2_with (first | (go_at_call 10; (with_reducible refine (whirligiglaw06_shown.calls k  t478 _ A2.out).mono ?_); rintro e w5 ⟨rfl, hb⟩; have n0_ := Aside0.mk (below_step (by repeat (first | (with_reducible first | exact HB.out | apply below_alloc | apply pw_below_drewN | apply below_drew1) | exact HB.out)) hb); clear HB; have HB := n0_; clear n0_; (try clear hb)) | (go_at_call 18; (with_reducible refine (listing_Lines.calls k (fun k_ => k_ < w.heap.size) _ _ l0 t479 _ ?side1 A3.out).mono ?_); (case side1 => exact Kd.V_mk HC0.out (Kd.F_below (Kd.C_F (Kd.heap_int .u8) HR0.out) (by repeat (first | (with_reducible first | exact HB.out | apply below_alloc | apply pw_below_drewN | apply below_drew1) | exact HB.out)))); rintro e w6 ⟨v480, rfl, ho0, hb⟩; have n0_ := Aside0.mk (Kd.R_lower (Kd.R_mono (ok' := fun k_ => True) ho0 (fun _ hk_ => trivial)) (below_size (by repeat (first | (with_reducible first | exact HB.out | apply below_alloc | apply pw_below_drewN | apply below_drew1) | exact HB.out)))); have n1_ := Aside0.mk (below_step (by repeat (first | (with_reducible first | exact HB.out | apply below_alloc | apply pw_below_drewN | apply below_drew1) | exact HB.out)) hb); clear HB; have HO481 := n0_; have HB := n1_; clear n0_ n1_; (try clear hb); (try clear ho0); obtain ⟨Ao7, co7, eo7⟩ := Kd.R_slice HO481.out; subst eo7) | (go_at_call 20; (with_reducible refine (listing_All.calls k _ _ t479 t482 t483 _ ?side1 ?side2 A4.out).mono ?_); (case side1 => repeat (first | exact (Kd.R_reads' HO481.out).2.2 | (with_reducible refine Kd.C_alloc ?_ _) | (with_reducible refine Kd.C_drewN ?_ _) | (with_reducible refine Kd.C_drew ?_))); (case side2 => exact (Kd.R_reads' HO481.out).2.1); rintro e w8 ⟨v484, rfl, ho0, hb⟩; have n0_ := Aside0.mk (Kd.R_below (by (with_reducible repeat (first | apply Kd.R_alloc | apply Kd.R_drewN | apply Kd.R_drew)); exact HO481.out) hb); have n1_ := Aside0.mk (Kd.R_lower ho0 (below_size (by repeat (first | (with_reducible first | exact HB.out | apply below_alloc | apply pw_below_drewN | apply below_drew1) | exact HB.out)))); have n2_ := Aside0.mk (below_step (by repeat (first | (with_reducible first | exact HB.out | apply below_alloc | apply pw_below_drewN | apply below_drew1) | exact HB.out)) hb); clear HO481; clear HB; have HO481 := n0_; have HO485 := n1_; have HB := n2_; clear n0_ n1_ n2_; (try clear hb); (try clear ho0))))
 go_loopg [7, 8] k (fun kq v7 v8 w' => ∃ (x7_1 : Int) (x8_1 : Int), v7 = .int .i64 x7_1 ∧ v8 = .int .i64 x8_1 ∧ Aside0 (whirligiglaw06_ListingBack.l0 kq l0 t478 t479 t482 t483 x7_1 x8_1 = some r) ∧ Aside0 (kq ≤ k) ∧ Aside0 (Kd.R Kd.string 9 w' w.heap.size (fun _ => True) (.slice Ao7 t479.length co7) t479) ∧ Aside0 (Kd.R (Kd.int .u8) 5 w' w.heap.size (fun _ => True) v484 t482) ∧ Aside0 (Below w.heap.size w w'))
 case atStart => exact ⟨(0), (0), (by first | rfl | (simp; done) | (simp [*]; done)), (by first | rfl | (simp; done) | (simp [*]; done)), H', ⟨Nat.le_refl _⟩, ⟨by (with_reducible repeat (first | apply Kd.R_alloc | apply Kd.R_drewN | apply Kd.R_drew)); exact HO481.out⟩, ⟨by (with_reducible repeat (first | apply Kd.R_alloc | apply Kd.R_drewN | apply Kd.R_drew)); exact HO485.out⟩, ⟨by repeat (first | (with_reducible first | exact HB.out | apply below_alloc | apply pw_below_drewN | apply below_drew1) | exact HB.out)⟩⟩
 case round =>
  clear H'
  obtain ⟨x7_1, x8_1, rfl, rfl, HA, HK1, HO_4, HO_5, HB⟩ := hrel
  cases gk with
  | zero => exact absurd HA.out (by simp [whirligiglaw06_ListingBack.l0])
  | succ k1 =>
   have H := HA.out
   clear HA
   simp only [whirligiglaw06_ListingBack.l0] at H
   by_cases c9 : x8_1 < (t479.length : Int)
   ·rw [if_pos c9] at H
    have c9b0 : decide (x8_1 < (t479.length : Int)) = true := decide_eq_true c9
    clear c9
    by_cases c10 : 0 ≤ x8_1
    ·rw [if_pos c10] at H
     have c10b0 : decide (0 ≤ x8_1) = true := decide_eq_true c10
     clear c10
     replace H := Option.bind_eq_some_iff.mp H
     obtain ⟨⟨t487, t488⟩, A110, H⟩ := H
     replace H : (if t488 = 0 then (if (t487.length : Int) < 1 then (some false) else (if (t487.length : Int) > 3 then (some false) else (if (wrap64 (x7_1 + (t487.length : Int))) > (l0.length : Int) then (some false) else (if 0 ≤ x7_1 then (if x7_1 ≤ (wrap64 (x7_1 + (t487.length : Int))) then (if (wrap64 (x7_1 + (t487.length : Int))) ≤ (l0.length : Int) then (if (strOfNums t487).toList = (strOfNums ((l0.take ((wrap64 (x7_1 + (t487.length : Int))) : Int).toNat).drop (x7_1 : Int).toNat)).toList then (whirligiglaw06_ListingBack.l0 k1 l0 t478 t479 t482 t483 (wrap64 (x7_1 + (t487.length : Int))) (wrap64 (x8_1 + 1))) else (some false)) else (none)) else (none)) else (none))))) else (some false)) = some r := H
     have A11 := Aside0.mk A110
     clear A110
     by_cases c12 : t488 = 0
     ·rw [if_pos c12] at H
      have c12b0 : (t488 == 0) = true := beq_iff_eq.mpr c12
      have c12b1 : (t488 != 0) = false := bne_eq_false_iff_eq.mpr c12
      clear c12
      by_cases c13 : (t487.length : Int) < 1
      ·rw [if_pos c13] at H
       have c13b0 : decide ((t487.length : Int) < 1) = true := decide_eq_true c13
       have c13b1 : decide (t487.length < 1) = true := decide_eq_true (by omega)
       clear c13
       obtain rfl := Option.some.inj H
       have p486 : 0 ≤ (x8_1 : Int) := of_decide_eq_true (by first | (with_reducible assumption) | assumption)
       have q486 : x8_1 < (t479.length : Int) := of_decide_eq_true (by first | (with_reducible assumption) | assumption)
       obtain ⟨ad486, e486, hx486_0⟩ := Kd.at_string (Kd.R_reads' HO_4.out).2.2 x8_1 p486 q486
       cases e486
       replace p486 := eq_true p486
       replace q486 := eq_true q486
       go_wp2_with (first | (go_at_call 15; (with_reducible refine (listing_Assemble.calls (rdOf ByteArray.empty t479 x8_1) t487 t488 _ A11.out).mono ?_); rintro e w14 ⟨v489, rfl, ho0, hb⟩; have n0_ := Aside0.mk (Kd.R_below (by (with_reducible repeat (first | apply Kd.R_alloc | apply Kd.R_drewN | apply Kd.R_drew)); exact HO_4.out) hb); have n1_ := Aside0.mk (Kd.R_elder' (by (with_reducible repeat (first | apply Kd.R_alloc | apply Kd.R_drewN | apply Kd.R_drew)); exact HO_5.out) (Kd.R_base ho0) hb); have n2_ := Aside0.mk (Kd.R_lower (Kd.R_new' ho0 (Kd.R_lt (by (with_reducible repeat (first | apply Kd.R_alloc | apply Kd.R_drewN | apply Kd.R_drew)); exact HO_5.out))) (below_size (by repeat (first | (with_reducible first | exact HB.out | apply below_alloc | apply pw_below_drewN | apply below_drew1) | exact HB.out)))); have n3_ := Aside0.mk (below_step (by repeat (first | (with_reducible first | exact HB.out | apply below_alloc | apply pw_below_drewN | apply below_drew1) | exact HB.out)) hb); clear HO_4; clear HO_5; clear HB; have HO_4 := n0_; have HO_5 := n1_; have HO490 := n2_; have HB := n3_; clear n0_ n1_ n2_ n3_; (try clear hb); (try clear ho0); obtain ⟨Ao15, co15, eo15⟩ := Kd.R_slice HO490.out; subst eo15))
       repeat (go_quiet (first | (go_at_call 15; (with_reducible refine (listing_Assemble.calls (rdOf ByteArray.empty t479 x8_1) t487 t488 _ A11.out).mono ?_); rintro e w14 ⟨v489, rfl, ho0, hb⟩; have n0_ := Aside0.mk (Kd.R_below (by (with_reducible repeat (first | apply Kd.R_alloc | apply Kd.R_drewN | apply Kd.R_drew)); exact HO_4.out) hb); have n1_ := Aside0.mk (Kd.R_elder' (by (with_reducible repeat (first | apply Kd.R_alloc | apply Kd.R_drewN | apply Kd.R_drew)); exact HO_5.out) (Kd.R_base ho0) hb); have n2_ := Aside0.mk (Kd.R_lower (Kd.R_new' ho0 (Kd.R_lt (by (with_reducible repeat (first | apply Kd.R_alloc | apply Kd.R_drewN | apply Kd.R_drew)); exact HO_5.out))) (below_size (by repeat (first | (with_reducible first | exact HB.out | apply below_alloc | apply pw_below_drewN | apply below_drew1) | exact HB.out)))); have n3_ := Aside0.mk (below_step (by repeat (first | (with_reducible first | exact HB.out | apply below_alloc | apply pw_below_drewN | apply below_drew1) | exact HB.out)) hb); clear HO_4; clear HO_5; clear HB; have HO_4 := n0_; have HO_5 := n1_; have HO490 := n2_; have HB := n3_; clear n0_ n1_ n2_ n3_; (try clear hb); (try clear ho0); obtain ⟨Ao15, co15, eo15⟩ := Kd.R_slice HO490.out; subst eo15)); try go_wp2_with (first | (go_at_call 15; (with_reducible refine (listing_Assemble.calls (rdOf ByteArray.empty t479 x8_1) t487 t488 _ A11.out).mono ?_); rintro e w14 ⟨v489, rfl, ho0, hb⟩; have n0_ := Aside0.mk (Kd.R_below (by (with_reducible repeat (first | apply Kd.R_alloc | apply Kd.R_drewN | apply Kd.R_drew)); exact HO_4.out) hb); have n1_ := Aside0.mk (Kd.R_elder' (by (with_reducible repeat (first | apply Kd.R_alloc | apply Kd.R_drewN | apply Kd.R_drew)); exact HO_5.out) (Kd.R_base ho0) hb); have n2_ := Aside0.mk (Kd.R_lower (Kd.R_new' ho0 (Kd.R_lt (by (with_reducible repeat (first | apply Kd.R_alloc | apply Kd.R_drewN | apply Kd.R_drew)); exact HO_5.out))) (below_size (by repeat (first | (with_reducible first | exact HB.out | apply below_alloc | apply pw_below_drewN | apply below_drew1) | exact HB.out)))); have n3_ := Aside0.mk (below_step (by repeat (first | (with_reducible first | exact HB.out | apply below_alloc | apply pw_below_drewN | apply below_drew1) | exact HB.out)) hb); clear HO_4; clear HO_5; clear HB; have HO_4 := n0_; have HO_5 := n1_; have HO490 := n2_; have HB := n3_; clear n0_ n1_ n2_ n3_; (try clear hb); (try clear ho0); obtain ⟨Ao15, co15, eo15⟩ := Kd.R_slice HO490.out; subst eo15)))
       go_ret
       exact ⟨by first | rfl | (simp [errW_none, errW_some] <;> rfl) | (simp [*, errW_none, errW_some] <;> rfl), by repeat (first | (with_reducible first | exact HB.out | apply below_alloc | apply pw_below_drewN | apply below_drew1) | exact HB.out)⟩
      ·rw [if_neg c13] at H
       have c13b0 : decide ((t487.length : Int) < 1) = false := decide_eq_false c13
       have c13b1 : decide (t487.length < 1) = false := decide_eq_false (by omega)
       clear c13
       by_cases c16 : (t487.length : Int) > 3
       ·rw [if_pos c16] at H
        have c16b0 : decide (3 < (t487.length : Int)) = true := decide_eq_true c16
        have c16b1 : decide (3 < t487.length) = true := decide_eq_true (by omega)
        clear c16
        obtain rfl := Option.some.inj H
        have p486 : 0 ≤ (x8_1 : Int) := of_decide_eq_true (by first | (with_reducible assumption) | assumption)
        have q486 : x8_1 < (t479.length : Int) := of_decide_eq_true (by first | (with_reducible assumption) | assumption)
        obtain ⟨ad486, e486, hx486_0⟩ := Kd.at_string (Kd.R_reads' HO_4.out).2.2 x8_1 p486 q486
        cases e486
        replace p486 := eq_true p486
        replace q486 := eq_true q486
        go_wp2_with (first | (go_at_call 15; (with_reducible refine (listing_Assemble.calls (rdOf ByteArray.empty t479 x8_1) t487 t488 _ A11.out).mono ?_); rintro e w17 ⟨v489, rfl, ho0, hb⟩; have n0_ := Aside0.mk (Kd.R_below (by (with_reducible repeat (first | apply Kd.R_alloc | apply Kd.R_drewN | apply Kd.R_drew)); exact HO_4.out) hb); have n1_ := Aside0.mk (Kd.R_elder' (by (with_reducible repeat (first | apply Kd.R_alloc | apply Kd.R_drewN | apply Kd.R_drew)); exact HO_5.out) (Kd.R_base ho0) hb); have n2_ := Aside0.mk (Kd.R_lower (Kd.R_new' ho0 (Kd.R_lt (by (with_reducible repeat (first | apply Kd.R_alloc | apply Kd.R_drewN | apply Kd.R_drew)); exact HO_5.out))) (below_size (by repeat (first | (with_reducible first | exact HB.out | apply below_alloc | apply pw_below_drewN | apply below_drew1) | exact HB.out)))); have n3_ := Aside0.mk (below_step (by repeat (first | (with_reducible first | exact HB.out | apply below_alloc | apply pw_below_drewN | apply below_drew1) | exact HB.out)) hb); clear HO_4; clear HO_5; clear HB; have HO_4 := n0_; have HO_5 := n1_; have HO490 := n2_; have HB := n3_; clear n0_ n1_ n2_ n3_; (try clear hb); (try clear ho0); obtain ⟨Ao18, co18, eo18⟩ := Kd.R_slice HO490.out; subst eo18))
        repeat (go_quiet (first | (go_at_call 15; (with_reducible refine (listing_Assemble.calls (rdOf ByteArray.empty t479 x8_1) t487 t488 _ A11.out).mono ?_); rintro e w17 ⟨v489, rfl, ho0, hb⟩; have n0_ := Aside0.mk (Kd.R_below (by (with_reducible repeat (first | apply Kd.R_alloc | apply Kd.R_drewN | apply Kd.R_drew)); exact HO_4.out) hb); have n1_ := Aside0.mk (Kd.R_elder' (by (with_reducible repeat (first | apply Kd.R_alloc | apply Kd.R_drewN | apply Kd.R_drew)); exact HO_5.out) (Kd.R_base ho0) hb); have n2_ := Aside0.mk (Kd.R_lower (Kd.R_new' ho0 (Kd.R_lt (by (with_reducible repeat (first | apply Kd.R_alloc | apply Kd.R_drewN | apply Kd.R_drew)); exact HO_5.out))) (below_size (by repeat (first | (with_reducible first | exact HB.out | apply below_alloc | apply pw_below_drewN | apply below_drew1) | exact HB.out)))); have n3_ := Aside0.mk (below_step (by repeat (first | (with_reducible first | exact HB.out | apply below_alloc | apply pw_below_drewN | apply below_drew1) | exact HB.out)) hb); clear HO_4; clear HO_5; clear HB; have HO_4 := n0_; have HO_5 := n1_; have HO490 := n2_; have HB := n3_; clear n0_ n1_ n2_ n3_; (try clear hb); (try clear ho0); obtain ⟨Ao18, co18, eo18⟩ := Kd.R_slice HO490.out; subst eo18)); try go_wp2_with (first | (go_at_call 15; (with_reducible refine (listing_Assemble.calls (rdOf ByteArray.empty t479 x8_1) t487 t488 _ A11.out).mono ?_); rintro e w17 ⟨v489, rfl, ho0, hb⟩; have n0_ := Aside0.mk (Kd.R_below (by (with_reducible repeat (first | apply Kd.R_alloc | apply Kd.R_drewN | apply Kd.R_drew)); exact HO_4.out) hb); have n1_ := Aside0.mk (Kd.R_elder' (by (with_reducible repeat (first | apply Kd.R_alloc | apply Kd.R_drewN | apply Kd.R_drew)); exact HO_5.out) (Kd.R_base ho0) hb); have n2_ := Aside0.mk (Kd.R_lower (Kd.R_new' ho0 (Kd.R_lt (by (with_reducible repeat (first | apply Kd.R_alloc | apply Kd.R_drewN | apply Kd.R_drew)); exact HO_5.out))) (below_size (by repeat (first | (with_reducible first | exact HB.out | apply below_alloc | apply pw_below_drewN | apply below_drew1) | exact HB.out)))); have n3_ := Aside0.mk (below_step (by repeat (first | (with_reducible first | exact HB.out | apply below_alloc | apply pw_below_drewN | apply below_drew1) | exact HB.out)) hb); clear HO_4; clear HO_5; clear HB; have HO_4 := n0_; have HO_5 := n1_; have HO490 := n2_; have HB := n3_; clear n0_ n1_ n2_ n3_; (try clear hb); (try clear ho0); obtain ⟨Ao18, co18, eo18⟩ := Kd.R_slice HO490.out; subst eo18)))
        go_ret
        exact ⟨by first | rfl | (simp [errW_none, errW_some] <;> rfl) | (simp [*, errW_none, errW_some] <;> rfl), by repeat (first | (with_reducible first | exact HB.out | apply below_alloc | apply pw_below_drewN | apply below_drew1) | exact HB.out)⟩
       ·rw [if_neg c16] at H
        have c16b0 : decide (3 < (t487.length : Int)) = false := decide_eq_false c16
        have c16b1 : decide (3 < t487.length) = false := decide_eq_false (by omega)
        clear c16
        by_cases c19 : (wrap64 (x7_1 + (t487.length : Int))) > (l0.length : Int)
        ·rw [if_pos c19] at H
         have c19b0 : decide ((l0.length : Int) < (wrap64 (x7_1 + (t487.length : Int)))) = true := decide_eq_true c19
         clear c19
         obtain rfl := Option.some.inj H
         have p486 : 0 ≤ (x8_1 : Int) := of_decide_eq_true (by first | (with_reducible assumption) | assumption)
         have q486 : x8_1 < (t479.length : Int) := of_decide_eq_true (by first | (with_reducible assumption) | assumption)
         obtain ⟨ad486, e486, hx486_0⟩ := Kd.at_string (Kd.R_reads' HO_4.out).2.2 x8_1 p486 q486
         cases e486
         replace p486 := eq_true p486
         replace q486 := eq_true q486
         go_wp2_with (first | (go_at_call 15; (with_reducible refine (listing_Assemble.calls (rdOf ByteArray.empty t479 x8_1) t487 t488 _ A11.out).mono ?_); rintro e w20 ⟨v489, rfl, ho0, hb⟩; have n0_ := Aside0.mk (Kd.R_below (by (with_reducible repeat (first | apply Kd.R_alloc | apply Kd.R_drewN | apply Kd.R_drew)); exact HO_4.out) hb); have n1_ := Aside0.mk (Kd.R_elder' (by (with_reducible repeat (first | apply Kd.R_alloc | apply Kd.R_drewN | apply Kd.R_drew)); exact HO_5.out) (Kd.R_base ho0) hb); have n2_ := Aside0.mk (Kd.R_lower (Kd.R_new' ho0 (Kd.R_lt (by (with_reducible repeat (first | apply Kd.R_alloc | apply Kd.R_drewN | apply Kd.R_drew)); exact HO_5.out))) (below_size (by repeat (first | (with_reducible first | exact HB.out | apply below_alloc | apply pw_below_drewN | apply below_drew1) | exact HB.out)))); have n3_ := Aside0.mk (below_step (by repeat (first | (with_reducible first | exact HB.out | apply below_alloc | apply pw_below_drewN | apply below_drew1) | exact HB.out)) hb); clear HO_4; clear HO_5; clear HB; have HO_4 := n0_; have HO_5 := n1_; have HO490 := n2_; have HB := n3_; clear n0_ n1_ n2_ n3_; (try clear hb); (try clear ho0); obtain ⟨Ao21, co21, eo21⟩ := Kd.R_slice HO490.out; subst eo21))
         repeat (go_quiet (first | (go_at_call 15; (with_reducible refine (listing_Assemble.calls (rdOf ByteArray.empty t479 x8_1) t487 t488 _ A11.out).mono ?_); rintro e w20 ⟨v489, rfl, ho0, hb⟩; have n0_ := Aside0.mk (Kd.R_below (by (with_reducible repeat (first | apply Kd.R_alloc | apply Kd.R_drewN | apply Kd.R_drew)); exact HO_4.out) hb); have n1_ := Aside0.mk (Kd.R_elder' (by (with_reducible repeat (first | apply Kd.R_alloc | apply Kd.R_drewN | apply Kd.R_drew)); exact HO_5.out) (Kd.R_base ho0) hb); have n2_ := Aside0.mk (Kd.R_lower (Kd.R_new' ho0 (Kd.R_lt (by (with_reducible repeat (first | apply Kd.R_alloc | apply Kd.R_drewN | apply Kd.R_drew)); exact HO_5.out))) (below_size (by repeat (first | (with_reducible first | exact HB.out | apply below_alloc | apply pw_below_drewN | apply below_drew1) | exact HB.out)))); have n3_ := Aside0.mk (below_step (by repeat (first | (with_reducible first | exact HB.out | apply below_alloc | apply pw_below_drewN | apply below_drew1) | exact HB.out)) hb); clear HO_4; clear HO_5; clear HB; have HO_4 := n0_; have HO_5 := n1_; have HO490 := n2_; have HB := n3_; clear n0_ n1_ n2_ n3_; (try clear hb); (try clear ho0); obtain ⟨Ao21, co21, eo21⟩ := Kd.R_slice HO490.out; subst eo21)); try go_wp2_with (first | (go_at_call 15; (with_reducible refine (listing_Assemble.calls (rdOf ByteArray.empty t479 x8_1) t487 t488 _ A11.out).mono ?_); rintro e w20 ⟨v489, rfl, ho0, hb⟩; have n0_ := Aside0.mk (Kd.R_below (by (with_reducible repeat (first | apply Kd.R_alloc | apply Kd.R_drewN | apply Kd.R_drew)); exact HO_4.out) hb); have n1_ := Aside0.mk (Kd.R_elder' (by (with_reducible repeat (first | apply Kd.R_alloc | apply Kd.R_drewN | apply Kd.R_drew)); exact HO_5.out) (Kd.R_base ho0) hb); have n2_ := Aside0.mk (Kd.R_lower (Kd.R_new' ho0 (Kd.R_lt (by (with_reducible repeat (first | apply Kd.R_alloc | apply Kd.R_drewN | apply Kd.R_drew)); exact HO_5.out))) (below_size (by repeat (first | (with_reducible first | exact HB.out | apply below_alloc | apply pw_below_drewN | apply below_drew1) | exact HB.out)))); have n3_ := Aside0.mk (below_step (by repeat (first | (with_reducible first | exact HB.out | apply below_alloc | apply pw_below_drewN | apply below_drew1) | exact HB.out)) hb); clear HO_4; clear HO_5; clear HB; have HO_4 := n0_; have HO_5 := n1_; have HO490 := n2_; have HB := n3_; clear n0_ n1_ n2_ n3_; (try clear hb); (try clear ho0); obtain ⟨Ao21, co21, eo21⟩ := Kd.R_slice HO490.out; subst eo21)))
         go_ret
         exact ⟨by first | rfl | (simp [errW_none, errW_some] <;> rfl) | (simp [*, errW_none, errW_some] <;> rfl), by repeat (first | (with_reducible first | exact HB.out | apply below_alloc | apply pw_below_drewN | apply below_drew1) | exact HB.out)⟩
        ·rw [if_neg c19] at H
         have c19b0 : decide ((l0.length : Int) < (wrap64 (x7_1 + (t487.length : Int)))) = false := decide_eq_false c19
         clear c19
         by_cases c22 : 0 ≤ x7_1
         ·rw [if_pos c22] at H
          have c22b0 := eq_true c22
          have c22b1 : decide (0 ≤ x7_1) = true := decide_eq_true c22
          clear c22
          by_cases c23 : x7_1 ≤ (wrap64 (x7_1 + (t487.length : Int)))
          ·rw [if_pos c23] at H
           have c23b0 := eq_true c23
           have c23b1 : decide (x7_1 ≤ (wrap64 (x7_1 + (t487.length : Int)))) = true := decide_eq_true c23
           by_cases c24 : (wrap64 (x7_1 + (t487.length : Int))) ≤ (l0.length : Int)
           ·rw [if_pos c24] at H
            have c24b0 := eq_true c24
            have c24b1 : decide ((wrap64 (x7_1 + (t487.length : Int))) ≤ (l0.length : Int)) = true := decide_eq_true c24
            by_cases c25 : (strOfNums t487).toList = (strOfNums ((l0.take ((wrap64 (x7_1 + (t487.length : Int))) : Int).toNat).drop (x7_1 : Int).toNat)).toList
            ·rw [if_pos c25] at H
             have c25b0 : ((strOfNums t487).toList == (strOfNums ((l0.take ((wrap64 (x7_1 + (t487.length : Int))) : Int).toNat).drop (x7_1 : Int).toNat)).toList) = true := beq_iff_eq.mpr c25
             have c25b1 : ((strOfNums t487).toList != (strOfNums ((l0.take ((wrap64 (x7_1 + (t487.length : Int))) : Int).toNat).drop (x7_1 : Int).toNat)).toList) = false := bne_eq_false_iff_eq.mpr c25
             clear c25
             have H' := Aside0.mk H
             clear H
             have p486 : 0 ≤ (x8_1 : Int) := of_decide_eq_true (by first | (with_reducible assumption) | assumption)
             have q486 : x8_1 < (t479.length : Int) := of_decide_eq_true (by first | (with_reducible assumption) | assumption)
             obtain ⟨ad486, e486, hx486_0⟩ := Kd.at_string (Kd.R_reads' HO_4.out).2.2 x8_1 p486 q486
             cases e486
             replace p486 := eq_true p486
             replace q486 := eq_true q486
             go_wp2_with (first | (go_at_call 15; (with_reducible refine (listing_Assemble.calls (rdOf ByteArray.empty t479 x8_1) t487 t488 _ A11.out).mono ?_); rintro e w26 ⟨v489, rfl, ho0, hb⟩; have n0_ := Aside0.mk (Kd.R_below (by (with_reducible repeat (first | apply Kd.R_alloc | apply Kd.R_drewN | apply Kd.R_drew)); exact HO_4.out) hb); have n1_ := Aside0.mk (Kd.R_elder' (by (with_reducible repeat (first | apply Kd.R_alloc | apply Kd.R_drewN | apply Kd.R_drew)); exact HO_5.out) (Kd.R_base ho0) hb); have n2_ := Aside0.mk (Kd.R_lower (Kd.R_new' ho0 (Kd.R_lt (by (with_reducible repeat (first | apply Kd.R_alloc | apply Kd.R_drewN | apply Kd.R_drew)); exact HO_5.out))) (below_size (by repeat (first | (with_reducible first | exact HB.out | apply below_alloc | apply pw_below_drewN | apply below_drew1) | exact HB.out)))); have n3_ := Aside0.mk (below_step (by repeat (first | (with_reducible first | exact HB.out | apply below_alloc | apply pw_below_drewN | apply below_drew1) | exact HB.out)) hb); clear HO_4; clear HO_5; clear HB; have HO_4 := n0_; have HO_5 := n1_; have HO490 := n2_; have HB := n3_; clear n0_ n1_ n2_ n3_; (try clear hb); (try clear ho0); obtain ⟨Ao27, co27, eo27⟩ := Kd.R_slice HO490.out; subst eo27; have hcv28 := own_string (P := Tryd.prog) Tryd.underlying27 Tryd.underlying5 Tryd.underlying9 (Kd.own_of_R HO490.out); have hcv28q := fun n_ => own_string (P := Tryd.prog) Tryd.underlying27 Tryd.underlying5 Tryd.underlying9 (pw_own_drewN (Kd.own_of_R HO490.out) n_); obtain ⟨i029, hi029, _, hsz29, _⟩ := info_parts info5; obtain ⟨A29, hcut29, hA29, hC29⟩ := print_mid_of (P := Tryd.prog) (Value.int .u8) 0 27 5 .i64 .i64 Tryd.underlying27 hi029 hsz29 A0 c0 l0 x7_1 (wrap64 (x7_1 + (t487.length : Int))) (of_decide_eq_true (by first | (with_reducible assumption) | assumption)) (by first | omega | exact of_decide_eq_true (by first | (with_reducible assumption) | assumption)) (of_decide_eq_true (by first | (with_reducible assumption) | assumption)) HC0.out; have HR491 := Aside0.mk (Kd.C_of_reads (h1 := fun _ => rfl) (hA29 _ (Kd.reads_of_C HR0.out))); have HC491 := Aside0.mk hC29; clear hA29 hC29 hi029 hsz29; have hcv30 := Kd.C_string (P := Tryd.prog) (A := A29) (c := (c0 - x7_1.toNat)) Tryd.underlying27 Tryd.underlying5 Tryd.underlying9 (Kd.C_below HR491.out HB.out); have hcv30l : (List.drop (x7_1 : Int).toNat (List.take ((wrap64 (x7_1 + (t487.length : Int))) : Int).toNat l0)).length = ((wrap64 (x7_1 + (t487.length : Int))) : Int).toNat - (x7_1 : Int).toNat := (by (have hle_ : (wrap64 (x7_1 + (t487.length : Int))) ≤ (l0.length : Int) := of_decide_eq_true (by first | (with_reducible assumption) | assumption)); (rw [List.length_drop, List.length_take]; omega)); have hcv30q := fun n_ => Kd.C_string (P := Tryd.prog) (A := A29) (c := (c0 - x7_1.toNat)) Tryd.underlying27 Tryd.underlying5 Tryd.underlying9 (Kd.C_drewN (Kd.C_below HR491.out HB.out) n_); simp only [hcv30l] at hcv30q))
             repeat (go_quiet (first | (go_at_call 15; (with_reducible refine (listing_Assemble.calls (rdOf ByteArray.empty t479 x8_1) t487 t488 _ A11.out).mono ?_); rintro e w26 ⟨v489, rfl, ho0, hb⟩; have n0_ := Aside0.mk (Kd.R_below (by (with_reducible repeat (first | apply Kd.R_alloc | apply Kd.R_drewN | apply Kd.R_drew)); exact HO_4.out) hb); have n1_ := Aside0.mk (Kd.R_elder' (by (with_reducible repeat (first | apply Kd.R_alloc | apply Kd.R_drewN | apply Kd.R_drew)); exact HO_5.out) (Kd.R_base ho0) hb); have n2_ := Aside0.mk (Kd.R_lower (Kd.R_new' ho0 (Kd.R_lt (by (with_reducible repeat (first | apply Kd.R_alloc | apply Kd.R_drewN | apply Kd.R_drew)); exact HO_5.out))) (below_size (by repeat (first | (with_reducible first | exact HB.out | apply below_alloc | apply pw_below_drewN | apply below_drew1) | exact HB.out)))); have n3_ := Aside0.mk (below_step (by repeat (first | (with_reducible first | exact HB.out | apply below_alloc | apply pw_below_drewN | apply below_drew1) | exact HB.out)) hb); clear HO_4; clear HO_5; clear HB; have HO_4 := n0_; have HO_5 := n1_; have HO490 := n2_; have HB := n3_; clear n0_ n1_ n2_ n3_; (try clear hb); (try clear ho0); obtain ⟨Ao27, co27, eo27⟩ := Kd.R_slice HO490.out; subst eo27; have hcv28 := own_string (P := Tryd.prog) Tryd.underlying27 Tryd.underlying5 Tryd.underlying9 (Kd.own_of_R HO490.out); have hcv28q := fun n_ => own_string (P := Tryd.prog) Tryd.underlying27 Tryd.underlying5 Tryd.underlying9 (pw_own_drewN (Kd.own_of_R HO490.out) n_); obtain ⟨i029, hi029, _, hsz29, _⟩ := info_parts info5; obtain ⟨A29, hcut29, hA29, hC29⟩ := print_mid_of (P := Tryd.prog) (Value.int .u8) 0 27 5 .i64 .i64 Tryd.underlying27 hi029 hsz29 A0 c0 l0 x7_1 (wrap64 (x7_1 + (t487.length : Int))) (of_decide_eq_true (by first | (with_reducible assumption) | assumption)) (by first | omega | exact of_decide_eq_true (by first | (with_reducible assumption) | assumption)) (of_decide_eq_true (by first | (with_reducible assumption) | assumption)) HC0.out; have HR491 := Aside0.mk (Kd.C_of_reads (h1 := fun _ => rfl) (hA29 _ (Kd.reads_of_C HR0.out))); have HC491 := Aside0.mk hC29; clear hA29 hC29 hi029 hsz29; have hcv30 := Kd.C_string (P := Tryd.prog) (A := A29) (c := (c0 - x7_1.toNat)) Tryd.underlying27 Tryd.underlying5 Tryd.underlying9 (Kd.C_below HR491.out HB.out); have hcv30l : (List.drop (x7_1 : Int).toNat (List.take ((wrap64 (x7_1 + (t487.length : Int))) : Int).toNat l0)).length = ((wrap64 (x7_1 + (t487.length : Int))) : Int).toNat - (x7_1 : Int).toNat := (by (have hle_ : (wrap64 (x7_1 + (t487.length : Int))) ≤ (l0.length : Int) := of_decide_eq_true (by first | (with_reducible assumption) | assumption)); (rw [List.length_drop, List.length_take]; omega)); have hcv30q := fun n_ => Kd.C_string (P := Tryd.prog) (A := A29) (c := (c0 - x7_1.toNat)) Tryd.underlying27 Tryd.underlying5 Tryd.underlying9 (Kd.C_drewN (Kd.C_below HR491.out HB.out) n_); simp only [hcv30l] at hcv30q)); try go_wp2_with (first | (go_at_call 15; (with_reducible refine (listing_Assemble.calls (rdOf ByteArray.empty t479 x8_1) t487 t488 _ A11.out).mono ?_); rintro e w26 ⟨v489, rfl, ho0, hb⟩; have n0_ := Aside0.mk (Kd.R_below (by (with_reducible repeat (first | apply Kd.R_alloc | apply Kd.R_drewN | apply Kd.R_drew)); exact HO_4.out) hb); have n1_ := Aside0.mk (Kd.R_elder' (by (with_reducible repeat (first | apply Kd.R_alloc | apply Kd.R_drewN | apply Kd.R_drew)); exact HO_5.out) (Kd.R_base ho0) hb); have n2_ := Aside0.mk (Kd.R_lower (Kd.R_new' ho0 (Kd.R_lt (by (with_reducible repeat (first | apply Kd.R_alloc | apply Kd.R_drewN | apply Kd.R_drew)); exact HO_5.out))) (below_size (by repeat (first | (with_reducible first | exact HB.out | apply below_alloc | apply pw_below_drewN | apply below_drew1) | exact HB.out)))); have n3_ := Aside0.mk (below_step (by repeat (first | (with_reducible first | exact HB.out | apply below_alloc | apply pw_below_drewN | apply below_drew1) | exact HB.out)) hb); clear HO_4; clear HO_5; clear HB; have HO_4 := n0_; have HO_5 := n1_; have HO490 := n2_; have HB := n3_; clear n0_ n1_ n2_ n3_; (try clear hb); (try clear ho0); obtain ⟨Ao27, co27, eo27⟩ := Kd.R_slice HO490.out; subst eo27; have hcv28 := own_string (P := Tryd.prog) Tryd.underlying27 Tryd.underlying5 Tryd.underlying9 (Kd.own_of_R HO490.out); have hcv28q := fun n_ => own_string (P := Tryd.prog) Tryd.underlying27 Tryd.underlying5 Tryd.underlying9 (pw_own_drewN (Kd.own_of_R HO490.out) n_); obtain ⟨i029, hi029, _, hsz29, _⟩ := info_parts info5; obtain ⟨A29, hcut29, hA29, hC29⟩ := print_mid_of (P := Tryd.prog) (Value.int .u8) 0 27 5 .i64 .i64 Tryd.underlying27 hi029 hsz29 A0 c0 l0 x7_1 (wrap64 (x7_1 + (t487.length : Int))) (of_decide_eq_true (by first | (with_reducible assumption) | assumption)) (by first | omega | exact of_decide_eq_true (by first | (with_reducible assumption) | assumption)) (of_decide_eq_true (by first | (with_reducible assumption) | assumption)) HC0.out; have HR491 := Aside0.mk (Kd.C_of_reads (h1 := fun _ => rfl) (hA29 _ (Kd.reads_of_C HR0.out))); have HC491 := Aside0.mk hC29; clear hA29 hC29 hi029 hsz29; have hcv30 := Kd.C_string (P := Tryd.prog) (A := A29) (c := (c0 - x7_1.toNat)) Tryd.underlying27 Tryd.underlying5 Tryd.underlying9 (Kd.C_below HR491.out HB.out); have hcv30l : (List.drop (x7_1 : Int).toNat (List.take ((wrap64 (x7_1 + (t487.length : Int))) : Int).toNat l0)).length = ((wrap64 (x7_1 + (t487.length : Int))) : Int).toNat - (x7_1 : Int).toNat := (by (have hle_ : (wrap64 (x7_1 + (t487.length : Int))) ≤ (l0.length : Int) := of_decide_eq_true (by first | (with_reducible assumption) | assumption)); (rw [List.length_drop, List.length_take]; omega)); have hcv30q := fun n_ => Kd.C_string (P := Tryd.prog) (A := A29) (c := (c0 - x7_1.toNat)) Tryd.underlying27 Tryd.underlying5 Tryd.underlying9 (Kd.C_drewN (Kd.C_below HR491.out HB.out) n_); simp only [hcv30l] at hcv30q)))
             go_roundg k1
             case measure => have := HK1.out; omega
             case rel => exact ⟨(wrap64 (x7_1 + (t487.length : Int))), (wrap64 (x8_1 + 1)), (by first | rfl | (simp; done) | (simp [*]; done)), (by first | rfl | (simp; done) | (simp [*]; done)), H', ⟨by have := HK1.out; omega⟩, ⟨by (with_reducible repeat (first | apply Kd.R_alloc | apply Kd.R_drewN | apply Kd.R_drew)); exact HO_4.out⟩, ⟨by (with_reducible repeat (first | apply Kd.R_alloc | apply Kd.R_drewN | apply Kd.R_drew)); exact Kd.R_mono HO_5.out (fun _ hk => trivial)⟩, ⟨by repeat (first | (with_reducible first | exact HB.out | apply below_alloc | apply pw_below_drewN | apply below_drew1) | exact HB.out)⟩⟩
            ·rw [if_neg c25] at H
             have c25b0 : ((strOfNums t487).toList == (strOfNums ((l0.take ((wrap64 (x7_1 + (t487.length : Int))) : Int).toNat).drop (x7_1 : Int).toNat)).toList) = false := beq_eq_false_iff_ne.mpr c25
             have c25b1 : ((strOfNums t487).toList != (strOfNums ((l0.take ((wrap64 (x7_1 + (t487.length : Int))) : Int).toNat).drop (x7_1 : Int).toNat)).toList) = true := bne_iff_ne.mpr c25
             obtain rfl := Option.some.inj H
             have p486 : 0 ≤ (x8_1 : Int) := of_decide_eq_true (by first | (with_reducible assumption) | assumption)
             have q486 : x8_1 < (t479.length : Int) := of_decide_eq_true (by first | (with_reducible assumption) | assumption)
             obtain ⟨ad486, e486, hx486_0⟩ := Kd.at_string (Kd.R_reads' HO_4.out).2.2 x8_1 p486 q486
             cases e486
             replace p486 := eq_true p486
             replace q486 := eq_true q486
             go_wp2_with (first | (go_at_call 15; (with_reducible refine (listing_Assemble.calls (rdOf ByteArray.empty t479 x8_1) t487 t488 _ A11.out).mono ?_); rintro e w31 ⟨v489, rfl, ho0, hb⟩; have n0_ := Aside0.mk (Kd.R_below (by (with_reducible repeat (first | apply Kd.R_alloc | apply Kd.R_drewN | apply Kd.R_drew)); exact HO_4.out) hb); have n1_ := Aside0.mk (Kd.R_elder' (by (with_reducible repeat (first | apply Kd.R_alloc | apply Kd.R_drewN | apply Kd.R_drew)); exact HO_5.out) (Kd.R_base ho0) hb); have n2_ := Aside0.mk (Kd.R_lower (Kd.R_new' ho0 (Kd.R_lt (by (with_reducible repeat (first | apply Kd.R_alloc | apply Kd.R_drewN | apply Kd.R_drew)); exact HO_5.out))) (below_size (by repeat (first | (with_reducible first | exact HB.out | apply below_alloc | apply pw_below_drewN | apply below_drew1) | exact HB.out)))); have n3_ := Aside0.mk (below_step (by repeat (first | (with_reducible first | exact HB.out | apply below_alloc | apply pw_below_drewN | apply below_drew1) | exact HB.out)) hb); clear HO_4; clear HO_5; clear HB; have HO_4 := n0_; have HO_5 := n1_; have HO490 := n2_; have HB := n3_; clear n0_ n1_ n2_ n3_; (try clear hb); (try clear ho0); obtain ⟨Ao32, co32, eo32⟩ := Kd.R_slice HO490.out; subst eo32; have hcv33 := own_string (P := Tryd.prog) Tryd.underlying27 Tryd.underlying5 Tryd.underlying9 (Kd.own_of_R HO490.out); have hcv33q := fun n_ => own_string (P := Tryd.prog) Tryd.underlying27 Tryd.underlying5 Tryd.underlying9 (pw_own_drewN (Kd.own_of_R HO490.out) n_); obtain ⟨i034, hi034, _, hsz34, _⟩ := info_parts info5; obtain ⟨A34, hcut34, hA34, hC34⟩ := print_mid_of (P := Tryd.prog) (Value.int .u8) 0 27 5 .i64 .i64 Tryd.underlying27 hi034 hsz34 A0 c0 l0 x7_1 (wrap64 (x7_1 + (t487.length : Int))) (of_decide_eq_true (by first | (with_reducible assumption) | assumption)) (by first | omega | exact of_decide_eq_true (by first | (with_reducible assumption) | assumption)) (of_decide_eq_true (by first | (with_reducible assumption) | assumption)) HC0.out; have HR491 := Aside0.mk (Kd.C_of_reads (h1 := fun _ => rfl) (hA34 _ (Kd.reads_of_C HR0.out))); have HC491 := Aside0.mk hC34; clear hA34 hC34 hi034 hsz34; have hcv35 := Kd.C_string (P := Tryd.prog) (A := A34) (c := (c0 - x7_1.toNat)) Tryd.underlying27 Tryd.underlying5 Tryd.underlying9 (Kd.C_below HR491.out HB.out); have hcv35l : (List.drop (x7_1 : Int).toNat (List.take ((wrap64 (x7_1 + (t487.length : Int))) : Int).toNat l0)).length = ((wrap64 (x7_1 + (t487.length : Int))) : Int).toNat - (x7_1 : Int).toNat := (by (have hle_ : (wrap64 (x7_1 + (t487.length : Int))) ≤ (l0.length : Int) := of_decide_eq_true (by first | (with_reducible assumption) | assumption)); (rw [List.length_drop, List.length_take]; omega)); have hcv35q := fun n_ => Kd.C_string (P := Tryd.prog) (A := A34) (c := (c0 - x7_1.toNat)) Tryd.underlying27 Tryd.underlying5 Tryd.underlying9 (Kd.C_drewN (Kd.C_below HR491.out HB.out) n_); simp only [hcv35l] at hcv35q))
             repeat (go_quiet (first | (go_at_call 15; (with_reducible refine (listing_Assemble.calls (rdOf ByteArray.empty t479 x8_1) t487 t488 _ A11.out).mono ?_); rintro e w31 ⟨v489, rfl, ho0, hb⟩; have n0_ := Aside0.mk (Kd.R_below (by (with_reducible repeat (first | apply Kd.R_alloc | apply Kd.R_drewN | apply Kd.R_drew)); exact HO_4.out) hb); have n1_ := Aside0.mk (Kd.R_elder' (by (with_reducible repeat (first | apply Kd.R_alloc | apply Kd.R_drewN | apply Kd.R_drew)); exact HO_5.out) (Kd.R_base ho0) hb); have n2_ := Aside0.mk (Kd.R_lower (Kd.R_new' ho0 (Kd.R_lt (by (with_reducible repeat (first | apply Kd.R_alloc | apply Kd.R_drewN | apply Kd.R_drew)); exact HO_5.out))) (below_size (by repeat (first | (with_reducible first | exact HB.out | apply below_alloc | apply pw_below_drewN | apply below_drew1) | exact HB.out)))); have n3_ := Aside0.mk (below_step (by repeat (first | (with_reducible first | exact HB.out | apply below_alloc | apply pw_below_drewN | apply below_drew1) | exact HB.out)) hb); clear HO_4; clear HO_5; clear HB; have HO_4 := n0_; have HO_5 := n1_; have HO490 := n2_; have HB := n3_; clear n0_ n1_ n2_ n3_; (try clear hb); (try clear ho0); obtain ⟨Ao32, co32, eo32⟩ := Kd.R_slice HO490.out; subst eo32; have hcv33 := own_string (P := Tryd.prog) Tryd.underlying27 Tryd.underlying5 Tryd.underlying9 (Kd.own_of_R HO490.out); have hcv33q := fun n_ => own_string (P := Tryd.prog) Tryd.underlying27 Tryd.underlying5 Tryd.underlying9 (pw_own_drewN (Kd.own_of_R HO490.out) n_); obtain ⟨i034, hi034, _, hsz34, _⟩ := info_parts info5; obtain ⟨A34, hcut34, hA34, hC34⟩ := print_mid_of (P := Tryd.prog) (Value.int .u8) 0 27 5 .i64 .i64 Tryd.underlying27 hi034 hsz34 A0 c0 l0 x7_1 (wrap64 (x7_1 + (t487.length : Int))) (of_decide_eq_true (by first | (with_reducible assumption) | assumption)) (by first | omega | exact of_decide_eq_true (by first | (with_reducible assumption) | assumption)) (of_decide_eq_true (by first | (with_reducible assumption) | assumption)) HC0.out; have HR491 := Aside0.mk (Kd.C_of_reads (h1 := fun _ => rfl) (hA34 _ (Kd.reads_of_C HR0.out))); have HC491 := Aside0.mk hC34; clear hA34 hC34 hi034 hsz34; have hcv35 := Kd.C_string (P := Tryd.prog) (A := A34) (c := (c0 - x7_1.toNat)) Tryd.underlying27 Tryd.underlying5 Tryd.underlying9 (Kd.C_below HR491.out HB.out); have hcv35l : (List.drop (x7_1 : Int).toNat (List.take ((wrap64 (x7_1 + (t487.length : Int))) : Int).toNat l0)).length = ((wrap64 (x7_1 + (t487.length : Int))) : Int).toNat - (x7_1 : Int).toNat := (by (have hle_ : (wrap64 (x7_1 + (t487.length : Int))) ≤ (l0.length : Int) := of_decide_eq_true (by first | (with_reducible assumption) | assumption)); (rw [List.length_drop, List.length_take]; omega)); have hcv35q := fun n_ => Kd.C_string (P := Tryd.prog) (A := A34) (c := (c0 - x7_1.toNat)) Tryd.underlying27 Tryd.underlying5 Tryd.underlying9 (Kd.C_drewN (Kd.C_below HR491.out HB.out) n_); simp only [hcv35l] at hcv35q)); try go_wp2_with (first | (go_at_call 15; (with_reducible refine (listing_Assemble.calls (rdOf ByteArray.empty t479 x8_1) t487 t488 _ A11.out).mono ?_); rintro e w31 ⟨v489, rfl, ho0, hb⟩; have n0_ := Aside0.mk (Kd.R_below (by (with_reducible repeat (first | apply Kd.R_alloc | apply Kd.R_drewN | apply Kd.R_drew)); exact HO_4.out) hb); have n1_ := Aside0.mk (Kd.R_elder' (by (with_reducible repeat (first | apply Kd.R_alloc | apply Kd.R_drewN | apply Kd.R_drew)); exact HO_5.out) (Kd.R_base ho0) hb); have n2_ := Aside0.mk (Kd.R_lower (Kd.R_new' ho0 (Kd.R_lt (by (with_reducible repeat (first | apply Kd.R_alloc | apply Kd.R_drewN | apply Kd.R_drew)); exact HO_5.out))) (below_size (by repeat (first | (with_reducible first | exact HB.out | apply below_alloc | apply pw_below_drewN | apply below_drew1) | exact HB.out)))); have n3_ := Aside0.mk (below_step (by repeat (first | (with_reducible first | exact HB.out | apply below_alloc | apply pw_below_drewN | apply below_drew1) | exact HB.out)) hb); clear HO_4; clear HO_5; clear HB; have HO_4 := n0_; have HO_5 := n1_; have HO490 := n2_; have HB := n3_; clear n0_ n1_ n2_ n3_; (try clear hb); (try clear ho0); obtain ⟨Ao32, co32, eo32⟩ := Kd.R_slice HO490.out; subst eo32; have hcv33 := own_string (P := Tryd.prog) Tryd.underlying27 Tryd.underlying5 Tryd.underlying9 (Kd.own_of_R HO490.out); have hcv33q := fun n_ => own_string (P := Tryd.prog) Tryd.underlying27 Tryd.underlying5 Tryd.underlying9 (pw_own_drewN (Kd.own_of_R HO490.out) n_); obtain ⟨i034, hi034, _, hsz34, _⟩ := info_parts info5; obtain ⟨A34, hcut34, hA34, hC34⟩ := print_mid_of (P := Tryd.prog) (Value.int .u8) 0 27 5 .i64 .i64 Tryd.underlying27 hi034 hsz34 A0 c0 l0 x7_1 (wrap64 (x7_1 + (t487.length : Int))) (of_decide_eq_true (by first | (with_reducible assumption) | assumption)) (by first | omega | exact of_decide_eq_true (by first | (with_reducible assumption) | assumption)) (of_decide_eq_true (by first | (with_reducible assumption) | assumption)) HC0.out; have HR491 := Aside0.mk (Kd.C_of_reads (h1 := fun _ => rfl) (hA34 _ (Kd.reads_of_C HR0.out))); have HC491 := Aside0.mk hC34; clear hA34 hC34 hi034 hsz34; have hcv35 := Kd.C_string (P := Tryd.prog) (A := A34) (c := (c0 - x7_1.toNat)) Tryd.underlying27 Tryd.underlying5 Tryd.underlying9 (Kd.C_below HR491.out HB.out); have hcv35l : (List.drop (x7_1 : Int).toNat (List.take ((wrap64 (x7_1 + (t487.length : Int))) : Int).toNat l0)).length = ((wrap64 (x7_1 + (t487.length : Int))) : Int).toNat - (x7_1 : Int).toNat := (by (have hle_ : (wrap64 (x7_1 + (t487.length : Int))) ≤ (l0.length : Int) := of_decide_eq_true (by first | (with_reducible assumption) | assumption)); (rw [List.length_drop, List.length_take]; omega)); have hcv35q := fun n_ => Kd.C_string (P := Tryd.prog) (A := A34) (c := (c0 - x7_1.toNat)) Tryd.underlying27 Tryd.underlying5 Tryd.underlying9 (Kd.C_drewN (Kd.C_below HR491.out HB.out) n_); simp only [hcv35l] at hcv35q)))
             go_ret
             exact ⟨by first | rfl | (simp [errW_none, errW_some] <;> rfl) | (simp [*, errW_none, errW_some] <;> rfl), by repeat (first | (with_reducible first | exact HB.out | apply below_alloc | apply pw_below_drewN | apply below_drew1) | exact HB.out)⟩
           ·rw [if_neg c24] at H
            exact absurd H (by simp)
          ·rw [if_neg c23] at H
           exact absurd H (by simp)
         ·rw [if_neg c22] at H
          exact absurd H (by simp)
     ·rw [if_neg c12] at H
      have c12b0 : (t488 == 0) = false := beq_eq_false_iff_ne.mpr c12
      have c12b1 : (t488 != 0) = true := bne_iff_ne.mpr c12
      obtain rfl := Option.some.inj H
      have p486 : 0 ≤ (x8_1 : Int) := of_decide_eq_true (by first | (with_reducible assumption) | assumption)
      have q486 : x8_1 < (t479.length : Int) := of_decide_eq_true (by first | (with_reducible assumption) | assumption)
      obtain ⟨ad486, e486, hx486_0⟩ := Kd.at_string (Kd.R_reads' HO_4.out).2.2 x8_1 p486 q486
      cases e486
      replace p486 := eq_true p486
      replace q486 := eq_true q486
      go_wp2_with (first | (go_at_call 15; (with_reducible refine (listing_Assemble.calls (rdOf ByteArray.empty t479 x8_1) t487 t488 _ A11.out).mono ?_); rintro e w36 ⟨v489, rfl, ho0, hb⟩; have n0_ := Aside0.mk (Kd.R_below (by (with_reducible repeat (first | apply Kd.R_alloc | apply Kd.R_drewN | apply Kd.R_drew)); exact HO_4.out) hb); have n1_ := Aside0.mk (Kd.R_elder' (by (with_reducible repeat (first | apply Kd.R_alloc | apply Kd.R_drewN | apply Kd.R_drew)); exact HO_5.out) (Kd.R_base ho0) hb); have n2_ := Aside0.mk (Kd.R_lower (Kd.R_new' ho0 (Kd.R_lt (by (with_reducible repeat (first | apply Kd.R_alloc | apply Kd.R_drewN | apply Kd.R_drew)); exact HO_5.out))) (below_size (by repeat (first | (with_reducible first | exact HB.out | apply below_alloc | apply pw_below_drewN | apply below_drew1) | exact HB.out)))); have n3_ := Aside0.mk (below_step (by repeat (first | (with_reducible first | exact HB.out | apply below_alloc | apply pw_below_drewN | apply below_drew1) | exact HB.out)) hb); clear HO_4; clear HO_5; clear HB; have HO_4 := n0_; have HO_5 := n1_; have HO490 := n2_; have HB := n3_; clear n0_ n1_ n2_ n3_; (try clear hb); (try clear ho0)))
      repeat (go_quiet (first | (go_at_call 15; (with_reducible refine (listing_Assemble.calls (rdOf ByteArray.empty t479 x8_1) t487 t488 _ A11.out).mono ?_); rintro e w36 ⟨v489, rfl, ho0, hb⟩; have n0_ := Aside0.mk (Kd.R_below (by (with_reducible repeat (first | apply Kd.R_alloc | apply Kd.R_drewN | apply Kd.R_drew)); exact HO_4.out) hb); have n1_ := Aside0.mk (Kd.R_elder' (by (with_reducible repeat (first | apply Kd.R_alloc | apply Kd.R_drewN | apply Kd.R_drew)); exact HO_5.out) (Kd.R_base ho0) hb); have n2_ := Aside0.mk (Kd.R_lower (Kd.R_new' ho0 (Kd.R_lt (by (with_reducible repeat (first | apply Kd.R_alloc | apply Kd.R_drewN | apply Kd.R_drew)); exact HO_5.out))) (below_size (by repeat (first | (with_reducible first | exact HB.out | apply below_alloc | apply pw_below_drewN | apply below_drew1) | exact HB.out)))); have n3_ := Aside0.mk (below_step (by repeat (first | (with_reducible first | exact HB.out | apply below_alloc | apply pw_below_drewN | apply below_drew1) | exact HB.out)) hb); clear HO_4; clear HO_5; clear HB; have HO_4 := n0_; have HO_5 := n1_; have HO490 := n2_; have HB := n3_; clear n0_ n1_ n2_ n3_; (try clear hb); (try clear ho0))); try go_wp2_with (first | (go_at_call 15; (with_reducible refine (listing_Assemble.calls (rdOf ByteArray.empty t479 x8_1) t487 t488 _ A11.out).mono ?_); rintro e w36 ⟨v489, rfl, ho0, hb⟩; have n0_ := Aside0.mk (Kd.R_below (by (with_reducible repeat (first | apply Kd.R_alloc | apply Kd.R_drewN | apply Kd.R_drew)); exact HO_4.out) hb); have n1_ := Aside0.mk (Kd.R_elder' (by (with_reducible repeat (first | apply Kd.R_alloc | apply Kd.R_drewN | apply Kd.R_drew)); exact HO_5.out) (Kd.R_base ho0) hb); have n2_ := Aside0.mk (Kd.R_lower (Kd.R_new' ho0 (Kd.R_lt (by (with_reducible repeat (first | apply Kd.R_alloc | apply Kd.R_drewN | apply Kd.R_drew)); exact HO_5.out))) (below_size (by repeat (first | (with_reducible first | exact HB.out | apply below_alloc | apply pw_below_drewN | apply below_drew1) | exact HB.out)))); have n3_ := Aside0.mk (below_step (by repeat (first | (with_reducible first | exact HB.out | apply below_alloc | apply pw_below_drewN | apply below_drew1) | exact HB.out)) hb); clear HO_4; clear HO_5; clear HB; have HO_4 := n0_; have HO_5 := n1_; have HO490 := n2_; have HB := n3_; clear n0_ n1_ n2_ n3_; (try clear hb); (try clear ho0))))
      go_ret
      exact ⟨by first | rfl | (simp [errW_none, errW_some] <;> rfl) | (simp [*, errW_none, errW_some] <;> rfl), by repeat (first | (with_reducible first | exact HB.out | apply below_alloc | apply pw_below_drewN | apply below_drew1) | exact HB.out)⟩
    ·rw [if_neg c10] at H
     exact absurd H (by simp)
   ·rw [if_neg c9] at H
    have c9b0 : decide (x8_1 < (t479.length : Int)) = false := decide_eq_false c9
    clear c9
    by_cases c37 : t478 = true
    ·subst c37
     rw [if_pos rfl] at H
     by_cases c38 : (strOfNums t482).toList = (strOfNums l0).toList
     ·rw [if_pos c38] at H
      have c38b0 : ((strOfNums t482).toList == (strOfNums l0).toList) = true := beq_iff_eq.mpr c38
      have c38b1 : ((strOfNums t482).toList != (strOfNums l0).toList) = false := bne_eq_false_iff_eq.mpr c38
      clear c38
      by_cases c39 : t483 = 0
      ·rw [if_pos c39] at H
       have c39b0 : (t483 == 0) = true := beq_iff_eq.mpr c39
       have c39b1 : (t483 != 0) = false := bne_eq_false_iff_eq.mpr c39
       clear c39
       obtain rfl := Option.some.inj H
       have hcv40 := own_string (P := Tryd.prog) Tryd.underlying27 Tryd.underlying5 Tryd.underlying9 (Kd.own_of_R HO_5.out)
       have hcv41 := Kd.C_string (P := Tryd.prog) (A := A0) (c := c0) Tryd.underlying27 Tryd.underlying5 Tryd.underlying9 (Kd.C_below HR0.out HB.out)
       go_wp2
       repeat (go_quiet (fail); try go_wp2)
       go_ret
       exact ⟨by first | rfl | (simp [errW_none, errW_some] <;> rfl) | (simp [*, errW_none, errW_some] <;> rfl), by repeat (first | (with_reducible first | exact HB.out | apply below_alloc | apply pw_below_drewN | apply below_drew1) | exact HB.out)⟩
      ·rw [if_neg c39] at H
       have c39b0 : (t483 == 0) = false := beq_eq_false_iff_ne.mpr c39
       have c39b1 : (t483 != 0) = true := bne_iff_ne.mpr c39
       obtain rfl := Option.some.inj H
       have hcv42 := own_string (P := Tryd.prog) Tryd.underlying27 Tryd.underlying5 Tryd.underlying9 (Kd.own_of_R HO_5.out)
       have hcv43 := Kd.C_string (P := Tryd.prog) (A := A0) (c := c0) Tryd.underlying27 Tryd.underlying5 Tryd.underlying9 (Kd.C_below HR0.out HB.out)
       go_wp2
       repeat (go_quiet (fail); try go_wp2)
       go_ret
       exact ⟨by first | rfl | (simp [errW_none, errW_some] <;> rfl) | (simp [*, errW_none, errW_some] <;> rfl), by repeat (first | (with_reducible first | exact HB.out | apply below_alloc | apply pw_below_drewN | apply below_drew1) | exact HB.out)⟩
     ·rw [if_neg c38] at H
      have c38b0 : ((strOfNums t482).toList == (strOfNums l0).toList) = false := beq_eq_false_iff_ne.mpr c38
      have c38b1 : ((strOfNums t482).toList != (strOfNums l0).toList) = true := bne_iff_ne.mpr c38
      obtain rfl := Option.some.inj H
      have hcv44 := own_string (P := Tryd.prog) Tryd.underlying27 Tryd.underlying5 Tryd.underlying9 (Kd.own_of_R HO_5.out)
      have hcv45 := Kd.C_string (P := Tryd.prog) (A := A0) (c := c0) Tryd.underlying27 Tryd.underlying5 Tryd.underlying9 (Kd.C_below HR0.out HB.out)
      go_wp2
      repeat (go_quiet (fail); try go_wp2)
      go_ret
      exact ⟨by first | rfl | (simp [errW_none, errW_some] <;> rfl) | (simp [*, errW_none, errW_some] <;> rfl), by repeat (first | (with_reducible first | exact HB.out | apply below_alloc | apply pw_below_drewN | apply below_drew1) | exact HB.out)⟩
    ·replace c37 := Bool.eq_false_iff.mpr c37
     subst c37
     have H1 : (some false) = some r := by rw [if_neg (show ¬ (false = true) by decide)] at H; exact H
     clear H
     have H := H1
     clear H1
     obtain rfl := Option.some.inj H
     go_wp2
     repeat (go_quiet (fail); try go_wp2)
     go_ret
     exact ⟨by first | rfl | (simp [errW_none, errW_some] <;> rfl) | (simp [*, errW_none, errW_some] <;> rfl), by repeat (first | (with_reducible first | exact HB.out | apply below_alloc | apply pw_below_drewN | apply below_drew1) | exact HB.out)⟩

/-- THE ONE PURE STATEMENT of whirligiglaw06_ListingBack: yours. -/
def whirligiglaw06_ListingBack.Pure : Prop := ∀ (l0 : List Int), l0.length ≤ maxLen → l0.length * 1 ≤ 140737488351232 → (∀ x ∈ l0, (Lit.int .u8 x).wf = true) → ∃ k, whirligiglaw06_ListingBack.f k l0 = some true
theorem whirligiglaw06_ListingBack.walk (P : whirligiglaw06_ListingBack.Pure) (a0 : Option Addr) (len0 cap0 : Nat) (z0 : List Int) (w : World) (w0 : (a0 = none ∧ len0 = 0 ∧ cap0 = 0 ∧ z0 = []) ∨ ∃ x, a0 = some x ∧ len0 ≤ cap0 ∧ cap0 ≤ maxLen ∧ z0.length = cap0 ∧ (∀ i, i < z0.length → w.cell? (x.add i) = some (.int .u8 (z0.getD i 0))) ∧ ∀ n ∈ z0, (Lit.int .u8 n).wf = true) (y0 : len0 * 1 ≤ 140737488351232) :
  Calls Tryd.prog 9 #[.slice a0 len0 cap0] w fun e w' => e = .returned (.bool true) ∧ Below w.heap.size w w' := by
 obtain ⟨l0, rfl, hr0, hm0, hw0, hc0⟩ := ReadsInt.ofRowC w0
 obtain ⟨k, h⟩ := P l0 hm0 y0 hw0
 refine (whirligiglaw06_ListingBack.calls k _ _ l0 true w (Kd.C_of_reads (d := (0 : Int)) (h1 := fun _ => rfl) hr0) hc0 h).mono ?_
 rintro e w' ⟨rfl, hd⟩
 exact ⟨rfl, hd⟩

end Go.Proofs.YtpjbfpheenamiaaDoor.PF
/- The plain law of ListingBack, second form: for every list of no more than 1048576 bytes the lines are assembled to them again. -/
namespace Go.Proofs.YtpjbfpheenamiaaDoor.PF
open Go.RowKit Go.Proofs.YtpjbfpheenamiaaDoorW.PrintWords
set_option linter.unusedVariables false
set_option linter.unusedSimpArgs false
set_option maxRecDepth 100000
/-- Lines, and the bytes that they stand for. -/
inductive Parts : List ByteArray → List Nat → Prop
  | nil : Parts [] []
  | cons (s : ByteArray) (p : List Nat) (L : List ByteArray) (q : List Nat) (ha : listing_Assemble.f s = some (ints p, 0)) (h1 : 1 ≤ p.length) (h3 : p.length ≤ 3) (hp : Parts L q) : Parts (s :: L) (p ++ q)
theorem parts_lines : ∀ (d : Nat) (l : List Nat), l.length ≤ d → (∀ x ∈ l, x < 256) → Parts (linesS d l) l := by
  intro d
  induction d with
  | zero => intro l hl hb; obtain rfl : l = [] := List.eq_nil_of_length_eq_zero (by omega); exact .nil
  | succ d ih =>
    intro l hl hb
    cases l with
    | nil => rw [linesS_nil]; exact .nil
    | cons x r =>
      obtain ⟨s, n, e, h1, h3, hn, hs, ha⟩ := one_is x r hb
      rw [linesS_cons, e]
      have hpos : 0 < (x :: r).length := by simp
      have hp := Parts.cons s ((x :: r).take n) (linesS d ((x :: r).drop n)) ((x :: r).drop n) ha (by rw [List.length_take]; omega) (by rw [List.length_take]; omega) (ih _ (by rw [List.length_drop]; omega) fun y hy => hb y (List.mem_of_mem_drop hy))
      rw [List.take_append_drop] at hp
      exact hp
theorem parts_all {L : List ByteArray} {l : List Nat} (h : Parts L l) : (∀ s ∈ L, ∃ r, listing_Assemble.f s = some r ∧ r.1.length ≤ 3) ∧ (∀ acc, allS L acc = (acc ++ ints l, 0)) ∧ L.length ≤ l.length := by
  induction h with
  | nil => exact ⟨fun s hs => (by cases hs), fun acc => (by show (acc, (0 : Int)) = _; simp [ints]), Nat.le_refl _⟩
  | cons s p L q ha h1 h3 hp ih =>
    obtain ⟨i1, i2, i3⟩ := ih
    refine ⟨fun t ht => ?_, fun acc => ?_, ?_⟩
    · rcases List.mem_cons.1 ht with rfl | ht
      · exact ⟨_, ha, by show (ints p).length ≤ 3; rw [ints_length]; omega⟩
      · exact i1 t ht
    · rw [allS_cons, ha]
      dsimp only
      rw [if_pos rfl, i2, List.append_assoc]
      unfold ints
      rw [List.map_append]
    · rw [List.length_cons, List.length_append]; omega
theorem back_loop (l : List Nat) (hb : ∀ x ∈ l, x < 256) (hz : l.length ≤ 1048576) (L : List ByteArray) (hL : L.length ≤ 1048576) : ∀ (d i n k : Nat), d + i = L.length → n ≤ l.length → Parts (L.drop i) (l.drop n) → d + 1 ≤ k →
    whirligiglaw06_ListingBack.l0 k (ints l) true L (ints l) 0 (n : Int) (i : Int) = some true := by
  have hlen := ints_length l
  intro d
  induction d with
  | zero =>
    intro i n k hd hn hp hk
    obtain ⟨k, rfl⟩ : ∃ m, k = m + 1 := ⟨k - 1, by omega⟩
    have e1 : L.drop i = [] := List.drop_eq_nil_of_le (by omega)
    rw [e1] at hp
    have e2 : l.drop n = [] := by cases hdr : l.drop n with
      | nil => rfl
      | cons x r =>
        rw [hdr] at hp
        have := (parts_all hp).2.1 []
        have e3 : ints (x :: r) = [] := (congrArg Prod.fst this).symm.trans rfl
        cases e3
    have e4 : l.length ≤ n := List.drop_eq_nil_iff.1 e2
    rw [whirligiglaw06_ListingBack.l0, if_neg (by omega), if_pos rfl, if_pos rfl, if_pos rfl, hlen, beq_iff_eq.2 (show (n : Int) = (l.length : Int) by omega)]
  | succ d ih =>
    intro i n k hd hn hp hk
    obtain ⟨k, rfl⟩ : ∃ m, k = m + 1 := ⟨k - 1, by omega⟩
    generalize hA : L.drop i = A at hp
    generalize hB : l.drop n = B at hp
    cases hp with
    | nil => have : L.length ≤ i := List.drop_eq_nil_iff.1 hA; omega
    | cons s p L2 q ha h1 h3 hp2 =>
      obtain ⟨e1, e2, e3⟩ := rd_drop hA
      have hpl := ints_length p
      have hdl : (p ++ q).length = l.length - n := by rw [← hB, List.length_drop]
      rw [List.length_append] at hdl
      have hw : wrap64 ((n : Int) + ((ints p).length : Int)) = ((n + p.length : Nat) : Int) := by rw [hpl, wrap64_id (by omega) (by omega)]; omega
      rw [whirligiglaw06_ListingBack.l0, if_pos (by omega), if_pos (by omega), e1, ha, bind_some']
      dsimp only
      rw [hw]
      clear hw
      rw [if_pos rfl, if_neg (by omega), if_neg (by omega), if_neg (by omega), if_pos (by omega), if_pos (by omega), if_pos (by omega), Int.toNat_natCast, Int.toNat_natCast, ints_take, ints_drop, List.drop_take, hB, show n + p.length - n = p.length by omega, List.take_left, if_pos rfl, wrap64_id (by omega) (by omega)]
      refine ih (i + 1) (n + p.length) k (by omega) (by omega) ?_ (by omega)
      rw [e3, ← List.drop_drop, hB, List.drop_left]
      exact hp2
theorem listingBack_pure (l0 : List Int) (b0 : l0.length ≤ 1048576) (hw : ∀ x ∈ l0, (Lit.int .u8 x).wf = true) : ∃ k, whirligiglaw06_ListingBack.f k l0 = some true := by
  obtain ⟨l, rfl, hl⟩ := ints_of l0 hw
  rw [ints_length] at b0
  have hp := parts_lines l.length l (Nat.le_refl _) hl
  obtain ⟨p1, p2, p3⟩ := parts_all hp
  refine ⟨l.length + 200, ?_⟩
  unfold whirligiglaw06_ListingBack.f
  rw [shown_k (by omega), bind_some', linesP l hl (by omega) (by omega), bind_some', allP _ (by omega) p1 (by omega), bind_some', p2 [], List.nil_append]
  exact back_loop l hl b0 _ (by omega) (linesS l.length l).length 0 0 _ (by omega) (by omega) (by rw [List.drop_zero, List.drop_zero]; exact hp) (by omega)
end Go.Proofs.YtpjbfpheenamiaaDoor.PF
/- Of the second form: a list of bytes of bulk at most 1048576 is no longer than that. -/
namespace Go.Proofs.YtpjbfpheenamiaaDoor.PF
open Go.ChangeShapes
theorem bulk_one {H : Type} (d : DataW H) : 1 ≤ Rows.uptoBulk d := by
  cases d with
  | lit l => cases l <;> simp [Rows.uptoBulk]
  | nil => simp [Rows.uptoBulk]
  | ptr d => simp [Rows.uptoBulk]
  | slice elems spare => simp [Rows.uptoBulk]
  | agg parts => simp [Rows.uptoBulk]
  | iface t d => simp [Rows.uptoBulk]
  | map entries => simp [Rows.uptoBulk]
  | held h => simp [Rows.uptoBulk]
theorem bulk_many {H : Type} (l : List (DataW H)) : l.length ≤ Rows.uptoBulkAll l := by
  induction l with
  | nil => simp [Rows.uptoBulkAll]
  | cons x r ih => have := bulk_one x; simp only [Rows.uptoBulkAll, List.length_cons]; omega
theorem bulk_len {H : Type} {k : IntKind} {zs : List Int} {len cap : Nat} (hz : zs.length = cap) (hl : len ≤ cap) (hb : Rows.uptoBulkAll ([DataW.slice (lits (H := H) k (zs.take len)) (lits k (zs.drop len))] ++ []) ≤ 1048576) : len ≤ 1048576 := by
  have h1 := bulk_many (lits (H := H) k (zs.take len))
  have h2 : (lits (H := H) k (zs.take len)).length = len := by simp [lits]; omega
  simp only [List.append_nil, Rows.uptoBulkAll, Rows.uptoBulk] at hb
  omega
end Go.Proofs.YtpjbfpheenamiaaDoor.PF
