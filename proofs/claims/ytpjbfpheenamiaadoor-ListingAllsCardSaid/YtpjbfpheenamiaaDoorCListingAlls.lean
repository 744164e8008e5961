/- Texts of this claim, put together: GPureTexts, GPureOnes, GPureK, GPureA, GPureB, GPureC, GPureL, PF20, GAllS, PF84, PF61, PF36, PF16, GPureD, GPureAssembles, PF21, PF8, GPureAlls. -/
import Derived.Test.YtpjbfpheenamiaaDoorB26
import Derived.Test.YtpjbfpheenamiaaDoorB15
import Derived.Test.YtpjbfpheenamiaaDoorB28
import Derived.Test.YtpjbfpheenamiaaDoorB27
import Derived.Test.YtpjbfpheenamiaaDoorB1
import Derived.Test.YtpjbfpheenamiaaDoorB22
import Derived.Test.YtpjbfpheenamiaaDoorB23
import Derived.Test.YtpjbfpheenamiaaDoorB25
import Derived.Test.YtpjbfpheenamiaaDoorB21
/- The lines of both, for every opcode, with any number of rounds that is enough; no condition. -/
namespace Go.Proofs.YtpjbfpheenamiaaDoor.PF
open Go.RowKit Go.Proofs.YtpjbfpheenamiaaDoorW.PrintWords
set_option linter.unusedVariables false
set_option maxRecDepth 100000 in
theorem shown_ok : whirligiglaw06_shown.f 100 = some true := by kernel_rfl
theorem text_ref_k {k : Nat} (hk : 100 ≤ k) (op lo hi : Nat) (h : op < 512) (hl : lo < 256) (hh : hi < 256) : whirligigref06_Text.f k ((op : Int) % 256) (decide (255 < (op : Int))) (lo : Int) (hi : Int) = some ⟨(lineL op lo hi).toArray⟩ :=
  at_rounds (g := fun k => whirligigref06_Text.f k ((op : Int) % 256) (decide (255 < (op : Int))) (lo : Int) (hi : Int)) (whirligigref06_Text.mono _ _ _ _) hk (text_ref op lo hi h hl hh)
end Go.Proofs.YtpjbfpheenamiaaDoor.PF
/- What the program lists of the bytes that there are: one line, and how many bytes it takes; no condition. -/
namespace Go.Proofs.YtpjbfpheenamiaaDoor.PF
open Go.RowKit Go.Proofs.YtpjbfpheenamiaaDoorW.PrintWords
set_option linter.unusedVariables false
set_option linter.unusedSimpArgs false
set_option maxRecDepth 100000
/-- How many bytes an opcode's instruction takes. -/
def nbT (op : Nat) : Nat := match bookForm op with
  | some f => f.2.2.2.1.toNat
  | none => 0
def formTabB (op : Nat) : Bool := match bookForm op with
  | some f => (f.2.2.2.1 == 1 || f.2.2.2.1 == 2 || f.2.2.2.1 == 3) && (decide (f.1 = 6) == decide (op = 203)) && (!decide (op = 203) || f.2.2.2.1 == 1) && decide (opcode_Decode.f 9 (op : Int) = bookForm op)
  | none => false
theorem formTab_all : ((List.range 256).all formTabB) = true := by kernel_rfl
theorem formTab (op : Nat) (h : op < 256) : ∃ f0 f1 f2 f3 f4 f5, bookForm op = some (f0, f1, f2, f3, f4, f5) ∧ opcode_Decode.f 9 (op : Int) = some (f0, f1, f2, f3, f4, f5) ∧ (f3 = 1 ∨ f3 = 2 ∨ f3 = 3) ∧ (f0 = 6 ↔ op = 203) ∧ (op = 203 → f3 = 1) ∧ ((nbT op : Nat) : Int) = f3 := by
  have hb := List.all_eq_true.1 formTab_all op (List.mem_range.2 h)
  unfold formTabB at hb
  unfold nbT
  cases hf : bookForm op with
  | none => rw [hf] at hb; cases hb
  | some f =>
    obtain ⟨f0, f1, f2, f3, f4, f5⟩ := f
    rw [hf] at hb
    simp only [Bool.and_eq_true, Bool.or_eq_true, beq_iff_eq, decide_eq_true_eq, Bool.not_eq_true', decide_eq_false_iff_not] at hb
    obtain ⟨⟨⟨h1, h2⟩, h3⟩, h4⟩ := hb
    refine ⟨f0, f1, f2, f3, f4, f5, rfl, h4, ?_, ?_, fun e => ?_, ?_⟩
    · rcases h1 with (h1 | h1) | h1 <;> simp [h1]
    · exact decide_eq_decide.1 h2
    · rcases h3 with h3 | h3
      · exact absurd e h3
      · exact h3
    · show ((f3.toNat : Nat) : Int) = f3
      rcases h1 with (h1 | h1) | h1 <;> omega
def dbB (x : Nat) : ByteArray := (⟨#[68, 66, 32, 36]⟩ : ByteArray) ++ hexB x
def ints (l : List Nat) : List Int := l.map fun n : Nat => (n : Int)
theorem text_ref0 {k : Nat} (hk : 100 ≤ k) (x lo hi : Nat) (h : x < 256) (hl : lo < 256) (hh : hi < 256) : whirligigref06_Text.f k (x : Int) false (lo : Int) (hi : Int) = some ⟨(lineL x lo hi).toArray⟩ := by
  have := text_ref_k hk x lo hi (by omega) hl hh
  rwa [show ((x : Int) % 256) = x by omega, decide_eq_false (by omega)] at this
theorem text_ref1 {k : Nat} (hk : 100 ≤ k) (x : Nat) (h : x < 256) : whirligigref06_Text.f k (x : Int) true 0 0 = some ⟨(lineL (x + 256) 0 0).toArray⟩ := by
  have := text_ref_k hk (x + 256) 0 0 (by omega) (by omega) (by omega)
  rwa [show (((x + 256 : Nat) : Int) % 256) = x by omega, decide_eq_true (by omega)] at this
theorem shown_k {k : Nat} (hk : 100 ≤ k) : whirligiglaw06_shown.f k = some true := at_rounds (g := whirligiglaw06_shown.f) whirligiglaw06_shown.mono hk shown_ok
end Go.Proofs.YtpjbfpheenamiaaDoor.PF
/- What the book's lines are: no two alike, each with one number at most, between letters that the document names; no condition. -/
namespace Go.Proofs.YtpjbfpheenamiaaDoor.PF
open Go.RowKit Go.Proofs.YtpjbfpheenamiaaDoorW.PrintWords
set_option linter.unusedVariables false
set_option linter.unusedSimpArgs false
set_option maxRecDepth 100000
def num : List UInt8 → Nat
  | [] => 1
  | c :: l => num l * 256 + c.toNat
theorem num_pos (l : List UInt8) : 1 ≤ num l := by
  induction l with
  | nil => exact Nat.le_refl _
  | cons c l ih => unfold num; omega
def keyNum (op : Nat) : Nat := match bookKey op with
  | some t => num t.data.toList
  | none => 0
def keyNums : List Nat := [22040398, 105601783650337868, 5924586996223900140620, 355426264895049, 1383520751177, 1383520748868, 389417204204620, 5389896786, 6204099219562283680844, 5963066605786326385729, 5483529470211277210700, 355426264892740, 1387815718473, 1387815716164, 389417220981836, 5389898322, 389365902562387, 105601792273826892, 5924586998431513330764, 357633878085193, 1392110685769, 1392110683460, 389417237759052, 21056594, 5941252682, 6000104209121821344833, 5483674148349306487884, 357633878082884, 1396405653065, 1396405650756, 389417254536268, 21058130, 99690908124992074, 105601822405706828, 1516694264289051682030668, 365347639348809, 1409290554953, 1409290552644, 389417304867916, 21053764, 389417606861386, 6129519648013939917889, 1403341552094969881183308, 365347639346500, 1426470424137, 1426470421828, 389417371976780, 21778499, 99690809340744266, 105601839770125388, 1516694264852001635451980, 369792930500169, 21422576864671780425, 21422576864671778116, 6533329560577689797708, 21381971, 389417220985418, 6204099257843195331649, 1403378445583117300286540, 369792930497860, 1379225783881, 1379225781572, 389417187427404, 21381955, 354232832115788, 355332343743564, 356431855371340, 357531366999116, 360829901882444, 365227948393548, 5484179677407495603276, 353133320488012, 354232848893004, 355332360520780, 356431872148556, 357531383776332, 360829918659660, 365227965170764, 5484179677407512380492, 353133337265228, 354232865670220, 355332377297996, 356431888925772, 357531400553548, 360829935436876, 365227981947980, 5484179677407529157708, 353133354042444, 354232882447436, 355332394075212, 356431905702988, 357531417330764, 360829952214092, 365227998725196, 5484179677407545934924, 353133370819660, 354232932779084, 355332444406860, 356431956034636, 357531467662412, 360830002545740, 365228049056844, 5484179677407596266572, 353133421151308, 354232999887948, 355332511515724, 356432023143500, 357531534771276, 360830069654604, 365228116165708, 5484179677407663375436, 353133488260172, 5943033750218984145996, 5961480494292693697612, 5979927238366403249228, 5998373982440112800844, 6053714214661241455692, 6127501190956079662156, 5709250888, 5924587006145274594380, 354232815338572, 355332326966348, 356431838594124, 357531350221900, 360829885105228, 365227931616332, 5484179677407478826060, 353133303710796, 1383520814145, 1387815781441, 1392110748737, 1396405716033, 1409290617921, 1426470487105, 21422576864671843393, 1379225846849, 1383520748609, 1387815715905, 1392110683201, 1396405650497, 1409290552385, 1426470421569, 21422576864671777857, 1379225781313, 1383520687443, 1387815654739, 1392110622035, 1396405589331, 1409290491219, 1426470360403, 21422576864671716691, 1379225720147, 1383520748115, 1387815715411, 1392110682707, 1396405650003, 1409290551891, 1426470421075, 21422576864671777363, 1379225780819, 1383520816705, 1387815784001, 1392110751297, 1396405718593, 1409290620481, 1426470489665, 21422576864671845953, 1379225849409, 1383521734488, 1387816701784, 1392111669080, 1396406636376, 1409291538264, 1426471407448, 21422576864672763736, 1379226767192, 5404381775, 5421158991, 5437936207, 5454713423, 5505045071, 5572153935, 83681940877627983, 5387604559, 5404381251, 5421158467, 5437935683, 5454712899, 5505044547, 5572153411, 83681940877627459, 5387604035, 380766573053266, 355426265747280, 105601882635915338, 6293573706, 6920724980427280630083, 90989123897349456, 1520959767617, 85621324639392594, 1486601078098, 22299986, 412507351044170, 0, 27034081757963764035, 412455579435331, 1520959702081, 87873124453077842, 355477805614418, 357633878937424, 105601783851667530, 0, 6920718506502816284995, 91554272874026320, 1520959640915, 85622424151020370, 1387816830290, 5525226834, 412506965168202, 0, 27034056469196325187, 0, 1520959701587, 87874223964705618, 5924587030196959855692, 365347640201040, 5924586996112099394636, 0, 0, 93528995757512016, 1520959770177, 85623523662648146, 25520861506355610689, 1427139219530, 23142918176901186636, 0, 0, 0, 1520960687960, 87875323476333394, 5485755941764748297292, 358720505663312, 5483522156349572531276, 84292, 0, 91832449315853648, 5941252687, 85624623174275922, 1672516732949676156798028, 23943436142418871372, 21434645122029470796, 84293, 0, 0, 5941252163, 87876422987961170, 1383520750674, 1387815717970, 1392110685266, 1396405652562, 1409290554450, 1426470423634, 21422576864671779922, 1379225783378, 1383520752210, 1387815719506, 1392110686802, 1396405654098, 1409290555986, 1426470425170, 21422576864671781458, 1379225784914, 5404380242, 5421157458, 5437934674, 5454711890, 5505043538, 5572152402, 83681940877626450, 5387603026, 5404381778, 5421158994, 5437936210, 5454713426, 5505045074, 5572153938, 83681940877627986, 5387604562, 1383520619603, 1387815586899, 1392110554195, 1396405521491, 1409290423379, 1426470292563, 21422576864671648851, 1379225652307, 1383520621139, 1387815588435, 1392110555731, 1396405523027, 1409290424915, 1426470294099, 21422576864671650387, 1379225653843, 354181529556819, 355281041184595, 356380552812371, 357480064440147, 360778599323475, 365176645834579, 5484179677356193044307, 353082017929043, 1383521342035, 1387816309331, 1392111276627, 1396406243923, 1409291145811, 1426471014995, 21422576864672371283, 1379226374739, 90683527713278274, 90965002689988930, 91246477666699586, 91527952643410242, 92372377573542210, 93498277480384834, 1403949997416241566075202, 90402052736567618, 90683532008245570, 90965006984956226, 91246481961666882, 91527956938377538, 92372381868509506, 93498281775352130, 1403949997416245861042498, 90402057031534914, 90683536303212866, 90965011279923522, 91246486256634178, 91527961233344834, 92372386163476802, 93498286070319426, 1403949997416250156009794, 90402061326502210, 90683540598180162, 90965015574890818, 91246490551601474, 91527965528312130, 92372390458444098, 93498290365286722, 1403949997416254450977090, 90402065621469506, 90683544893147458, 90965019869858114, 91246494846568770, 91527969823279426, 92372394753411394, 93498294660254018, 1403949997416258745944386, 90402069916436802, 90683549188114754, 90965024164825410, 91246499141536066, 91527974118246722, 92372399048378690, 93498298955221314, 1403949997416263040911682, 90402074211404098, 90683553483082050, 90965028459792706, 91246503436503362, 91527978413214018, 92372403343345986, 93498303250188610, 1403949997416267335878978, 90402078506371394, 90683557778049346, 90965032754760002, 91246507731470658, 91527982708181314, 92372407638313282, 93498307545155906, 1403949997416271630846274, 90402082801338690, 90683527713211730, 90965002689922386, 91246477666633042, 91527952643343698, 92372377573475666, 93498277480318290, 1403949997416241566008658, 90402052736501074, 90683532008179026, 90965006984889682, 91246481961600338, 91527956938310994, 92372381868442962, 93498281775285586, 1403949997416245860975954, 90402057031468370, 90683536303146322, 90965011279856978, 91246486256567634, 91527961233278290, 92372386163410258, 93498286070252882, 1403949997416250155943250, 90402061326435666, 90683540598113618, 90965015574824274, 91246490551534930, 91527965528245586, 92372390458377554, 93498290365220178, 1403949997416254450910546, 90402065621402962, 90683544893080914, 90965019869791570, 91246494846502226, 91527969823212882, 92372394753344850, 93498294660187474, 1403949997416258745877842, 90402069916370258, 90683549188048210, 90965024164758866, 91246499141469522, 91527974118180178, 92372399048312146, 93498298955154770, 1403949997416263040845138, 90402074211337554, 90683553483015506, 90965028459726162, 91246503436436818, 91527978413147474, 92372403343279442, 93498303250122066, 1403949997416267335812434, 90402078506304850, 90683557777982802, 90965032754693458, 91246507731404114, 91527982708114770, 92372407638246738, 93498307545089362, 1403949997416271630779730, 90402082801272146, 90683527713277267, 90965002689987923, 91246477666698579, 91527952643409235, 92372377573541203, 93498277480383827, 1403949997416241566074195, 90402052736566611, 90683532008244563, 90965006984955219, 91246481961665875, 91527956938376531, 92372381868508499, 93498281775351123, 1403949997416245861041491, 90402057031533907, 90683536303211859, 90965011279922515, 91246486256633171, 91527961233343827, 92372386163475795, 93498286070318419, 1403949997416250156008787, 90402061326501203, 90683540598179155, 90965015574889811, 91246490551600467, 91527965528311123, 92372390458443091, 93498290365285715, 1403949997416254450976083, 90402065621468499, 90683544893146451, 90965019869857107, 91246494846567763, 91527969823278419, 92372394753410387, 93498294660253011, 1403949997416258745943379, 90402069916435795, 90683549188113747, 90965024164824403, 91246499141535059, 91527974118245715, 92372399048377683, 93498298955220307, 1403949997416263040910675, 90402074211403091, 90683553483081043, 90965028459791699, 91246503436502355, 91527978413213011, 92372403343344979, 93498303250187603, 1403949997416267335877971, 90402078506370387, 90683557778048339, 90965032754758995, 91246507731469651, 91527982708180307, 92372407638312275, 93498307545154899, 1403949997416271630845267, 90402082801337683]
theorem keyNums_is : (List.range 512).map keyNum = keyNums := by kernel_rfl
def apartB : List Nat → Bool
  | [] => true
  | a :: l => (a == 0 || l.all fun b => !(a == b)) && apartB l
theorem apart_all : apartB keyNums = true := by kernel_rfl
theorem apart_at : ∀ (l : List Nat), apartB l = true → ∀ i j, i < j → j < l.length → l.getD i 0 ≠ 0 → l.getD i 0 ≠ l.getD j 0 := by
  intro l
  induction l with
  | nil => intro _ i j _ hj; exact absurd hj (Nat.not_lt_zero _)
  | cons a l ih =>
    intro h i j hij hj hne
    simp only [apartB, Bool.and_eq_true, Bool.or_eq_true, beq_iff_eq] at h
    obtain ⟨h1, h2⟩ := h
    obtain ⟨j, rfl⟩ : ∃ m, j = m + 1 := ⟨j - 1, by omega⟩
    cases i with
    | zero =>
      simp only [List.getD_cons_zero, List.getD_cons_succ] at hne ⊢
      rcases h1 with h1 | h1
      · exact absurd h1 hne
      · intro e
        have hm : l.getD j 0 ∈ l := by
          rw [List.getD_eq_getElem?_getD, List.getElem?_eq_getElem (by simpa using hj)]
          exact List.getElem_mem _
        have := List.all_eq_true.1 h1 _ hm
        simp [e] at this
    | succ i =>
      simp only [List.getD_cons_succ] at hne ⊢
      exact ih h2 i j (by omega) (by simpa using hj) hne
theorem keyNums_at (i : Nat) (h : i < 512) : keyNums.getD i 0 = keyNum i := by
  rw [← keyNums_is, List.getD_eq_getElem?_getD, List.getElem?_map, List.getElem?_range h]
  rfl
theorem keyNums_length : keyNums.length = 512 := by rw [← keyNums_is]; simp
theorem key_inj {i j : Nat} (hi : i < 512) (hj : j < 512) {t : ByteArray} (h1 : bookKey i = some t) (h2 : bookKey j = some t) : i = j := by
  have e1 : keyNum i = num t.data.toList := by unfold keyNum; rw [h1]
  have e2 : keyNum j = num t.data.toList := by unfold keyNum; rw [h2]
  have hp := num_pos t.data.toList
  rcases Nat.lt_trichotomy i j with h | h | h
  · have := apart_at keyNums apart_all i j h (by rw [keyNums_length]; exact hj) (by rw [keyNums_at i hi]; omega)
    rw [keyNums_at i hi, keyNums_at j hj] at this
    omega
  · exact h
  · have := apart_at keyNums apart_all j i h (by rw [keyNums_length]; exact hi) (by rw [keyNums_at j hj]; omega)
    rw [keyNums_at i hi, keyNums_at j hj] at this
    omega
theorem bookAt_some {n : Nat} {s : ByteArray} {op : Int} (h : bookAt n s = some op) : ∃ i : Nat, i < n ∧ op = i ∧ bookKey i = some s := by
  induction n with
  | zero => cases h
  | succ n ih =>
    unfold bookAt at h
    split at h
    case isTrue e => exact ⟨n, by omega, (Option.some.inj h).symm, e⟩
    case isFalse => obtain ⟨i, h1, h2⟩ := ih h; exact ⟨i, by omega, h2⟩
theorem bookAt_none {n : Nat} {s : ByteArray} (h : bookAt n s = none) (i : Nat) (hi : i < n) : bookKey i ≠ some s := by
  induction n with
  | zero => omega
  | succ n ih =>
    unfold bookAt at h
    split at h
    case isTrue e => cases h
    case isFalse e =>
      by_cases hn : i = n
      · subst hn; exact e
      · exact ih h (by omega)
theorem bookAt_key {i : Nat} (hi : i < 512) {s : ByteArray} (h : bookKey i = some s) : bookAt 512 s = some (i : Int) := by
  cases hb : bookAt 512 s with
  | none => exact absurd h (bookAt_none hb i hi)
  | some op =>
    obtain ⟨j, hj, e, hk⟩ := bookAt_some hb
    rw [e, key_inj hj hi hk h]
/-- Ahead of the first number, its letter (0: there is none), behind it. -/
def splitT : List UInt8 → List UInt8 × Nat × List UInt8
  | [] => ([], 0, [])
  | c :: l => if c = 98 then ([], 98, l) else if c = 119 then ([], 119, l) else ((splitT l).1.cons c, (splitT l).2.1, (splitT l).2.2)
def noTok (l : List UInt8) : Bool := l.all fun c => c != 98 && c != 119
def keyB (op : Nat) : Bool := match bookKey op with
  | none => decide (op < 256) && (nbT op == 1)
  | some t =>
    let s := splitT t.data.toList
    (s.2.1 == 0 || (s.1.all fun c => c != 36) && s.1 != [82, 83, 84, 32] && decide (op < 256) && decide (op ≠ 203) && s.1 != [68, 66, 32]) && noTok s.2.2 && (s.2.2.all fun c => c != 36) && (s.2.2 == [] || s.2.2 == [41] || s.2.2 == [41, 44, 65] || s.2.2 == [41, 44, 83, 80])
    && (s.2.1 != 98 || nbT op == 2) && (s.2.1 != 119 || nbT op == 3) && (s.2.1 != 0 || s.2.2 == [] && (decide (256 ≤ op) || nbT op == 1)) && (decide (op < 256) || nbT op == 2)
    && ((t.data.toList.all fun c => c != 36) || (t.data.toList.takeWhile fun c => c != 36) == [82, 83, 84, 32])
theorem key_all : ((List.range 512).all keyB) = true := by kernel_rfl
end Go.Proofs.YtpjbfpheenamiaaDoor.PF
/- What listing.bare answers, and what hexadecimal digits are; condition: a text of no more than 2^47 bytes. -/

namespace Go.Proofs.YtpjbfpheenamiaaDoor.PF
open Go.RowKit Go.Proofs.YtpjbfpheenamiaaDoorW.PrintWords
set_option linter.unusedVariables false
set_option linter.unusedSimpArgs false
set_option maxRecDepth 100000
theorem extract_list (b : ByteArray) (i j : Nat) : (b.extract i j).data.toList = (b.data.toList.drop i).take (j - i) := by
  rw [ByteArray.data_extract, Array.toList_extract]
theorem size_list (b : ByteArray) : b.size = b.data.toList.length := (Array.length_toList (xs := b.data)).symm
theorem index_no {l : List UInt8} {c : UInt8} (h : c ∉ l) : Lib.indexByte l c = -1 := by
  induction l with
  | nil => rfl
  | cons b l ih =>
    have h1 : ¬ (b == c) = true := fun e => h (by rw [beq_iff_eq.1 e]; simp)
    have h2 := ih (fun e => h (by simp [e]))
    unfold Lib.indexByte
    rw [if_neg h1, h2]
    rfl
theorem index_at {p q : List UInt8} {c : UInt8} (h : c ∉ p) : Lib.indexByte (p ++ c :: q) c = (p.length : Int) := by
  induction p with
  | nil => show (if (c == c) = true then (0 : Int) else _) = _; rw [if_pos (beq_self_eq_true c)]; rfl
  | cons b l ih =>
    have h1 : ¬ (b == c) = true := fun e => h (by rw [beq_iff_eq.1 e]; simp)
    have h2 := ih (fun e => h (by simp [e]))
    rw [List.cons_append]
    unfold Lib.indexByte
    rw [if_neg h1, h2, if_neg (by simp)]
    simp
/-! ### digits -/
theorem digV_all : ((List.range 16).all fun n => decide (digV (hexd n).toNat = (n : Int)) && decide (Lib.upperB (hexd n) = hexd n) && decide ((hexd n).toNat < 128)) = true := by kernel_rfl
theorem digV_hex (n : Nat) (h : n < 16) : digV (hexd n).toNat = (n : Int) ∧ Lib.upperB (hexd n) = hexd n := by
  have := List.all_eq_true.1 digV_all n (List.mem_range.2 h)
  simp only [Bool.and_eq_true, decide_eq_true_eq] at this
  exact this.1
theorem up_all : ((List.range 256).all fun c => decide (digV (c : Int) < 0) || !decide (Lib.upperB (UInt8.ofNat c) = UInt8.ofNat c) || decide (UInt8.ofNat c = hexd (digV (c : Int)).toNat)) = true := by kernel_rfl
theorem up_hex (c : UInt8) (h1 : 0 ≤ digV c.toNat) (h2 : Lib.upperB c = c) : c = hexd (digV c.toNat).toNat := by
  have := List.all_eq_true.1 up_all c.toNat (List.mem_range.2 c.toNat_lt)
  have e : UInt8.ofNat c.toNat = c := UInt8.ofNat_toNat
  rw [e] at this
  simp only [Bool.or_eq_true, decide_eq_true_eq, Bool.not_eq_true', decide_eq_false_iff_not] at this
  rcases this with (h | h) | h
  · omega
  · exact absurd h2 h
  · exact h
theorem readV_bad {l : List UInt8} {c : UInt8} (hc : c ∈ l) (h : digV c.toNat < 0) (acc : Int) : readV l acc < 0 := by
  induction l generalizing acc with
  | nil => cases hc
  | cons d l ih =>
    unfold readV
    by_cases hd : digV d.toNat < 0
    · rw [if_pos hd]; omega
    · rw [if_neg hd]
      rcases List.mem_cons.1 hc with e | e
      · subst e; exact absurd h hd
      · exact ih e _
theorem readV_digs {l : List UInt8} {acc : Int} (h0 : 0 ≤ acc) (h : 0 ≤ readV l acc) : ∀ c ∈ l, 0 ≤ digV c.toNat := by
  intro c hc
  by_cases hd : digV c.toNat < 0
  · have := readV_bad hc hd acc
    omega
  · omega
theorem read2 (a b : Nat) (ha : a < 16) (hb : b < 16) : readV [hexd a, hexd b] 0 = (a : Int) * 16 + b := by
  unfold readV
  rw [(digV_hex a ha).1, if_neg (by omega)]
  unfold readV
  rw [(digV_hex b hb).1, if_neg (by omega)]
  unfold readV
  omega
theorem read4 (a b c d : Nat) (ha : a < 16) (hb : b < 16) (hc : c < 16) (hd : d < 16) : readV [hexd a, hexd b, hexd c, hexd d] 0 = (((a : Int) * 16 + b) * 16 + c) * 16 + d := by
  unfold readV
  rw [(digV_hex a ha).1, if_neg (by omega)]
  unfold readV
  rw [(digV_hex b hb).1, if_neg (by omega)]
  unfold readV
  rw [(digV_hex c hc).1, if_neg (by omega)]
  unfold readV
  rw [(digV_hex d hd).1, if_neg (by omega)]
  unfold readV
  omega
theorem upper_hex {l : List UInt8} (h : ∀ c ∈ l, ∃ n, n < 16 ∧ c = hexd n) : Lib.toUpperA l = l := by
  unfold Lib.toUpperA
  conv => rhs; rw [← List.map_id l]
  refine List.map_congr_left fun c hc => ?_
  obtain ⟨n, hn, rfl⟩ := h c hc
  exact (digV_hex n hn).2
theorem hex_of {l : List UInt8} (h1 : 0 ≤ readV l 0) (h2 : Lib.toUpperA l = l) : ∀ c ∈ l, ∃ n, n < 16 ∧ c = hexd n := by
  intro c hc
  have hd := readV_digs (Int.le_refl 0) h1 c hc
  have hu : Lib.upperB c = c := by
    have : ∀ (m : List UInt8), m.map Lib.upperB = m → ∀ c ∈ m, Lib.upperB c = c := by
      intro m
      induction m with
      | nil => intro _ c hc; cases hc
      | cons d m ih =>
        intro h c hc
        simp only [List.map_cons, List.cons.injEq] at h
        rcases List.mem_cons.1 hc with e | e
        · subst e; exact h.1
        · exact ih h.2 c e
    exact this l h2 c hc
  have hlt := digV_lt c.toNat
  exact ⟨(digV c.toNat).toNat, by omega, up_hex c hd hu⟩
/-! ### bare -/
def bareS (q : List UInt8) (d : Nat) : Option Int := if q.length < d then none else if readV (q.take d) 0 < 0 then none else if Lib.toUpperA (q.take d) = q.take d then some (readV (q.take d) 0) else none
theorem bare_no {k : Nat} (hk : 1 ≤ k) (s : ByteArray) (d : Int) (c : ByteArray) (h : (36 : UInt8) ∉ s.data.toList) : listing_bare.f k s d c = some (⟨#[]⟩, 0, false) := by
  obtain ⟨m, rfl⟩ : ∃ m, k = m + 1 := ⟨k - 1, by omega⟩
  unfold listing_bare.f strings_IndexByte.f
  rw [bind_some', show (Int.toNat 36).toUInt8 = (36 : UInt8) from rfl, index_no h, if_pos (by omega), listing_bare.j0, if_pos rfl]
theorem bare_at {k : Nat} (hk : 1 ≤ k) (s : ByteArray) (p q : List UInt8) (d : Nat) (c : UInt8) (hs : s.data.toList = p ++ 36 :: q) (hp : (36 : UInt8) ∉ p) (h1 : 1 ≤ d) (h4 : d ≤ 4) (hz : s.size ≤ 140737488351232) :
    listing_bare.f k s d ⟨#[c]⟩ = match bareS q d with
      | some v => some (⟨(p ++ c :: q.drop d).toArray⟩, v, true)
      | none => some (⟨#[]⟩, 0, false) := by
  obtain ⟨m, rfl⟩ : ∃ m, k = m + 1 := ⟨k - 1, by omega⟩
  have hlen : s.size = p.length + (q.length + 1) := by rw [size_list, hs]; simp
  unfold listing_bare.f strings_IndexByte.f
  rw [bind_some', show (Int.toNat 36).toUInt8 = (36 : UInt8) from rfl, hs, index_at hp, if_neg (by omega), wrap64_id (x := (p.length : Int) + 1) (by omega) (by omega), wrap64_id (x := (p.length : Int) + 1 + d) (by omega) (by omega), listing_bare.j0]
  rw [wrap64_id (x := (p.length : Int) + 1) (by omega) (by omega), wrap64_id (x := (p.length : Int) + 1 + d) (by omega) (by omega)]
  unfold bareS
  by_cases hq : q.length < d
  · rw [if_pos hq, if_pos (by simp only [decide_eq_true_eq]; omega)]
  · rw [if_neg hq, if_neg (by simp only [decide_eq_true_eq]; omega), if_pos (by omega), if_pos (by omega), if_pos (by omega)]
    have hn : (s.extract ((p.length : Int) + 1).toNat ((p.length : Int) + 1 + d).toNat).data.toList = q.take d := by
      rw [extract_list, hs, show ((p.length : Int) + 1).toNat = p.length + 1 by omega, show ((p.length : Int) + 1 + d).toNat - (p.length + 1) = d by omega, ← List.drop_drop, List.drop_left]
      rfl
    have hsz : (s.extract ((p.length : Int) + 1).toNat ((p.length : Int) + 1 + d).toNat).size = d := by rw [size_list, hn, List.length_take]; omega
    generalize hnn : s.extract ((p.length : Int) + 1).toNat ((p.length : Int) + 1 + d).toNat = n at hn hsz ⊢
    unfold word_Read.f
    rw [if_neg (by omega), if_neg (by omega), if_neg (by rw [hsz]; simp), hn]
    by_cases hr : readV (q.take d) 0 < 0
    · rw [if_pos hr, if_pos hr, bind_some', if_neg (by decide)]
    · rw [if_neg hr, if_neg hr, bind_some']
      dsimp only
      rw [if_pos rfl]
      have hdg := readV_digs (Int.le_refl 0) (Int.not_lt.1 hr)
      unfold strings_ToUpper.f
      rw [if_pos ⟨by omega, by
        rw [hn]
        refine List.all_eq_true.2 fun b hb => decide_eq_true ?_
        have h := hdg b hb
        by_cases hb8 : b.toNat < 128
        · exact hb8
        · rw [digV_hi (by omega)] at h; omega⟩, bind_some', ByteArray.toList_eq, ByteArray.toList_eq, hn]
      by_cases hu : Lib.toUpperA (q.take d) = q.take d
      · rw [if_pos hu, if_pos hu, if_pos (by omega), if_pos (by omega), if_pos (by omega)]
        unfold listing_join.f
        have e1 : (s.extract 0 (p.length : Int).toNat).data.toList = p := by rw [extract_list, hs]; simp
        have e2 : (s.extract ((p.length : Int) + 1 + d).toNat s.size).data.toList = q.drop d := by
          rw [extract_list, hs, show ((p.length : Int) + 1 + d).toNat = p.length + (d + 1) by omega, ← List.drop_drop, List.drop_left, List.drop_succ_cons, List.take_of_length_le (by simp; omega)]
        have e3 : ([s.extract 0 (p.length : Int).toNat, (⟨#[c]⟩ : ByteArray), s.extract ((p.length : Int) + 1 + d).toNat s.size].map fun x => x.data.toList).flatten = p ++ c :: q.drop d := by
          simp only [List.map_cons, List.map_nil, List.flatten_cons, List.flatten_nil, e1, e2]
          simp
        rw [e3, if_pos ⟨by simp; omega, by simp⟩, bind_some']
      · rw [if_neg hu, if_neg hu]
end Go.Proofs.YtpjbfpheenamiaaDoor.PF
/- listing.Assemble, in plain words: each line gives its bytes; what is no line is refused; condition: a text of no more than 2^47 bytes. -/
namespace Go.Proofs.YtpjbfpheenamiaaDoor.PF
open Go.RowKit Go.Proofs.YtpjbfpheenamiaaDoorW.PrintWords
set_option linter.unusedVariables false
set_option linter.unusedSimpArgs false
set_option maxRecDepth 100000
theorem uniq_split {c : UInt8} {p q r s : List UInt8} (h : p ++ c :: q = r ++ c :: s) (hr : c ∉ r) (hs : c ∉ s) : p = r ∧ q = s := by
  induction r generalizing p with
  | nil =>
    cases p with
    | nil => exact ⟨rfl, (List.cons.inj h).2⟩
    | cons b p =>
      have h2 := (List.cons.inj h).2
      exact absurd (h2 ▸ (by simp : c ∈ p ++ c :: q)) hs
  | cons a r ih =>
    cases p with
    | nil => exact absurd ((List.cons.inj h).1 ▸ (by simp : a ∈ a :: r)) hr
    | cons b p =>
      obtain ⟨e1, e2⟩ := List.cons.inj h
      obtain ⟨e3, e4⟩ := ih e2 (fun e => hr (by simp [e]))
      exact ⟨by rw [e1, e3], e4⟩
theorem first_split {c : UInt8} {l : List UInt8} (h : c ∈ l) : ∃ p q, l = p ++ c :: q ∧ c ∉ p := by
  induction l with
  | nil => cases h
  | cons a l ih =>
    by_cases e : a = c
    · subst e; exact ⟨[], l, rfl, by simp⟩
    · obtain ⟨p, q, h1, h2⟩ := ih (by rcases List.mem_cons.1 h with h | h; exact absurd h.symm e; exact h)
      exact ⟨a :: p, q, by rw [h1]; rfl, fun hm => by rcases List.mem_cons.1 hm with h | h; exact e h.symm; exact h2 h⟩
theorem noTok_not {l : List UInt8} (h : noTok l = true) : (98 : UInt8) ∉ l ∧ (119 : UInt8) ∉ l := by
  unfold noTok at h
  rw [List.all_eq_true] at h
  constructor
  · intro hm; have := h _ hm; simp at this
  · intro hm; have := h _ hm; simp at this
theorem putTok_app (h1 h2 h3 h4 : UInt8) (a b : List UInt8) : putTok h1 h2 h3 h4 (a ++ b) = putTok h1 h2 h3 h4 a ++ putTok h1 h2 h3 h4 b := by
  induction a with
  | nil => rfl
  | cons c a ih => simp only [List.cons_append, putTok, ih, List.append_assoc]
theorem putTok_no (h1 h2 h3 h4 : UInt8) {l : List UInt8} (h : noTok l = true) : putTok h1 h2 h3 h4 l = l := by
  induction l with
  | nil => rfl
  | cons c l ih =>
    unfold noTok at h
    simp only [List.all_cons, Bool.and_eq_true, bne_iff_ne, ne_eq] at h
    obtain ⟨⟨n1, n2⟩, h3⟩ := h
    have m1 : c.toNat ≠ 98 := fun e => n1 (UInt8.toNat_inj.1 e)
    have m2 : c.toNat ≠ 119 := fun e => n2 (UInt8.toNat_inj.1 e)
    have hh : noTok l = true := by unfold noTok; simpa using h3
    unfold putTok
    rw [ih hh]
    split
    · exact absurd ‹_› m1
    · exact absurd ‹_› m2
    · rfl
theorem splitT_spec (l : List UInt8) : noTok (splitT l).1 = true ∧ (((splitT l).2.1 = 0 ∧ l = (splitT l).1 ∧ (splitT l).2.2 = []) ∨ ((splitT l).2.1 = 98 ∧ l = (splitT l).1 ++ 98 :: (splitT l).2.2) ∨ ((splitT l).2.1 = 119 ∧ l = (splitT l).1 ++ 119 :: (splitT l).2.2)) := by
  induction l with
  | nil => exact ⟨rfl, .inl ⟨rfl, rfl, rfl⟩⟩
  | cons c l ih =>
    unfold splitT
    by_cases h1 : c = 98
    · rw [if_pos h1]; exact ⟨rfl, .inr (.inl ⟨rfl, by rw [h1]; rfl⟩)⟩
    · rw [if_neg h1]
      by_cases h2 : c = 119
      · rw [if_pos h2]; exact ⟨rfl, .inr (.inr ⟨rfl, by rw [h2]; rfl⟩)⟩
      · rw [if_neg h2]
        obtain ⟨i1, i2⟩ := ih
        refine ⟨?_, ?_⟩
        · show noTok (c :: (splitT l).1) = true
          unfold noTok at i1 ⊢
          rw [List.all_cons, i1, Bool.and_true]
          simp [h1, h2]
        · rcases i2 with ⟨a, b, d⟩ | ⟨a, b⟩ | ⟨a, b⟩
          · exact .inl ⟨a, congrArg (List.cons c) b, d⟩
          · exact .inr (.inl ⟨a, congrArg (List.cons c) b⟩)
          · exact .inr (.inr ⟨a, congrArg (List.cons c) b⟩)
/-- A key with no number; with a byte; with a word. -/
inductive KeyIs (op : Nat) (t : List UInt8) : Prop
  | plain (h : noTok t = true) (hb : 256 ≤ op ∧ nbT op = 2 ∨ op < 256 ∧ nbT op = 1) (hd : (36 : UInt8) ∉ t ∨ (t.takeWhile fun c => c != 36) = [82, 83, 84, 32])
  | byte (pre post : List UInt8) (e : t = pre ++ 98 :: post) (h1 : noTok pre = true) (h2 : noTok post = true) (h3 : (36 : UInt8) ∉ pre) (h4 : (36 : UInt8) ∉ post) (h5 : pre ≠ [82, 83, 84, 32]) (h6 : pre ≠ [68, 66, 32]) (h7 : post = [] ∨ ∃ r, post = 41 :: r) (hb : op < 256 ∧ nbT op = 2 ∧ op ≠ 203)
  | word (pre post : List UInt8) (e : t = pre ++ 119 :: post) (h1 : noTok pre = true) (h2 : noTok post = true) (h3 : (36 : UInt8) ∉ pre) (h4 : (36 : UInt8) ∉ post) (h5 : pre ≠ [82, 83, 84, 32]) (h6 : pre ≠ [68, 66, 32]) (h7 : post = [] ∨ ∃ r, post = 41 :: r) (hb : op < 256 ∧ nbT op = 3 ∧ op ≠ 203)
theorem all_ne {l : List UInt8} (h : (l.all fun c => c != 36) = true) : (36 : UInt8) ∉ l := by
  intro hm
  have := List.all_eq_true.1 h _ hm
  simp at this
theorem key_is {op : Nat} (h : op < 512) {t : ByteArray} (hk : bookKey op = some t) : KeyIs op t.data.toList := by
  have hb := List.all_eq_true.1 key_all op (List.mem_range.2 h)
  unfold keyB at hb
  rw [hk] at hb
  simp only [Bool.and_eq_true, Bool.or_eq_true, beq_iff_eq, bne_iff_ne, ne_eq, decide_eq_true_eq] at hb
  obtain ⟨⟨⟨⟨⟨⟨⟨⟨b1, b2⟩, b3⟩, b4⟩, b5⟩, b6⟩, b7⟩, b8⟩, b9⟩ := hb
  obtain ⟨s1, s2⟩ := splitT_spec t.data.toList
  have b4' : (splitT t.data.toList).2.2 = [] ∨ ∃ r, (splitT t.data.toList).2.2 = 41 :: r := by
    rcases b4 with ((e | e) | e) | e
    · exact .inl e
    · exact .inr ⟨_, e⟩
    · exact .inr ⟨_, e⟩
    · exact .inr ⟨_, e⟩
  rcases s2 with ⟨e0, e1, e2⟩ | ⟨e0, e1⟩ | ⟨e0, e1⟩
  · refine .plain (by rw [e1]; exact s1) ?_ ?_
    · rcases b7 with b7 | ⟨_, b7⟩
      · exact absurd e0 b7
      · rcases b7 with b7 | b7
        · rcases b8 with b8 | b8
          · omega
          · exact .inl ⟨b7, b8⟩
        · rcases b8 with b8 | b8
          · exact .inr ⟨b8, b7⟩
          · omega
    · rcases b9 with b9 | b9
      · refine .inl fun hm => ?_
        have := List.all_eq_true.1 b9 _ hm
        simp at this
      · exact .inr b9
  · rcases b1 with b1 | ⟨⟨⟨⟨b10, b11⟩, b12⟩, b13⟩, b14⟩
    · omega
    · refine .byte _ _ e1 s1 b2 (all_ne b10) (all_ne b3) b11 b14 b4' ⟨b12, ?_, b13⟩
      rcases b5 with b5 | b5
      · exact absurd e0 b5
      · exact b5
  · rcases b1 with b1 | ⟨⟨⟨⟨b10, b11⟩, b12⟩, b13⟩, b14⟩
    · omega
    · refine .word _ _ e1 s1 b2 (all_ne b10) (all_ne b3) b11 b14 b4' ⟨b12, ?_, b13⟩
      rcases b6 with b6 | b6
      · exact absurd e0 b6
      · exact b6
theorem line_plain {op : Nat} {t : ByteArray} (hk : bookKey op = some t) (h : noTok t.data.toList = true) (lo hi : Nat) : lineL op lo hi = t.data.toList := by
  unfold lineL lineT; rw [hk]; exact putTok_no _ _ _ _ h
theorem line_byte {op : Nat} {t : ByteArray} (hk : bookKey op = some t) {pre post : List UInt8} (e : t.data.toList = pre ++ 98 :: post) (h1 : noTok pre = true) (h2 : noTok post = true) (lo hi : Nat) : lineL op lo hi = pre ++ 36 :: hexd (lo / 16) :: hexd (lo % 16) :: post := by
  unfold lineL lineT
  rw [hk]
  show putTok _ _ _ _ t.data.toList = _
  rw [e, putTok_app, putTok_no _ _ _ _ h1]
  show pre ++ ([36, hexd (lo / 16), hexd (lo % 16)] ++ putTok _ _ _ _ post) = _
  rw [putTok_no _ _ _ _ h2]
  rfl
theorem line_word {op : Nat} {t : ByteArray} (hk : bookKey op = some t) {pre post : List UInt8} (e : t.data.toList = pre ++ 119 :: post) (h1 : noTok pre = true) (h2 : noTok post = true) (lo hi : Nat) : lineL op lo hi = pre ++ 36 :: hexd (hi / 16) :: hexd (hi % 16) :: hexd (lo / 16) :: hexd (lo % 16) :: post := by
  unfold lineL lineT
  rw [hk]
  show putTok _ _ _ _ t.data.toList = _
  rw [e, putTok_app, putTok_no _ _ _ _ h1]
  show pre ++ ([36, hexd (hi / 16), hexd (hi % 16), hexd (lo / 16), hexd (lo % 16)] ++ putTok _ _ _ _ post) = _
  rw [putTok_no _ _ _ _ h2]
  rfl
/-- The bytes of an instruction. -/
def bytesL (op lo hi : Nat) : List Int := if 256 ≤ op then [203, (op : Int) - 256] else if nbT op = 1 then [(op : Int)] else if nbT op = 2 then [(op : Int), (lo : Int)] else [(op : Int), (lo : Int), (hi : Int)]
theorem takeWhile_first {p q : List UInt8} (h : (36 : UInt8) ∉ p) : ((p ++ 36 :: q).takeWhile fun c => c != 36) = p := by
  induction p with
  | nil => rfl
  | cons a p ih =>
    have ha : a ≠ 36 := fun e => h (by simp [e])
    rw [List.cons_append, List.takeWhile_cons, if_pos (by simp [ha]), ih fun e => h (by simp [e])]
theorem book_no {s : ByteArray} {p q : List UInt8} (hs : s.data.toList = p ++ 36 :: q) (hp : (36 : UInt8) ∉ p) (hn : p ≠ [82, 83, 84, 32]) : bookAt 512 s = none := by
  cases hb : bookAt 512 s with
  | none => rfl
  | some op =>
    obtain ⟨i, hi, _, hk⟩ := bookAt_some hb
    have hm : (36 : UInt8) ∈ s.data.toList := by rw [hs]; simp
    cases key_is hi hk with
    | plain h hb hd =>
      rcases hd with hd | hd
      · exact absurd hm hd
      · rw [hs, takeWhile_first hp] at hd; exact absurd hd hn
    | byte pre post e h1 h2 h3 h4 _ _ _ _ => rw [e] at hm; simp at hm; rcases hm with hm | hm; exact absurd hm h3; exact absurd hm h4
    | word pre post e h1 h2 h3 h4 _ _ _ _ => rw [e] at hm; simp at hm; rcases hm with hm | hm; exact absurd hm h3; exact absurd hm h4
theorem nb_form {op : Nat} (h : op < 512) {t : ByteArray} (hk : bookKey op = some t) : ∃ f : Int × Int × Int × Int × Int × Int, listing_form.f 9 ((op : Int) % 256) (decide (255 < (op : Int))) = some f ∧ (op < 256 → f.2.2.2.1 = ((nbT op : Nat) : Int)) := by
  obtain ⟨f0, f1, f2, f3, f4, f5, hf, _⟩ := bookOk op h
  refine ⟨_, hf, fun ho => ?_⟩
  obtain ⟨g0, g1, g2, g3, g4, g5, hg, _, _, _, _, hn⟩ := formTab op ho
  have e : bookForm op = some (f0, f1, f2, f3, f4, f5) := hf
  rw [hg] at e
  injection e with e
  simp only [Prod.mk.injEq] at e
  rw [hn]
  exact e.2.2.2.1.symm
theorem arr_list (l : List UInt8) : (⟨l.toArray⟩ : ByteArray).data.toList = l := rfl
theorem asm_line {op : Nat} (h : op < 512) {t : ByteArray} (hk : bookKey op = some t) (lo hi : Nat) (hlo : lo < 256) (hhi : hi < 256) : listing_Assemble.f ⟨(lineL op lo hi).toArray⟩ = some (bytesL op lo hi, 0) := by
  have htz : t.size ≤ 100 := by
    obtain ⟨f0, f1, f2, f3, f4, f5, _, hc⟩ := bookOk op h
    rcases hc with ⟨_, hn⟩ | ⟨_, t', hz, _, ht⟩
    · rw [hk] at hn; cases hn
    · rw [hk] at ht; cases ht; exact hz
  obtain ⟨f, hf, hn⟩ := nb_form h hk
  unfold listing_Assemble.f
  cases key_is h hk with
  | plain h1 hb hd =>
    rw [line_plain hk h1]
    have e : (⟨t.data.toList.toArray⟩ : ByteArray) = t := toList_inj (arr_list _)
    rw [e, if_pos (by omega), bookAt_key h hk]
    dsimp only
    rw [hf, bind_some']
    unfold bytesL
    rcases hb with ⟨b1, b2⟩ | ⟨b1, b2⟩
    · rw [if_pos (by omega), if_pos b1]
      congr 4
      omega
    · rw [if_neg (by omega), if_pos (by rw [hn b1, b2]; rfl), if_neg (by omega), if_pos b2]
  | byte pre post e h1 h2 h3 h4 h5 h6 h7 hb =>
    rw [line_byte hk e h1 h2]
    obtain ⟨b1, b2, b3⟩ := hb
    have hl : t.size = pre.length + (post.length + 1) := by rw [size_list, e]; simp
    have hz : (⟨(pre ++ 36 :: hexd (lo / 16) :: hexd (lo % 16) :: post).toArray⟩ : ByteArray).size ≤ 200 := by rw [size_list, arr_list]; simp; omega
    have hr : readV [hexd (lo / 16), hexd (lo % 16)] 0 = (lo : Int) := by rw [read2 _ _ (by omega) (by omega)]; omega
    have hs4 : bareS (hexd (lo / 16) :: hexd (lo % 16) :: post) 4 = none := by
      unfold bareS
      rcases h7 with rfl | ⟨r, rfl⟩
      · rw [if_pos (by simp)]
      · by_cases hq : (hexd (lo / 16) :: hexd (lo % 16) :: 41 :: r).length < 4
        · rw [if_pos hq]
        · rw [if_neg hq, if_pos (readV_bad (c := 41) (by simp) (by decide) 0)]
    have hs2 : bareS (hexd (lo / 16) :: hexd (lo % 16) :: post) 2 = some (lo : Int) := by
      unfold bareS
      rw [if_neg (by simp), show (hexd (lo / 16) :: hexd (lo % 16) :: post).take 2 = [hexd (lo / 16), hexd (lo % 16)] from rfl, if_neg (by rw [hr]; omega), if_pos (upper_hex (by
        intro c hc
        simp at hc
        rcases hc with rfl | rfl
        · exact ⟨_, by omega, rfl⟩
        · exact ⟨_, by omega, rfl⟩)), hr]
    rw [if_pos (by omega), book_no (arr_list _) h3 h5]
    dsimp only
    rw [show (4 : Int) = ((4 : Nat) : Int) from rfl, bare_at (by omega) _ pre _ 4 119 (arr_list _) h3 (by omega) (by omega) (by omega), hs4]
    dsimp only
    rw [bind_some']
    unfold asmLow
    rw [if_neg (by decide), bind_some']
    dsimp only
    rw [show (2 : Int) = ((2 : Nat) : Int) from rfl, bare_at (by omega) _ pre _ 2 98 (arr_list _) h3 (by omega) (by omega) (by omega), hs2]
    dsimp only
    have e2 : (⟨(pre ++ 98 :: (hexd (lo / 16) :: hexd (lo % 16) :: post).drop 2).toArray⟩ : ByteArray) = t := toList_inj (by rw [arr_list, e]; rfl)
    rw [bind_some', if_pos rfl, e2, if_neg (by
      rw [ByteArray.toList_eq, e]
      intro e3
      exact h6 (uniq_split (p := pre) (r := [68, 66, 32]) (s := []) e3 (by decide) (by simp)).1), if_pos rfl, if_pos (by show t.size ≤ _; omega), bookAt_key h hk]
    dsimp only
    rw [if_pos (by omega), bind_some']
    unfold bytesL
    rw [if_neg (by omega), if_neg (by omega), if_pos b2]
    dsimp only
    congr 3
    · omega
    · congr 1; omega
  | word pre post e h1 h2 h3 h4 h5 h6 h7 hb =>
    rw [line_word hk e h1 h2]
    obtain ⟨b1, b2, b3⟩ := hb
    have hl : t.size = pre.length + (post.length + 1) := by rw [size_list, e]; simp
    have hz : (⟨(pre ++ 36 :: hexd (hi / 16) :: hexd (hi % 16) :: hexd (lo / 16) :: hexd (lo % 16) :: post).toArray⟩ : ByteArray).size ≤ 200 := by rw [size_list, arr_list]; simp; omega
    have hr : readV [hexd (hi / 16), hexd (hi % 16), hexd (lo / 16), hexd (lo % 16)] 0 = (hi : Int) * 256 + lo := by rw [read4 _ _ _ _ (by omega) (by omega) (by omega) (by omega)]; omega
    have hs4 : bareS (hexd (hi / 16) :: hexd (hi % 16) :: hexd (lo / 16) :: hexd (lo % 16) :: post) 4 = some ((hi : Int) * 256 + lo) := by
      unfold bareS
      rw [if_neg (by simp), show (hexd (hi / 16) :: hexd (hi % 16) :: hexd (lo / 16) :: hexd (lo % 16) :: post).take 4 = [hexd (hi / 16), hexd (hi % 16), hexd (lo / 16), hexd (lo % 16)] from rfl, if_neg (by rw [hr]; omega), if_pos (upper_hex (by
        intro c hc
        simp at hc
        rcases hc with rfl | rfl | rfl | rfl
        · exact ⟨_, by omega, rfl⟩
        · exact ⟨_, by omega, rfl⟩
        · exact ⟨_, by omega, rfl⟩
        · exact ⟨_, by omega, rfl⟩)), hr]
    rw [if_pos (by omega), book_no (arr_list _) h3 h5]
    dsimp only
    rw [show (4 : Int) = ((4 : Nat) : Int) from rfl, bare_at (by omega) _ pre _ 4 119 (arr_list _) h3 (by omega) (by omega) (by omega), hs4]
    dsimp only
    have e2 : (⟨(pre ++ 119 :: (hexd (hi / 16) :: hexd (hi % 16) :: hexd (lo / 16) :: hexd (lo % 16) :: post).drop 4).toArray⟩ : ByteArray) = t := toList_inj (by rw [arr_list, e]; rfl)
    rw [bind_some', e2]
    unfold asmLow
    rw [if_pos rfl, if_pos (by show t.size ≤ _; omega), bookAt_key h hk]
    dsimp only
    rw [if_pos (by omega), bind_some']
    unfold bytesL
    rw [if_neg (by omega), if_neg (by omega), if_neg (by omega)]
    dsimp only
    congr 3
    · omega
    · congr 1
      · omega
      · congr 1; omega
end Go.Proofs.YtpjbfpheenamiaaDoor.PF
/- listing.Assemble, in plain words: a byte's own line; and what it answers is that of a line, or a refusal; condition: a text of no more than 2^47 bytes. -/
namespace Go.Proofs.YtpjbfpheenamiaaDoor.PF
open Go.RowKit Go.Proofs.YtpjbfpheenamiaaDoorW.PrintWords
set_option linter.unusedVariables false
set_option linter.unusedSimpArgs false
set_option maxRecDepth 100000
theorem cat42 (a b : UInt8) : ((⟨#[68, 66, 32, 36]⟩ : ByteArray) ++ ⟨#[a, b]⟩) = ⟨#[68, 66, 32, 36, a, b]⟩ := rfl
theorem dbB_list (x : Nat) : (dbB x).data.toList = [68, 66, 32] ++ 36 :: [hexd (x / 16), hexd (x % 16)] := by
  unfold dbB hexB
  rw [cat42]
  rfl
theorem hexs2 {a b : Nat} (ha : a < 16) (hb : b < 16) : Lib.toUpperA [hexd a, hexd b] = [hexd a, hexd b] := upper_hex (by
  intro c hc
  simp at hc
  rcases hc with rfl | rfl
  · exact ⟨_, ha, rfl⟩
  · exact ⟨_, hb, rfl⟩)
theorem bare2_hex {a b : Nat} (ha : a < 16) (hb : b < 16) (r : List UInt8) : bareS (hexd a :: hexd b :: r) 2 = some ((a : Int) * 16 + b) := by
  unfold bareS
  rw [if_neg (by simp), show (hexd a :: hexd b :: r).take 2 = [hexd a, hexd b] from rfl, read2 a b ha hb, if_neg (by omega), if_pos (hexs2 ha hb)]
theorem asm_db (x : Nat) (h : x < 256) : listing_Assemble.f (dbB x) = some ([(x : Int)], 0) := by
  have hp : (36 : UInt8) ∉ ([68, 66, 32] : List UInt8) := by decide
  have hz : (dbB x).size = 6 := by rw [size_list, dbB_list]; rfl
  have hs4 : bareS [hexd (x / 16), hexd (x % 16)] 4 = none := by unfold bareS; rw [if_pos (by simp)]
  have hs2 : bareS [hexd (x / 16), hexd (x % 16)] 2 = some (x : Int) := by
    rw [bare2_hex (by omega) (by omega)]
    congr 1
    omega
  unfold listing_Assemble.f
  rw [if_pos (by omega), book_no (dbB_list x) hp (by decide)]
  dsimp only
  rw [show (4 : Int) = ((4 : Nat) : Int) from rfl, bare_at (by omega) _ [68, 66, 32] _ 4 119 (dbB_list x) hp (by omega) (by omega) (by omega), hs4]
  dsimp only
  rw [bind_some']
  unfold asmLow
  rw [if_neg (by decide), bind_some']
  dsimp only
  rw [show (2 : Int) = ((2 : Nat) : Int) from rfl, bare_at (by omega) _ [68, 66, 32] _ 2 98 (dbB_list x) hp (by omega) (by omega) (by omega), hs2]
  dsimp only
  rw [bind_some', if_pos rfl, if_pos (by rw [ByteArray.toList_eq]; rfl)]
  dsimp only
  congr 3
  omega
/-- A text is a line: of an opcode with its numbers, or a byte's own. -/
def IsLine (s : ByteArray) : Prop := (∃ (op lo hi : Nat) (t : ByteArray), op < 512 ∧ bookKey op = some t ∧ lo < 256 ∧ hi < 256 ∧ s = ⟨(lineL op lo hi).toArray⟩) ∨ ∃ x : Nat, x < 256 ∧ s = dbB x
theorem not_mem_of_noTok {pre post : List UInt8} {c d : UInt8} (h1 : d ∉ pre) (h2 : d ∉ post) (h3 : d ≠ c) : d ∉ pre ++ c :: post := by
  simp only [List.mem_append, List.mem_cons, not_or]
  exact ⟨h1, h3, h2⟩
/-- A found text with 'w' where the first number stood: the line of a word. -/
theorem word_line {s t : ByteArray} {p q : List UInt8} (hs : s.data.toList = p ++ 36 :: q) (ht : t.data.toList = p ++ 119 :: q.drop 4) {v : Int} (hv : bareS q 4 = some v) {i : Nat} (hi : i < 512) (hk : bookKey i = some t) : IsLine s := by
  unfold bareS at hv
  by_cases h1 : q.length < 4
  · rw [if_pos h1] at hv; cases hv
  rw [if_neg h1] at hv
  by_cases h2 : readV (q.take 4) 0 < 0
  · rw [if_pos h2] at hv; cases hv
  rw [if_neg h2] at hv
  by_cases h3 : Lib.toUpperA (q.take 4) = q.take 4
  case neg => rw [if_neg h3] at hv; cases hv
  have hx := hex_of (Int.not_lt.1 h2) h3
  obtain ⟨a, b, c, d, r, rfl⟩ : ∃ a b c d r, q = a :: b :: c :: d :: r := by
    rcases q with _ | ⟨a, _ | ⟨b, _ | ⟨c, _ | ⟨d, r⟩⟩⟩⟩
    · simp at h1
    · simp at h1
    · simp at h1
    · simp at h1
    · exact ⟨_, _, _, _, _, rfl⟩
  obtain ⟨a', ha, rfl⟩ := hx a (by simp)
  obtain ⟨b', hb, rfl⟩ := hx b (by simp)
  obtain ⟨c', hc, rfl⟩ := hx c (by simp)
  obtain ⟨d', hd, rfl⟩ := hx d (by simp)
  have ht' : t.data.toList = p ++ 119 :: r := ht
  have hm : (119 : UInt8) ∈ t.data.toList := by rw [ht']; simp
  cases key_is hi hk with
  | plain h _ _ => exact absurd hm (noTok_not h).2
  | byte pre post e n1 n2 _ _ _ _ _ _ => rw [e] at hm; exact absurd hm (not_mem_of_noTok (noTok_not n1).2 (noTok_not n2).2 (by decide))
  | word pre post e n1 n2 _ _ _ _ _ _ =>
    rw [e] at ht'
    obtain ⟨e1, e2⟩ := uniq_split ht'.symm (noTok_not n1).2 (noTok_not n2).2
    refine .inl ⟨i, c' * 16 + d', a' * 16 + b', t, hi, hk, by omega, by omega, toList_inj ?_⟩
    rw [hs, arr_list, line_word hk e n1 n2, e1, e2, show (a' * 16 + b') / 16 = a' by omega, show (a' * 16 + b') % 16 = b' by omega, show (c' * 16 + d') / 16 = c' by omega, show (c' * 16 + d') % 16 = d' by omega]
theorem two_of_bare {q : List UInt8} {v : Int} (hv : bareS q 2 = some v) : ∃ a b r, a < 16 ∧ b < 16 ∧ q = hexd a :: hexd b :: r := by
  unfold bareS at hv
  by_cases h1 : q.length < 2
  · rw [if_pos h1] at hv; cases hv
  rw [if_neg h1] at hv
  by_cases h2 : readV (q.take 2) 0 < 0
  · rw [if_pos h2] at hv; cases hv
  rw [if_neg h2] at hv
  by_cases h3 : Lib.toUpperA (q.take 2) = q.take 2
  case neg => rw [if_neg h3] at hv; cases hv
  have hx := hex_of (Int.not_lt.1 h2) h3
  rcases q with _ | ⟨a, _ | ⟨b, r⟩⟩
  · simp at h1
  · simp at h1
  · obtain ⟨a', ha, rfl⟩ := hx a (by simp)
    obtain ⟨b', hb, rfl⟩ := hx b (by simp)
    exact ⟨a', b', r, ha, hb, rfl⟩
theorem byte_line {s t : ByteArray} {p q : List UInt8} (hs : s.data.toList = p ++ 36 :: q) (ht : t.data.toList = p ++ 98 :: q.drop 2) {v : Int} (hv : bareS q 2 = some v) {i : Nat} (hi : i < 512) (hk : bookKey i = some t) : IsLine s := by
  obtain ⟨a', b', r, ha, hb, rfl⟩ := two_of_bare hv
  have ht' : t.data.toList = p ++ 98 :: r := ht
  have hm : (98 : UInt8) ∈ t.data.toList := by rw [ht']; simp
  cases key_is hi hk with
  | plain h _ _ => exact absurd hm (noTok_not h).1
  | word pre post e n1 n2 _ _ _ _ _ _ => rw [e] at hm; exact absurd hm (not_mem_of_noTok (noTok_not n1).1 (noTok_not n2).1 (by decide))
  | byte pre post e n1 n2 _ _ _ _ _ _ =>
    rw [e] at ht'
    obtain ⟨e1, e2⟩ := uniq_split ht'.symm (noTok_not n1).1 (noTok_not n2).1
    refine .inl ⟨i, a' * 16 + b', 0, t, hi, hk, by omega, by omega, toList_inj ?_⟩
    rw [hs, arr_list, line_byte hk e n1 n2, e1, e2, show (a' * 16 + b') / 16 = a' by omega, show (a' * 16 + b') % 16 = b' by omega]
theorem db_line {s : ByteArray} {p q : List UInt8} (hs : s.data.toList = p ++ 36 :: q) (ht : p ++ 98 :: q.drop 2 = [68, 66, 32, 98]) {v : Int} (hv : bareS q 2 = some v) : IsLine s := by
  obtain ⟨a', b', r, ha, hb, rfl⟩ := two_of_bare hv
  have ht' : p ++ 98 :: r = [68, 66, 32] ++ 98 :: [] := ht
  obtain ⟨e1, e2⟩ := uniq_split ht' (by decide) (by decide)
  refine .inr ⟨a' * 16 + b', by omega, toList_inj ?_⟩
  rw [hs, dbB_list, e1, e2, show (a' * 16 + b') / 16 = a' by omega, show (a' * 16 + b') % 16 = b' by omega]
/-- Each text gets an answer; what is no line is refused. -/
theorem asm_cases (s : ByteArray) (hz : s.size ≤ 140737488351232) : ∃ r, listing_Assemble.f s = some r ∧ (r = ([], 6) ∨ IsLine s) := by
  unfold listing_Assemble.f
  rw [if_pos (by omega)]
  cases h0 : bookAt 512 s with
  | some op =>
    obtain ⟨i, hi, rfl, hk⟩ := bookAt_some h0
    obtain ⟨f, hf, hn⟩ := nb_form hi hk
    dsimp only
    rw [hf, bind_some']
    cases key_is hi hk with
    | plain h1 hb hd =>
      have hl : IsLine s := .inl ⟨i, 0, 0, s, hi, hk, by omega, by omega, toList_inj (by rw [arr_list, line_plain hk h1])⟩
      split
      · exact ⟨_, rfl, .inr hl⟩
      · split
        · exact ⟨_, rfl, .inr hl⟩
        · exact ⟨_, rfl, .inl rfl⟩
    | byte pre post e n1 n2 _ _ _ _ _ hb => rw [if_neg (by omega), if_neg (by rw [hn hb.1, hb.2.1]; decide)]; exact ⟨_, rfl, .inl rfl⟩
    | word pre post e n1 n2 _ _ _ _ _ hb => rw [if_neg (by omega), if_neg (by rw [hn hb.1, hb.2.1]; decide)]; exact ⟨_, rfl, .inl rfl⟩
  | none =>
    dsimp only
    by_cases hm : (36 : UInt8) ∈ s.data.toList
    case neg =>
      rw [bare_no (by omega) s _ _ hm, bind_some']
      dsimp only
      unfold asmLow
      rw [if_neg (by decide), bind_some']
      dsimp only
      rw [bare_no (by omega) s _ _ hm, bind_some', if_neg (by decide)]
      exact ⟨_, rfl, .inl rfl⟩
    obtain ⟨p, q, hs, hp⟩ := first_split hm
    have hlen : s.size = p.length + (q.length + 1) := by rw [size_list, hs]; simp
    have second : ∃ r, ((listing_bare.f 9 s 2 ⟨#[98]⟩).bind fun b2 => if b2.2.2 = true then (if b2.1.toList = ([68, 66, 32, 98] : List UInt8) then some ([b2.2.1 % 256], (0 : Int)) else (asmLow b2.1 true).bind fun o2 => match o2 with
        | some op2 => some ([op2 % 256, b2.2.1 % 256], 0)
        | none => some ([], 6)) else some ([], 6)) = some r ∧ (r = (([] : List Int), (6 : Int)) ∨ IsLine s) := by
      rw [show (2 : Int) = ((2 : Nat) : Int) from rfl, bare_at (by omega) s p q 2 98 hs hp (by omega) (by omega) hz]
      cases hv : bareS q 2 with
      | none => dsimp only; rw [bind_some', if_neg (by decide)]; exact ⟨_, rfl, .inl rfl⟩
      | some v =>
        dsimp only
        rw [bind_some', if_pos rfl]
        by_cases hd : (⟨(p ++ 98 :: q.drop 2).toArray⟩ : ByteArray).toList = ([68, 66, 32, 98] : List UInt8)
        · rw [if_pos hd]
          rw [ByteArray.toList_eq] at hd
          exact ⟨_, rfl, .inr (db_line hs hd hv)⟩
        · rw [if_neg hd]
          unfold asmLow
          rw [if_pos rfl, if_pos (by rw [size_list, arr_list]; simp; omega)]
          cases hb : bookAt 512 (⟨(p ++ 98 :: q.drop 2).toArray⟩ : ByteArray) with
          | none => exact ⟨_, rfl, .inl rfl⟩
          | some o =>
            obtain ⟨i, hi, rfl, hk⟩ := bookAt_some hb
            dsimp only
            by_cases hlt : (i : Int) < 256
            · rw [if_pos hlt]; exact ⟨_, rfl, .inr (byte_line hs (arr_list _) hv hi hk)⟩
            · rw [if_neg hlt]; exact ⟨_, rfl, .inl rfl⟩
    rw [show (4 : Int) = ((4 : Nat) : Int) from rfl, bare_at (by omega) s p q 4 119 hs hp (by omega) (by omega) hz]
    cases hv : bareS q 4 with
    | none =>
      dsimp only
      rw [bind_some']
      have e : asmLow (⟨#[]⟩ : ByteArray) false = some none := by unfold asmLow; rw [if_neg (by decide)]
      rw [e, bind_some']
      exact second
    | some v =>
      dsimp only
      rw [bind_some']
      have e : asmLow (⟨(p ++ 119 :: q.drop 4).toArray⟩ : ByteArray) true = some (match bookAt 512 (⟨(p ++ 119 :: q.drop 4).toArray⟩ : ByteArray) with | some op => if op < 256 then some op else none | none => none) := by
        unfold asmLow; rw [if_pos rfl, if_pos (by rw [size_list, arr_list]; simp; omega)]; rfl
      rw [e, bind_some']
      cases hb : bookAt 512 (⟨(p ++ 119 :: q.drop 4).toArray⟩ : ByteArray) with
      | none => exact second
      | some o =>
        obtain ⟨i, hi, rfl, hk⟩ := bookAt_some hb
        dsimp only
        by_cases hlt : (i : Int) < 256
        · rw [if_pos hlt]; exact ⟨_, rfl, .inr (word_line hs (arr_list _) hv hi hk)⟩
        · rw [if_neg hlt]; exact second
def lineB (op lo hi : Nat) : ByteArray := ⟨(lineL op lo hi).toArray⟩
theorem key_none {op : Nat} (h : op < 512) (hk : bookKey op = none) : op < 256 ∧ nbT op = 1 := by
  have hb := List.all_eq_true.1 key_all op (List.mem_range.2 h)
  unfold keyB at hb
  rw [hk] at hb
  simp only [Bool.and_eq_true, decide_eq_true_eq, beq_iff_eq] at hb
  exact hb
theorem line_none {op : Nat} (h : op < 256) (hk : bookKey op = none) (lo hi : Nat) : lineB op lo hi = dbB op := by
  refine toList_inj ?_
  rw [dbB_list]
  show lineL op lo hi = _
  unfold lineL lineT
  rw [hk, show op % 256 / 16 = op / 16 by omega]
  rfl
end Go.Proofs.YtpjbfpheenamiaaDoor.PF
/- One line, and the bytes that it stands for: the line hangs on those bytes alone, and they are its assembly; condition: bytes. -/
namespace Go.Proofs.YtpjbfpheenamiaaDoor.PF
open Go.RowKit Go.Proofs.YtpjbfpheenamiaaDoorW.PrintWords
set_option linter.unusedVariables false
set_option linter.unusedSimpArgs false
set_option maxRecDepth 100000
end Go.Proofs.YtpjbfpheenamiaaDoor.PF
-- PRINTED by print.py (a twelfth state) out of the translation. Not trusted: Lean checks it.
namespace Go.Proofs.YtpjbfpheenamiaaDoor.PF
open Go.RowKit Go.Proofs.YtpjbfpheenamiaaDoorW.PrintWords Go.Proofs.YtpjbfpheenamiaaDoorW.PrintLast Go.Proofs.YtpjbfpheenamiaaDoorW.PrintMore
attribute [local go_sem] max2_int min2_int max_two min_two max_three min_three max_four min_four   -- for this text's walks alone
set_option linter.unusedVariables false
set_option linter.unusedSimpArgs false

/-! ### listing_All: function 20 -/
def listing_All.l0 : Nat → List Int → List ByteArray → Int → Int → Option (List Int × Int)
 | 0, _, _, _, _ => none
 | k + 1, x4, x9, x10, x11 => if x11 < x10 then (if 0 ≤ x11 then (if x11 < (x9.length : Int) then ((listing_Assemble.f (rdOf ByteArray.empty x9 x11)).bind fun bt454 => (if bt454.2 = 0 then (if x4.length + bt454.1.length < 140737488355328 then (listing_All.l0 k (x4 ++ bt454.1) x9 x10 (wrap64 (x11 + 1))) else (none)) else (some (([] : List Int), bt454.2)))) else (none)) else (none)) else (some (x4, 0))
def listing_All.f (k : Nat) (l0 : List ByteArray) : Option (List Int × Int) := listing_All.l0 k ([] : List Int) l0 (l0.length : Int) 0
theorem listing_All.mono_l : ∀ k, (∀ y0 y1 y2 y3, LeO (listing_All.l0 k y0 y1 y2 y3) (listing_All.l0 (k + 1) y0 y1 y2 y3))
 | 0 => fun _ _ _ _ r h => by simp [listing_All.l0] at h
 | k + 1 => by
  have ih0 := listing_All.mono_l k
  ·intro y0 y1 y2 y3
   unfold listing_All.l0
   repeat' first
   | (with_reducible exact ih0 _ _ _ _)
   | (with_reducible exact LeO.refl _)
   | (with_reducible exact LeO.none _)
   | (with_reducible refine LeO.ite ?_ ?_)
   | (with_reducible refine LeO.bind ?_ (fun _ => ?_))
   | exact ih0 _ _ _ _
   | exact LeO.none _
   | refine LeO.ite ?_ ?_
   | refine LeO.bind ?_ (fun _ => ?_)
theorem listing_All.mono : ∀ a0 k, LeO (listing_All.f k a0) (listing_All.f (k + 1) a0) := by
 intro a0 k
 have ih0 := listing_All.mono_l k
 unfold listing_All.f
 repeat' first
   | (with_reducible exact ih0 _ _ _ _)
   | (with_reducible exact LeO.refl _)
   | (with_reducible exact LeO.none _)
   | (with_reducible refine LeO.ite ?_ ?_)
   | (with_reducible refine LeO.bind ?_ (fun _ => ?_))
   | exact ih0 _ _ _ _
   | exact LeO.none _
   | refine LeO.ite ?_ ?_
   | refine LeO.bind ?_ (fun _ => ?_)
set_option maxHeartbeats 8000000 in
set_option maxRecDepth 100000 in
theorem listing_All.calls (k : Nat) (A0 : Option Addr) (c0 : Nat) (l0 : List ByteArray) (r1 : List Int) (r2 : Int) (w : World) (hr0 : Kd.C Kd.string w A0 l0.length l0) (hc0 : l0.length ≤ c0) (h : listing_All.f k l0 = some (r1, r2)) :
  Calls Tryd.prog 20 #[.slice A0 l0.length c0] w fun e w' => ∃ v0_ : Value, e = .returned (.tuple #[v0_, .int .i64 r2]) ∧ Kd.R (Kd.int .u8) 5 w' w.heap.size (fun _ => True) v0_ r1 ∧ Below w.heap.size w w' := by
 have HR0 := Aside0.mk hr0
 have HC0 := Aside0.mk hc0
 clear hr0 hc0
 have HB := Aside0.mk (Below.refl w.heap.size w)
 have H : (listing_All.l0 k ([] : List Int) l0 (l0.length : Int) 0) = some (r1, r2) := h
 clear h
 have H' := Aside0.mk H
 clear H
 go_enter Tryd.func20, Tryd.ntmps20
 go_wp2
 go_loopg [4, 11] k (fun kq v4 v11 w' => ∃ (x4_1 : List Int) (x11_1 : Int), v11 = .int .i64 x11_1 ∧ Aside0 (listing_All.l0 kq x4_1 l0 (l0.length : Int) x11_1 = some (r1, r2)) ∧ Aside0 (kq ≤ k) ∧ Aside0 (Kd.R (Kd.int .u8) 5 w' w.heap.size (fun _ => True) v4 x4_1) ∧ Aside0 (Below w.heap.size w w'))
 case atStart => exact ⟨(([] : List Int)), (0), (by first | rfl | (simp; done) | (simp [*]; done)), H', ⟨Nat.le_refl _⟩, ⟨by first | exact Kd.R_nil _ _ _ _ _ | exact Kd.N_nil _ _ _ _ _ | exact Kd.V_nil _ _ _ _ _ | exact Kd.Q_nil _ _ _ _ _ | exact Kd.S_nil _ _ _ _ _⟩, ⟨by repeat (first | (with_reducible first | exact HB.out | apply below_alloc | apply pw_below_drewN | apply below_drew1) | exact HB.out)⟩⟩
 case round =>
  clear H'
  obtain ⟨x4_1, x11_1, rfl, HA, HK1, HO_4, HB⟩ := hrel
  cases gk with
  | zero => exact absurd HA.out (by simp [listing_All.l0])
  | succ k1 =>
   have H := HA.out
   clear HA
   simp only [listing_All.l0] at H
   by_cases c2 : x11_1 < (l0.length : Int)
   ·rw [if_pos c2] at H
    have c2b0 : decide (x11_1 < (l0.length : Int)) = true := decide_eq_true c2
    clear c2
    by_cases c3 : 0 ≤ x11_1
    ·rw [if_pos c3] at H
     have c3b0 : decide (0 ≤ x11_1) = true := decide_eq_true c3
     clear c3
     by_cases c4 : x11_1 < (l0.length : Int)
     ·rw [if_pos c4] at H
      have c4b0 : decide (x11_1 < (l0.length : Int)) = true := decide_eq_true c4
      clear c4
      replace H := Option.bind_eq_some_iff.mp H
      obtain ⟨⟨t454, t455⟩, A50, H⟩ := H
      replace H : (if t455 = 0 then (if x4_1.length + t454.length < 140737488355328 then (listing_All.l0 k1 (x4_1 ++ t454) l0 (l0.length : Int) (wrap64 (x11_1 + 1))) else (none)) else (some (([] : List Int), t455))) = some (r1, r2) := H
      have A5 := Aside0.mk A50
      clear A50
      by_cases c6 : t455 = 0
      ·rw [if_pos c6] at H
       have c6b0 : (t455 == 0) = true := beq_iff_eq.mpr c6
       have c6b1 : (t455 != 0) = false := bne_eq_false_iff_eq.mpr c6
       clear c6
       by_cases c7 : x4_1.length + t454.length < 140737488355328
       ·rw [if_pos c7] at H
        have LMc7 := Aside0.mk c7
        clear c7
        obtain ⟨y458, hy458⟩ : ∃ y_ : List Int, y_ = (x4_1 ++ t454) := ⟨_, rfl⟩
        replace H : (listing_All.l0 k1 y458 l0 (l0.length : Int) (wrap64 (x11_1 + 1))) = some (r1, r2) := by first | (rw [hy458]; with_reducible exact H) | (have H2_ := (Option.bind_some _ _).symm.trans H; rw [hy458]; with_reducible exact H2_) | (have H2_ := (Option.bind_some _ _).symm.trans H; with_reducible exact H2_) | with_reducible exact H | (rw [hy458]; exact H) | exact H
        have Ny458 := Aside0.mk hy458
        clear hy458
        have H' := Aside0.mk H
        clear H
        have p453 : 0 ≤ (x11_1 : Int) := of_decide_eq_true (by first | (with_reducible assumption) | assumption)
        have q453 : x11_1 < (l0.length : Int) := of_decide_eq_true (by first | (with_reducible assumption) | assumption)
        obtain ⟨ad453, e453, hx453_0⟩ := Kd.at_string HR0.out x11_1 p453 q453
        cases e453
        replace hx453_0 := (HB.out.cell (World.block_lt_of_cell? w _ hx453_0)).trans hx453_0
        replace p453 := eq_true p453
        replace q453 := eq_true q453
        go_wp2_with (first | ((with_reducible refine gate_callee (f := 15) rfl ?_); refine goesL_ (some 17) rfl rfl Tryd.func15 (by kernel_rfl) rfl #[.string (rdOf ByteArray.empty l0 x11_1)] rfl (by (try simp only [List.map_toArray, List.map_cons, List.map_nil]); first | done | rfl | (simp only [List.length_drop, List.length_take]; rfl)) ?_; (with_reducible refine (listing_Assemble.calls (rdOf ByteArray.empty l0 x11_1) t454 t455 _ A5.out).mono ?_); rintro e w8 ⟨v456, rfl, ho0, hb⟩; refine ⟨_, rfl, ?_⟩; have n0_ := Aside0.mk (Kd.R_elder' (by (with_reducible repeat (first | apply Kd.R_alloc | apply Kd.R_drewN | apply Kd.R_drew)); exact HO_4.out) (Kd.R_base ho0) hb); have n1_ := Aside0.mk (Kd.R_lower (Kd.R_new' ho0 (Kd.R_lt (by (with_reducible repeat (first | apply Kd.R_alloc | apply Kd.R_drewN | apply Kd.R_drew)); exact HO_4.out))) (below_size (by repeat (first | (with_reducible first | exact HB.out | apply below_alloc | apply pw_below_drewN | apply below_drew1) | exact HB.out)))); have n2_ := Aside0.mk (below_step (by repeat (first | (with_reducible first | exact HB.out | apply below_alloc | apply pw_below_drewN | apply below_drew1) | exact HB.out)) hb); clear HO_4; clear HB; have HO_4 := n0_; have HO457 := n1_; have HB := n2_; clear n0_ n1_ n2_; (try clear hb); (try clear ho0); obtain ⟨Ao10, co10, eo10⟩ := Kd.R_slice HO457.out; subst eo10) | ((with_reducible refine gate_builtin (b := .append) (xs := #[.tmp 23, .tmp 24]) rfl ?_); at_builtin; refine Kd.R_append_rows (Kd.int .u8) (w0 := w) w.heap.size rfl (.tmp 23) (.tmp 24) 27 5 (.int .u8 0) 1 rfl Tryd.underlying27 info5 rfl (by decide) (by omega) u4 x4_1 t454 _ _ _ (fun k_ => some k_ ≠ (.slice Ao10 t454.length co10 : Value).ownBlock) (fun _ => False) rfl rfl ?aO ?aR (fun _ _ h => h) (fun _ h => h.elim) ?aF ?aB ?aS ?aL ?_; (case aR => repeat (first | exact (Kd.R_reads' HO457.out).2.2 | (with_reducible refine Kd.C_alloc ?_ _) | (with_reducible refine Kd.C_drewN ?_ _) | (with_reducible refine Kd.C_drew ?_))); (case aB => exact (by repeat (first | (with_reducible first | exact HB.out | apply below_alloc | apply pw_below_drewN | apply below_drew1) | exact HB.out))); (case aF => exact (fun k_ hk => Kd.fresh' (Kd.R_lt (by (with_reducible repeat (first | apply Kd.R_alloc | apply Kd.R_drewN | apply Kd.R_drew)); exact HO457.out)) k_ hk)); (case aO => exact (by (with_reducible repeat (first | apply Kd.R_alloc | apply Kd.R_drewN | apply Kd.R_drew)); exact Kd.R_mono HO_4.out (fun _ hk => hk.2))); (case aS => exact (below_size (by repeat (first | (with_reducible first | exact HB.out | apply below_alloc | apply pw_below_drewN | apply below_drew1) | exact HB.out)))); (case aL => have := LMc7.out; omega); intro v459 w9 ho hb hg hat; rw [← Ny458.out] at ho; have n0_ := Aside0.mk (Kd.R_after (ok := (fun _ => True)) (by (with_reducible repeat (first | apply Kd.R_alloc | apply Kd.R_drewN | apply Kd.R_drew)); exact HO457.out) hg hat); have n1_ := Aside0.mk (hb); have n2_ := Aside0.mk (ho); clear HO457; clear HB; clear HO_4; have HO457 := n0_; have HB := n1_; have HO460 := n2_; clear n0_ n1_ n2_; clear ho hb hg hat))
        go_roundg k1
        case measure => have := HK1.out; omega
        case rel => exact ⟨(y458), (wrap64 (x11_1 + 1)), (by first | rfl | (simp; done) | (simp [*]; done)), H', ⟨by have := HK1.out; omega⟩, ⟨by (with_reducible repeat (first | apply Kd.R_alloc | apply Kd.R_drewN | apply Kd.R_drew)); exact Kd.R_mono HO460.out (fun _ hk => trivial)⟩, ⟨by repeat (first | (with_reducible first | exact HB.out | apply below_alloc | apply pw_below_drewN | apply below_drew1) | exact HB.out)⟩⟩
       ·rw [if_neg c7] at H
        exact absurd H (by simp)
      ·rw [if_neg c6] at H
       have c6b0 : (t455 == 0) = false := beq_eq_false_iff_ne.mpr c6
       have c6b1 : (t455 != 0) = true := bne_iff_ne.mpr c6
       simp only [Option.some.injEq, Prod.mk.injEq] at H
       obtain ⟨rfl, rfl⟩ := H
       have p453 : 0 ≤ (x11_1 : Int) := of_decide_eq_true (by first | (with_reducible assumption) | assumption)
       have q453 : x11_1 < (l0.length : Int) := of_decide_eq_true (by first | (with_reducible assumption) | assumption)
       obtain ⟨ad453, e453, hx453_0⟩ := Kd.at_string HR0.out x11_1 p453 q453
       cases e453
       replace hx453_0 := (HB.out.cell (World.block_lt_of_cell? w _ hx453_0)).trans hx453_0
       replace p453 := eq_true p453
       replace q453 := eq_true q453
       go_wp2_with (first | ((with_reducible refine gate_callee (f := 15) rfl ?_); refine goesL_ (some 17) rfl rfl Tryd.func15 (by kernel_rfl) rfl #[.string (rdOf ByteArray.empty l0 x11_1)] rfl (by (try simp only [List.map_toArray, List.map_cons, List.map_nil]); first | done | rfl | (simp only [List.length_drop, List.length_take]; rfl)) ?_; (with_reducible refine (listing_Assemble.calls (rdOf ByteArray.empty l0 x11_1) t454 t455 _ A5.out).mono ?_); rintro e w11 ⟨v456, rfl, ho0, hb⟩; refine ⟨_, rfl, ?_⟩; have n0_ := Aside0.mk (Kd.R_elder' (by (with_reducible repeat (first | apply Kd.R_alloc | apply Kd.R_drewN | apply Kd.R_drew)); exact HO_4.out) (Kd.R_base ho0) hb); have n1_ := Aside0.mk (Kd.R_lower (Kd.R_new' ho0 (Kd.R_lt (by (with_reducible repeat (first | apply Kd.R_alloc | apply Kd.R_drewN | apply Kd.R_drew)); exact HO_4.out))) (below_size (by repeat (first | (with_reducible first | exact HB.out | apply below_alloc | apply pw_below_drewN | apply below_drew1) | exact HB.out)))); have n2_ := Aside0.mk (below_step (by repeat (first | (with_reducible first | exact HB.out | apply below_alloc | apply pw_below_drewN | apply below_drew1) | exact HB.out)) hb); clear HO_4; clear HB; have HO_4 := n0_; have HO457 := n1_; have HB := n2_; clear n0_ n1_ n2_; (try clear hb); (try clear ho0)))
       go_ret2
       exact ⟨_, by first | rfl | (simp [errW_none, errW_some] <;> rfl) | (simp [*, errW_none, errW_some] <;> rfl), by first | exact Kd.R_nil _ _ _ _ _ | exact Kd.N_nil _ _ _ _ _ | exact Kd.V_nil _ _ _ _ _ | exact Kd.Q_nil _ _ _ _ _ | exact Kd.S_nil _ _ _ _ _, by repeat (first | (with_reducible first | exact HB.out | apply below_alloc | apply pw_below_drewN | apply below_drew1) | exact HB.out)⟩
     ·rw [if_neg c4] at H
      exact absurd H (by simp)
    ·rw [if_neg c3] at H
     exact absurd H (by simp)
   ·rw [if_neg c2] at H
    have c2b0 : decide (x11_1 < (l0.length : Int)) = false := decide_eq_false c2
    clear c2
    simp only [Option.some.injEq, Prod.mk.injEq] at H
    obtain ⟨rfl, rfl⟩ := H
    go_wp2
    go_ret2
    exact ⟨_, by first | rfl | (simp [errW_none, errW_some] <;> rfl) | (simp [*, errW_none, errW_some] <;> rfl), by (with_reducible repeat (first | apply Kd.R_alloc | apply Kd.R_drewN | apply Kd.R_drew)); exact HO_4.out, by repeat (first | (with_reducible first | exact HB.out | apply below_alloc | apply pw_below_drewN | apply below_drew1) | exact HB.out)⟩

end Go.Proofs.YtpjbfpheenamiaaDoor.PF
/- The program's All over any lines: one behind the other, the first refusal ends it; condition: every line is answered, with no more than three bytes. -/
namespace Go.Proofs.YtpjbfpheenamiaaDoor.PF
open Go.RowKit Go.Proofs.YtpjbfpheenamiaaDoorW.PrintWords
set_option linter.unusedVariables false
set_option linter.unusedSimpArgs false
set_option maxRecDepth 100000
def allS : List ByteArray → List Int → List Int × Int
  | [], acc => (acc, 0)
  | s :: L, acc => match listing_Assemble.f s with
    | none => ([], 6)
    | some r => if r.2 = 0 then allS L (acc ++ r.1) else ([], r.2)
theorem allS_cons (s : ByteArray) (L : List ByteArray) (acc : List Int) : allS (s :: L) acc = match listing_Assemble.f s with
    | none => ([], 6)
    | some r => if r.2 = 0 then allS L (acc ++ r.1) else ([], r.2) := rfl
theorem rd_drop {L : List ByteArray} {i : Nat} {s : ByteArray} {R : List ByteArray} (h : L.drop i = s :: R) : rdOf ByteArray.empty L (i : Int) = s ∧ i < L.length ∧ L.drop (i + 1) = R := by
  have hl : i < L.length := by
    refine Nat.lt_of_not_le fun e => ?_
    rw [List.drop_eq_nil_of_le e] at h
    cases h
  rw [List.drop_eq_getElem_cons hl] at h
  injection h with h1 h2
  refine ⟨?_, hl, h2⟩
  unfold rdOf
  rw [Int.toNat_natCast, List.getD_eq_getElem?_getD, List.getElem?_eq_getElem hl, ← h1]
  rfl
theorem all_prog (L : List ByteArray) (hL : L.length ≤ 9000000000000) (h : ∀ s ∈ L, ∃ r, listing_Assemble.f s = some r ∧ r.1.length ≤ 3) : ∀ (d i : Nat) (acc : List Int) (k : Nat), d + i = L.length → acc.length + 3 * d < 140737488355328 → d + 1 ≤ k →
    listing_All.l0 k acc L (L.length : Int) (i : Int) = some (allS (L.drop i) acc) := by
  intro d
  induction d with
  | zero =>
    intro i acc k hd ha hk
    obtain ⟨k, rfl⟩ : ∃ m, k = m + 1 := ⟨k - 1, by omega⟩
    rw [listing_All.l0, if_neg (by omega), List.drop_eq_nil_of_le (by omega)]
    rfl
  | succ d ih =>
    intro i acc k hd ha hk
    obtain ⟨k, rfl⟩ : ∃ m, k = m + 1 := ⟨k - 1, by omega⟩
    cases hdr : L.drop i with
    | nil => have : L.length ≤ i := List.drop_eq_nil_iff.1 hdr; omega
    | cons s R =>
      obtain ⟨e1, e2, e3⟩ := rd_drop hdr
      obtain ⟨r, hr, h3⟩ := h s (List.mem_of_mem_drop (i := i) (by rw [hdr]; simp))
      rw [listing_All.l0, if_pos (by omega), if_pos (by omega), if_pos (by omega), e1, hr, bind_some', allS_cons, hr]
      dsimp only
      by_cases h0 : r.2 = 0
      · rw [if_pos h0, if_pos h0, if_pos (by omega), wrap64_id (by omega) (by omega), ← e3]
        exact ih (i + 1) (acc ++ r.1) k (by omega) (by rw [List.length_append]; omega) (by omega)
      · rw [if_neg h0, if_neg h0]
theorem allP {k : Nat} (L : List ByteArray) (hL : L.length ≤ 9000000000000) (h : ∀ s ∈ L, ∃ r, listing_Assemble.f s = some r ∧ r.1.length ≤ 3) (hk : L.length + 1 ≤ k) : listing_All.f k L = some (allS L []) := by
  unfold listing_All.f
  have := all_prog L hL h L.length 0 [] k (by omega) (by simp; omega) hk
  rw [List.drop_zero] at this
  exact this
end Go.Proofs.YtpjbfpheenamiaaDoor.PF
-- PRINTED by print.py (a twelfth state) out of the translation. Not trusted: Lean checks it.
namespace Go.Proofs.YtpjbfpheenamiaaDoor.PF
open Go.RowKit Go.Proofs.YtpjbfpheenamiaaDoorW.PrintWords Go.Proofs.YtpjbfpheenamiaaDoorW.PrintLast Go.Proofs.YtpjbfpheenamiaaDoorW.PrintMore
attribute [local go_sem] max2_int min2_int max_two min_two max_three min_three max_four min_four   -- for this text's walks alone
set_option linter.unusedVariables false
set_option linter.unusedSimpArgs false

/-! ### whirligigref01_worth: function 84 -/
def whirligigref01_worth.l0 : Nat → Int → Int → Option (Int)
 | 0, _, _ => none
 | k + 1, x0, x3 => if x3 < 16 then ((whirligigref01_sign.f x3).bind fun t377 => (if 0 < (t377.size : Int) then (if (bt t377 0) = x0 then (some x3) else (if x3 > 9 then (if (((bt t377 0) + 32) % 256) = x0 then (some x3) else (whirligigref01_worth.l0 k x0 (wrap64 (x3 + 1)))) else (whirligigref01_worth.l0 k x0 (wrap64 (x3 + 1))))) else (none))) else (some (-1))
def whirligigref01_worth.f (k : Nat) (a0 : Int) : Option (Int) := whirligigref01_worth.l0 k a0 0
theorem whirligigref01_worth.mono_l : ∀ k, (∀ y0 y1, LeO (whirligigref01_worth.l0 k y0 y1) (whirligigref01_worth.l0 (k + 1) y0 y1))
 | 0 => fun _ _ r h => by simp [whirligigref01_worth.l0] at h
 | k + 1 => by
  have ih0 := whirligigref01_worth.mono_l k
  ·intro y0 y1
   unfold whirligigref01_worth.l0
   repeat' first
   | (with_reducible exact ih0 _ _)
   | (with_reducible exact LeO.refl _)
   | (with_reducible exact LeO.none _)
   | (with_reducible refine LeO.ite ?_ ?_)
   | (with_reducible refine LeO.bind ?_ (fun _ => ?_))
   | exact ih0 _ _
   | exact LeO.none _
   | refine LeO.ite ?_ ?_
   | refine LeO.bind ?_ (fun _ => ?_)
theorem whirligigref01_worth.mono : ∀ a0 k, LeO (whirligigref01_worth.f k a0) (whirligigref01_worth.f (k + 1) a0) := by
 intro a0 k
 have ih0 := whirligigref01_worth.mono_l k
 unfold whirligigref01_worth.f
 repeat' first
   | (with_reducible exact ih0 _ _)
   | (with_reducible exact LeO.refl _)
   | (with_reducible exact LeO.none _)
   | (with_reducible refine LeO.ite ?_ ?_)
   | (with_reducible refine LeO.bind ?_ (fun _ => ?_))
   | exact ih0 _ _
   | exact LeO.none _
   | refine LeO.ite ?_ ?_
   | refine LeO.bind ?_ (fun _ => ?_)
set_option maxHeartbeats 8000000 in
set_option maxRecDepth 100000 in
theorem whirligigref01_worth.calls (k : Nat) (a0 : Int) (r : Int) (w : World) (h : whirligigref01_worth.f k a0 = some r) :
  Calls Tryd.prog 84 #[.int .u8 a0] w fun e w' => e = .returned (.int .i64 r) ∧ Drawn0 w w' := by
 have H : (whirligigref01_worth.l0 k a0 0) = some r := h
 clear h
 have H' := Aside0.mk H
 clear H
 go_enter Tryd.func84, Tryd.ntmps84
 go_wp2
 go_loopg [3] k (fun kq v3 w' => ∃ (x3_1 : Int), v3 = .int .i64 x3_1 ∧ Aside0 (whirligigref01_worth.l0 kq a0 x3_1 = some r) ∧ Aside0 (kq ≤ k) ∧ Drawn0 w w')
 case atStart => exact ⟨(0), (by first | rfl | (simp; done) | (simp [*]; done)), H', ⟨Nat.le_refl _⟩, by repeat (first | exact Drawn0.refl _ | apply Drawn0.step)⟩
 case round =>
  clear H'
  obtain ⟨x3_1, rfl, HA, HK1, ⟨m1, rfl⟩⟩ := hrel
  cases gk with
  | zero => exact absurd HA.out (by simp [whirligigref01_worth.l0])
  | succ k1 =>
   have H := HA.out
   clear HA
   simp only [whirligigref01_worth.l0] at H
   by_cases c2 : x3_1 < 16
   ·rw [if_pos c2] at H
    have c2b0 : decide (x3_1 < 16) = true := decide_eq_true c2
    clear c2
    replace H := Option.bind_eq_some_iff.mp H
    obtain ⟨t377, A30, H⟩ := H
    replace H : (if 0 < (t377.size : Int) then (if (bt t377 0) = a0 then (some x3_1) else (if x3_1 > 9 then (if (((bt t377 0) + 32) % 256) = a0 then (some x3_1) else (whirligigref01_worth.l0 k1 a0 (wrap64 (x3_1 + 1)))) else (whirligigref01_worth.l0 k1 a0 (wrap64 (x3_1 + 1))))) else (none)) = some r := H
    have A3 := Aside0.mk A30
    clear A30
    by_cases c4 : 0 < (t377.size : Int)
    ·rw [if_pos c4] at H
     have c4b0 : decide (0 < (t377.size : Int)) = true := decide_eq_true c4
     have c4b1 : decide (0 < t377.size) = true := decide_eq_true (by omega)
     clear c4
     by_cases c6 : (bt t377 0) = a0
     ·rw [if_pos c6] at H
      have c6b0 : ((bt t377 0) == a0) = true := beq_iff_eq.mpr c6
      have c6b1 : ((bt t377 0) != a0) = false := bne_eq_false_iff_eq.mpr c6
      clear c6
      obtain rfl := Option.some.inj H
      go_wp2_with (first | ((with_reducible refine gate_callee (f := 57) rfl ?_); refine goesL_ (some 10) rfl rfl Tryd.func57 (by kernel_rfl) rfl #[.int .i64 x3_1] rfl (by (try simp only [List.map_toArray, List.map_cons, List.map_nil]); first | done | rfl | (simp only [List.length_drop, List.length_take]; rfl)) ?_; (with_reducible refine (whirligigref01_sign.calls x3_1 t377 _ A3.out).mono ?_); rintro e w' ⟨rfl, ⟨nd, rfl⟩⟩; refine ⟨_, rfl, ?_⟩; have p5 : 0 ≤ (0 : Int) := (by omega); have q5 : 0 < t377.size := (by have : (0 : Int) < (t377.size : Int) := of_decide_eq_true (by first | (with_reducible assumption) | assumption); omega); have hx5 : ∀ h : 0 < t377.size, ((t377[0]'h).toNat : Int) = bt t377 0 := bt_at t377 0; clear p5; have qi5 : (0 < (t377.size : Int)) = True := eq_true (of_decide_eq_true (by first | (with_reducible assumption) | assumption)); replace q5 := eq_true q5))
      go_ret
      exact ⟨by first | rfl | (simp; done) | (simp [*]; done), by repeat (first | exact Drawn0.refl _ | apply Drawn0.step)⟩
     ·rw [if_neg c6] at H
      have c6b0 : ((bt t377 0) == a0) = false := beq_eq_false_iff_ne.mpr c6
      have c6b1 : ((bt t377 0) != a0) = true := bne_iff_ne.mpr c6
      by_cases c7 : x3_1 > 9
      ·rw [if_pos c7] at H
       have c7b0 : decide (9 < x3_1) = true := decide_eq_true c7
       clear c7
       by_cases c9 : (((bt t377 0) + 32) % 256) = a0
       ·rw [if_pos c9] at H
        have c9b0 : ((((bt t377 0) + 32) % 256) == a0) = true := beq_iff_eq.mpr c9
        have c9b1 : ((((bt t377 0) + 32) % 256) != a0) = false := bne_eq_false_iff_eq.mpr c9
        clear c9
        obtain rfl := Option.some.inj H
        go_wp2_with (first | ((with_reducible refine gate_callee (f := 57) rfl ?_); refine goesL_ (some 10) rfl rfl Tryd.func57 (by kernel_rfl) rfl #[.int .i64 x3_1] rfl (by (try simp only [List.map_toArray, List.map_cons, List.map_nil]); first | done | rfl | (simp only [List.length_drop, List.length_take]; rfl)) ?_; (with_reducible refine (whirligigref01_sign.calls x3_1 t377 _ A3.out).mono ?_); rintro e w' ⟨rfl, ⟨nd, rfl⟩⟩; refine ⟨_, rfl, ?_⟩; have p5 : 0 ≤ (0 : Int) := (by omega); have q5 : 0 < t377.size := (by have : (0 : Int) < (t377.size : Int) := of_decide_eq_true (by first | (with_reducible assumption) | assumption); omega); have hx5 : ∀ h : 0 < t377.size, ((t377[0]'h).toNat : Int) = bt t377 0 := bt_at t377 0; clear p5; have qi5 : (0 < (t377.size : Int)) = True := eq_true (of_decide_eq_true (by first | (with_reducible assumption) | assumption)); replace q5 := eq_true q5; have p8 : 0 ≤ (0 : Int) := (by omega); have q8 : 0 < t377.size := (by have : (0 : Int) < (t377.size : Int) := of_decide_eq_true (by first | (with_reducible assumption) | assumption); omega); have hx8 : ∀ h : 0 < t377.size, ((t377[0]'h).toNat : Int) = bt t377 0 := bt_at t377 0; clear p8; have qi8 : (0 < (t377.size : Int)) = True := eq_true (of_decide_eq_true (by first | (with_reducible assumption) | assumption)); replace q8 := eq_true q8))
        go_ret
        exact ⟨by first | rfl | (simp; done) | (simp [*]; done), by repeat (first | exact Drawn0.refl _ | apply Drawn0.step)⟩
       ·rw [if_neg c9] at H
        have c9b0 : ((((bt t377 0) + 32) % 256) == a0) = false := beq_eq_false_iff_ne.mpr c9
        have c9b1 : ((((bt t377 0) + 32) % 256) != a0) = true := bne_iff_ne.mpr c9
        have H' := Aside0.mk H
        clear H
        go_wp2_with (first | ((with_reducible refine gate_callee (f := 57) rfl ?_); refine goesL_ (some 10) rfl rfl Tryd.func57 (by kernel_rfl) rfl #[.int .i64 x3_1] rfl (by (try simp only [List.map_toArray, List.map_cons, List.map_nil]); first | done | rfl | (simp only [List.length_drop, List.length_take]; rfl)) ?_; (with_reducible refine (whirligigref01_sign.calls x3_1 t377 _ A3.out).mono ?_); rintro e w' ⟨rfl, ⟨nd, rfl⟩⟩; refine ⟨_, rfl, ?_⟩; have p5 : 0 ≤ (0 : Int) := (by omega); have q5 : 0 < t377.size := (by have : (0 : Int) < (t377.size : Int) := of_decide_eq_true (by first | (with_reducible assumption) | assumption); omega); have hx5 : ∀ h : 0 < t377.size, ((t377[0]'h).toNat : Int) = bt t377 0 := bt_at t377 0; clear p5; have qi5 : (0 < (t377.size : Int)) = True := eq_true (of_decide_eq_true (by first | (with_reducible assumption) | assumption)); replace q5 := eq_true q5; have p8 : 0 ≤ (0 : Int) := (by omega); have q8 : 0 < t377.size := (by have : (0 : Int) < (t377.size : Int) := of_decide_eq_true (by first | (with_reducible assumption) | assumption); omega); have hx8 : ∀ h : 0 < t377.size, ((t377[0]'h).toNat : Int) = bt t377 0 := bt_at t377 0; clear p8; have qi8 : (0 < (t377.size : Int)) = True := eq_true (of_decide_eq_true (by first | (with_reducible assumption) | assumption)); replace q8 := eq_true q8))
        go_roundg k1
        case measure => have := HK1.out; omega
        case rel => exact ⟨(wrap64 (x3_1 + 1)), (by first | rfl | (simp; done) | (simp [*]; done)), H', ⟨by have := HK1.out; omega⟩, by repeat (first | exact Drawn0.refl _ | apply Drawn0.step)⟩
      ·rw [if_neg c7] at H
       have c7b0 : decide (9 < x3_1) = false := decide_eq_false c7
       clear c7
       have H' := Aside0.mk H
       clear H
       go_wp2_with (first | ((with_reducible refine gate_callee (f := 57) rfl ?_); refine goesL_ (some 10) rfl rfl Tryd.func57 (by kernel_rfl) rfl #[.int .i64 x3_1] rfl (by (try simp only [List.map_toArray, List.map_cons, List.map_nil]); first | done | rfl | (simp only [List.length_drop, List.length_take]; rfl)) ?_; (with_reducible refine (whirligigref01_sign.calls x3_1 t377 _ A3.out).mono ?_); rintro e w' ⟨rfl, ⟨nd, rfl⟩⟩; refine ⟨_, rfl, ?_⟩; have p5 : 0 ≤ (0 : Int) := (by omega); have q5 : 0 < t377.size := (by have : (0 : Int) < (t377.size : Int) := of_decide_eq_true (by first | (with_reducible assumption) | assumption); omega); have hx5 : ∀ h : 0 < t377.size, ((t377[0]'h).toNat : Int) = bt t377 0 := bt_at t377 0; clear p5; have qi5 : (0 < (t377.size : Int)) = True := eq_true (of_decide_eq_true (by first | (with_reducible assumption) | assumption)); replace q5 := eq_true q5))
       go_roundg k1
       case measure => have := HK1.out; omega
       case rel => exact ⟨(wrap64 (x3_1 + 1)), (by first | rfl | (simp; done) | (simp [*]; done)), H', ⟨by have := HK1.out; omega⟩, by repeat (first | exact Drawn0.refl _ | apply Drawn0.step)⟩
    ·rw [if_neg c4] at H
     exact absurd H (by simp)
   ·rw [if_neg c2] at H
    have c2b0 : decide (x3_1 < 16) = false := decide_eq_false c2
    clear c2
    obtain rfl := Option.some.inj H
    go_wp2
    go_ret
    exact ⟨by first | rfl | (simp; done) | (simp [*]; done), by repeat (first | exact Drawn0.refl _ | apply Drawn0.step)⟩

end Go.Proofs.YtpjbfpheenamiaaDoor.PF
-- PRINTED by print.py (a twelfth state) out of the translation. Not trusted: Lean checks it.
namespace Go.Proofs.YtpjbfpheenamiaaDoor.PF
open Go.RowKit Go.Proofs.YtpjbfpheenamiaaDoorW.PrintWords Go.Proofs.YtpjbfpheenamiaaDoorW.PrintLast Go.Proofs.YtpjbfpheenamiaaDoorW.PrintMore
attribute [local go_sem] max2_int min2_int max_two min_two max_three min_three max_four min_four   -- for this text's walks alone
set_option linter.unusedVariables false
set_option linter.unusedSimpArgs false

/-! ### whirligigref01_Read: function 61 -/
mutual
def whirligigref01_Read.j0 : Nat → ByteArray → Int → Bool → Option (Int × Int)
 | 0, _, _, _ => none
 | k + 1, x0, x1, x14 => if x14 = true then (some (0, 1)) else (if (x0.size : Int) = x1 then (whirligigref01_Read.l0 k x0 0 0) else (some (0, 6)))
def whirligigref01_Read.l0 : Nat → ByteArray → Int → Int → Option (Int × Int)
 | 0, _, _, _ => none
 | k + 1, x0, x6, x7 => if x7 < (x0.size : Int) then (if 0 ≤ x7 then ((whirligigref01_worth.f k (bt x0 x7)).bind fun t378 => (if t378 < 0 then (some (0, 6)) else (whirligigref01_Read.l0 k x0 (wrap64 ((wrap64 (x6 * 16)) + t378)) (wrap64 (x7 + 1))))) else (none)) else (some (IntKind.u16.wrap (x6), 0))
end
def whirligigref01_Read.f (k : Nat) (a0 : ByteArray) (a1 : Int) : Option (Int × Int) := if a1 < 1 then (whirligigref01_Read.j0 k a0 a1 true) else (whirligigref01_Read.j0 k a0 a1 (decide (a1 > 4)))
theorem whirligigref01_Read.mono_l : ∀ k, (∀ y0 y1 y2, LeO (whirligigref01_Read.j0 k y0 y1 y2) (whirligigref01_Read.j0 (k + 1) y0 y1 y2)) ∧ (∀ y0 y1 y2, LeO (whirligigref01_Read.l0 k y0 y1 y2) (whirligigref01_Read.l0 (k + 1) y0 y1 y2))
 | 0 => ⟨fun _ _ _ r h => by simp [whirligigref01_Read.j0] at h, fun _ _ _ r h => by simp [whirligigref01_Read.l0] at h⟩
 | k + 1 => by
  obtain ⟨ih0, ih1⟩ := whirligigref01_Read.mono_l k
  refine ⟨?_, ?_⟩
  ·intro y0 y1 y2
   unfold whirligigref01_Read.j0
   repeat' first
   | (with_reducible exact ih0 _ _ _)
   | (with_reducible exact ih1 _ _ _)
   | (with_reducible exact whirligigref01_worth.mono _ _)
   | (with_reducible exact LeO.refl _)
   | (with_reducible exact LeO.none _)
   | (with_reducible refine LeO.ite ?_ ?_)
   | (with_reducible refine LeO.bind ?_ (fun _ => ?_))
   | exact ih0 _ _ _
   | exact ih1 _ _ _
   | exact whirligigref01_worth.mono _ _
   | exact LeO.none _
   | refine LeO.ite ?_ ?_
   | refine LeO.bind ?_ (fun _ => ?_)
  ·intro y0 y1 y2
   unfold whirligigref01_Read.l0
   repeat' first
   | (with_reducible exact ih0 _ _ _)
   | (with_reducible exact ih1 _ _ _)
   | (with_reducible exact whirligigref01_worth.mono _ _)
   | (with_reducible exact LeO.refl _)
   | (with_reducible exact LeO.none _)
   | (with_reducible refine LeO.ite ?_ ?_)
   | (with_reducible refine LeO.bind ?_ (fun _ => ?_))
   | exact ih0 _ _ _
   | exact ih1 _ _ _
   | exact whirligigref01_worth.mono _ _
   | exact LeO.none _
   | refine LeO.ite ?_ ?_
   | refine LeO.bind ?_ (fun _ => ?_)
theorem whirligigref01_Read.mono : ∀ a0 a1 k, LeO (whirligigref01_Read.f k a0 a1) (whirligigref01_Read.f (k + 1) a0 a1) := by
 intro a0 a1 k
 obtain ⟨ih0, ih1⟩ := whirligigref01_Read.mono_l k
 unfold whirligigref01_Read.f
 repeat' first
   | (with_reducible exact ih0 _ _ _)
   | (with_reducible exact ih1 _ _ _)
   | (with_reducible exact whirligigref01_worth.mono _ _)
   | (with_reducible exact LeO.refl _)
   | (with_reducible exact LeO.none _)
   | (with_reducible refine LeO.ite ?_ ?_)
   | (with_reducible refine LeO.bind ?_ (fun _ => ?_))
   | exact ih0 _ _ _
   | exact ih1 _ _ _
   | exact whirligigref01_worth.mono _ _
   | exact LeO.none _
   | refine LeO.ite ?_ ?_
   | refine LeO.bind ?_ (fun _ => ?_)
set_option maxHeartbeats 8000000 in
set_option maxRecDepth 100000 in
theorem whirligigref01_Read.calls (k : Nat) (a0 : ByteArray) (a1 : Int) (r1 : Int) (r2 : Int) (w : World) (h : whirligigref01_Read.f k a0 a1 = some (r1, r2)) :
  Calls Tryd.prog 61 #[.string a0, .int .i64 a1] w fun e w' => e = .returned (.tuple #[.int .u16 r1, .int .i64 r2]) ∧ Drawn0 w w' := by
 have H : (if a1 < 1 then (whirligigref01_Read.j0 k a0 a1 true) else (whirligigref01_Read.j0 k a0 a1 (decide (a1 > 4)))) = some (r1, r2) := h
 clear h
 have HC3 := Aside0.mk H
 clear H
 go_enter Tryd.func61, Tryd.ntmps61
 go_upto_region 1 with (fail)
 go_cut [14] (fun v14 wc => ∃ (kq : Nat) (x14_2 : Bool), v14 = .bool x14_2 ∧ Aside0 (whirligigref01_Read.j0 kq a0 a1 x14_2 = some (r1, r2)) ∧ Aside0 (kq ≤ k) ∧ Drawn0 w wc)
 case first =>
  have H := HC3.out
  clear HC3
  by_cases c4 : a1 < 1
  ·rw [if_pos c4] at H
   have c4b0 : decide (a1 < 1) = true := decide_eq_true c4
   clear c4
   (first | rw [c4b0] | (simp only [i64_w, i32_w]; rw [c4b0]) | skip)
   have H' := Aside0.mk H
   clear H
   go_wp2
   go_meet
   case rel => exact ⟨_, (true), (by first | rfl | (simp; done) | (simp [*]; done)), H', ⟨by first | omega | exact Nat.le_refl _⟩, by repeat (first | exact Drawn0.refl _ | apply Drawn0.step)⟩
  ·rw [if_neg c4] at H
   have c4b0 : decide (a1 < 1) = false := decide_eq_false c4
   clear c4
   (first | rw [c4b0] | (simp only [i64_w, i32_w]; rw [c4b0]) | skip)
   have H' := Aside0.mk H
   clear H
   go_wp2
   go_meet
   case rel => exact ⟨_, (decide (a1 > 4)), (by first | rfl | (simp; done) | (simp [*]; done)), H', ⟨by first | omega | exact Nat.le_refl _⟩, by repeat (first | exact Drawn0.refl _ | apply Drawn0.step)⟩
 case rest =>
  clear HC3
  obtain ⟨kq, x14_2, rfl, HA, HJ2, ⟨mc2, rfl⟩⟩ := hcut
  cases kq with
  | zero => exact absurd HA.out (by simp [whirligigref01_Read.j0])
  | succ kj2 =>
   have H := HA.out
   clear HA
   simp only [whirligigref01_Read.j0] at H
   by_cases c5 : x14_2 = true
   ·subst c5
    rw [if_pos rfl] at H
    simp only [Option.some.injEq, Prod.mk.injEq] at H
    obtain ⟨rfl, rfl⟩ := H
    go_wp2
    go_ret2
    exact ⟨by first | rfl | (simp; done) | (simp [*]; done), by repeat (first | exact Drawn0.refl _ | apply Drawn0.step)⟩
   ·replace c5 := Bool.eq_false_iff.mpr c5
    subst c5
    have H1 : (if (a0.size : Int) = a1 then (whirligigref01_Read.l0 kj2 a0 0 0) else (some (0, 6))) = some (r1, r2) := by rw [if_neg (show ¬ (false = true) by decide)] at H; exact H
    clear H
    have H := H1
    clear H1
    by_cases c6 : (a0.size : Int) = a1
    ·rw [if_pos c6] at H
     have c6b0 : ((a0.size : Int) == a1) = true := beq_iff_eq.mpr c6
     have c6b1 : ((a0.size : Int) != a1) = false := bne_eq_false_iff_eq.mpr c6
     clear c6
     have H' := Aside0.mk H
     clear H
     go_wp2
     go_loopg [6, 7] kj2 (fun kq v6 v7 w' => ∃ (x6_2 : Int) (x7_2 : Int), v6 = .int .i64 x6_2 ∧ v7 = .int .i64 x7_2 ∧ Aside0 (whirligigref01_Read.l0 kq a0 x6_2 x7_2 = some (r1, r2)) ∧ Aside0 (kq ≤ kj2) ∧ Drawn0 w w')
     case atStart => exact ⟨(0), (0), (by first | rfl | (simp; done) | (simp [*]; done)), (by first | rfl | (simp; done) | (simp [*]; done)), H', ⟨Nat.le_refl _⟩, by repeat (first | exact Drawn0.refl _ | apply Drawn0.step)⟩
     case round =>
      clear H'
      try clear c5
      try clear c6
      try clear c6b0
      try clear c6b1
      obtain ⟨x6_2, x7_2, rfl, rfl, HA, HK2, ⟨m2, rfl⟩⟩ := hrel
      cases gk with
      | zero => exact absurd HA.out (by simp [whirligigref01_Read.l0])
      | succ k2 =>
       have H := HA.out
       clear HA
       simp only [whirligigref01_Read.l0] at H
       by_cases c7 : x7_2 < (a0.size : Int)
       ·rw [if_pos c7] at H
        have c7b0 : decide (x7_2 < (a0.size : Int)) = true := decide_eq_true c7
        clear c7
        by_cases c8 : 0 ≤ x7_2
        ·rw [if_pos c8] at H
         have c8b0 : decide (0 ≤ x7_2) = true := decide_eq_true c8
         clear c8
         replace H := Option.bind_eq_some_iff.mp H
         obtain ⟨t378, A100, H⟩ := H
         replace H : (if t378 < 0 then (some (0, 6)) else (whirligigref01_Read.l0 k2 a0 (wrap64 ((wrap64 (x6_2 * 16)) + t378)) (wrap64 (x7_2 + 1)))) = some (r1, r2) := H
         have A10 := Aside0.mk A100
         clear A100
         by_cases c11 : t378 < 0
         ·rw [if_pos c11] at H
          have c11b0 : decide (t378 < 0) = true := decide_eq_true c11
          clear c11
          simp only [Option.some.injEq, Prod.mk.injEq] at H
          obtain ⟨rfl, rfl⟩ := H
          have p9 : 0 ≤ (x7_2 : Int) := of_decide_eq_true (by first | (with_reducible assumption) | assumption)
          have q9 : x7_2 < (a0.size : Int) := of_decide_eq_true (by first | (with_reducible assumption) | assumption)
          have hx9 := bt_at a0 x7_2
          replace p9 := eq_true p9
          replace q9 := eq_true q9
          go_wp2_with (first | ((with_reducible refine gate_callee (f := 84) rfl ?_); refine goesL_ (some 28) rfl rfl Tryd.func84 (by kernel_rfl) rfl #[.int .u8 (bt a0 x7_2)] rfl (by (try simp only [List.map_toArray, List.map_cons, List.map_nil]); first | done | rfl | (simp only [List.length_drop, List.length_take]; rfl)) ?_; (with_reducible refine (whirligigref01_worth.calls k2 (bt a0 x7_2) t378 _ A10.out).mono ?_); rintro e w' ⟨rfl, ⟨nd, rfl⟩⟩; refine ⟨_, rfl, ?_⟩))
          go_ret2
          exact ⟨by first | rfl | (simp; done) | (simp [*]; done), by repeat (first | exact Drawn0.refl _ | apply Drawn0.step)⟩
         ·rw [if_neg c11] at H
          have c11b0 : decide (t378 < 0) = false := decide_eq_false c11
          clear c11
          have H' := Aside0.mk H
          clear H
          have p9 : 0 ≤ (x7_2 : Int) := of_decide_eq_true (by first | (with_reducible assumption) | assumption)
          have q9 : x7_2 < (a0.size : Int) := of_decide_eq_true (by first | (with_reducible assumption) | assumption)
          have hx9 := bt_at a0 x7_2
          replace p9 := eq_true p9
          replace q9 := eq_true q9
          go_wp2_with (first | ((with_reducible refine gate_callee (f := 84) rfl ?_); refine goesL_ (some 28) rfl rfl Tryd.func84 (by kernel_rfl) rfl #[.int .u8 (bt a0 x7_2)] rfl (by (try simp only [List.map_toArray, List.map_cons, List.map_nil]); first | done | rfl | (simp only [List.length_drop, List.length_take]; rfl)) ?_; (with_reducible refine (whirligigref01_worth.calls k2 (bt a0 x7_2) t378 _ A10.out).mono ?_); rintro e w' ⟨rfl, ⟨nd, rfl⟩⟩; refine ⟨_, rfl, ?_⟩))
          go_roundg k2
          case measure => have := HJ2.out; have := HK2.out; omega
          case rel => exact ⟨(wrap64 ((wrap64 (x6_2 * 16)) + t378)), (wrap64 (x7_2 + 1)), (by first | rfl | (simp; done) | (simp [*]; done)), (by first | rfl | (simp; done) | (simp [*]; done)), H', ⟨by have := HJ2.out; have := HK2.out; omega⟩, by repeat (first | exact Drawn0.refl _ | apply Drawn0.step)⟩
        ·rw [if_neg c8] at H
         exact absurd H (by simp)
       ·rw [if_neg c7] at H
        have c7b0 : decide (x7_2 < (a0.size : Int)) = false := decide_eq_false c7
        clear c7
        simp only [Option.some.injEq, Prod.mk.injEq] at H
        obtain ⟨rfl, rfl⟩ := H
        go_wp2
        go_ret2
        exact ⟨by first | rfl | (simp; done) | (simp [*]; done), by repeat (first | exact Drawn0.refl _ | apply Drawn0.step)⟩
    ·rw [if_neg c6] at H
     have c6b0 : ((a0.size : Int) == a1) = false := beq_eq_false_iff_ne.mpr c6
     have c6b1 : ((a0.size : Int) != a1) = true := bne_iff_ne.mpr c6
     simp only [Option.some.injEq, Prod.mk.injEq] at H
     obtain ⟨rfl, rfl⟩ := H
     go_wp2
     go_ret2
     exact ⟨by first | rfl | (simp; done) | (simp [*]; done), by repeat (first | exact Drawn0.refl _ | apply Drawn0.step)⟩

end Go.Proofs.YtpjbfpheenamiaaDoor.PF
-- PRINTED by print.py (a twelfth state) out of the translation. Not trusted: Lean checks it.
namespace Go.Proofs.YtpjbfpheenamiaaDoor.PF
open Go.RowKit Go.Proofs.YtpjbfpheenamiaaDoorW.PrintWords Go.Proofs.YtpjbfpheenamiaaDoorW.PrintLast Go.Proofs.YtpjbfpheenamiaaDoorW.PrintMore
attribute [local go_sem] max2_int min2_int max_two min_two max_three min_three max_four min_four   -- for this text's walks alone
set_option linter.unusedVariables false
set_option linter.unusedSimpArgs false

/-! ### whirligigref06_number: function 36 -/
def whirligigref06_number.l0 : Nat → ByteArray → Int → Int → Option (Int × Int)
 | 0, _, _, _ => none
 | k + 1, x0, x4, x5 => if x5 < (x0.size : Int) then (if 0 ≤ x5 then (if (bt x0 x5) = 36 then (whirligigref06_number.l0 k x0 x5 (wrap64 (x5 + 1))) else (whirligigref06_number.l0 k x0 x4 (wrap64 (x5 + 1)))) else (none)) else (if x4 < 0 then (some (0, 0)) else (if (x0.size : Int) ≥ (wrap64 (x4 + 5)) then (if 0 ≤ (wrap64 (x4 + 1)) then (if (wrap64 (x4 + 1)) ≤ (wrap64 (x4 + 5)) then (if (wrap64 (x4 + 5)) ≤ (x0.size : Int) then ((whirligigref01_Read.f k (x0.extract ((wrap64 (x4 + 1)) : Int).toNat ((wrap64 (x4 + 5)) : Int).toNat) 4).bind fun bt379 => (if bt379.2 = 0 then ((whirligigref01_Split.f bt379.1).bind fun bt381 => (some (bt381.2, bt381.1))) else (if (x0.size : Int) ≥ (wrap64 (x4 + 3)) then (if (wrap64 (x4 + 1)) ≤ (wrap64 (x4 + 3)) then (if (wrap64 (x4 + 3)) ≤ (x0.size : Int) then ((whirligigref01_Read.f k (x0.extract ((wrap64 (x4 + 1)) : Int).toNat ((wrap64 (x4 + 3)) : Int).toNat) 2).bind fun bt383 => (some ((bt383.1) % 256, 0))) else (none)) else (none)) else (some (0, 0))))) else (none)) else (none)) else (none)) else (if (x0.size : Int) ≥ (wrap64 (x4 + 3)) then (if 0 ≤ (wrap64 (x4 + 1)) then (if (wrap64 (x4 + 1)) ≤ (wrap64 (x4 + 3)) then (if (wrap64 (x4 + 3)) ≤ (x0.size : Int) then ((whirligigref01_Read.f k (x0.extract ((wrap64 (x4 + 1)) : Int).toNat ((wrap64 (x4 + 3)) : Int).toNat) 2).bind fun bt385 => (some ((bt385.1) % 256, 0))) else (none)) else (none)) else (none)) else (some (0, 0)))))
def whirligigref06_number.f (k : Nat) (a0 : ByteArray) : Option (Int × Int) := whirligigref06_number.l0 k a0 (-1) 0
theorem whirligigref06_number.mono_l : ∀ k, (∀ y0 y1 y2, LeO (whirligigref06_number.l0 k y0 y1 y2) (whirligigref06_number.l0 (k + 1) y0 y1 y2))
 | 0 => fun _ _ _ r h => by simp [whirligigref06_number.l0] at h
 | k + 1 => by
  have ih0 := whirligigref06_number.mono_l k
  ·intro y0 y1 y2
   unfold whirligigref06_number.l0
   repeat' first
   | (with_reducible exact ih0 _ _ _)
   | (with_reducible exact whirligigref01_Read.mono _ _ _)
   | (with_reducible exact LeO.refl _)
   | (with_reducible exact LeO.none _)
   | (with_reducible refine LeO.ite ?_ ?_)
   | (with_reducible refine LeO.bind ?_ (fun _ => ?_))
   | exact ih0 _ _ _
   | exact whirligigref01_Read.mono _ _ _
   | exact LeO.none _
   | refine LeO.ite ?_ ?_
   | refine LeO.bind ?_ (fun _ => ?_)
theorem whirligigref06_number.mono : ∀ a0 k, LeO (whirligigref06_number.f k a0) (whirligigref06_number.f (k + 1) a0) := by
 intro a0 k
 have ih0 := whirligigref06_number.mono_l k
 unfold whirligigref06_number.f
 repeat' first
   | (with_reducible exact ih0 _ _ _)
   | (with_reducible exact whirligigref01_Read.mono _ _ _)
   | (with_reducible exact LeO.refl _)
   | (with_reducible exact LeO.none _)
   | (with_reducible refine LeO.ite ?_ ?_)
   | (with_reducible refine LeO.bind ?_ (fun _ => ?_))
   | exact ih0 _ _ _
   | exact whirligigref01_Read.mono _ _ _
   | exact LeO.none _
   | refine LeO.ite ?_ ?_
   | refine LeO.bind ?_ (fun _ => ?_)
set_option maxHeartbeats 8000000 in
set_option maxRecDepth 100000 in
theorem whirligigref06_number.calls (k : Nat) (a0 : ByteArray) (r1 : Int) (r2 : Int) (w : World) (h : whirligigref06_number.f k a0 = some (r1, r2)) :
  Calls Tryd.prog 36 #[.string a0] w fun e w' => e = .returned (.tuple #[.int .u8 r1, .int .u8 r2]) ∧ Drawn0 w w' := by
 have H : (whirligigref06_number.l0 k a0 (-1) 0) = some (r1, r2) := h
 clear h
 have H' := Aside0.mk H
 clear H
 go_enter Tryd.func36, Tryd.ntmps36
 go_wp2
 go_loopg [4, 5] k (fun kq v4 v5 w' => ∃ (x4_1 : Int) (x5_1 : Int), v4 = .int .i64 x4_1 ∧ v5 = .int .i64 x5_1 ∧ Aside0 (whirligigref06_number.l0 kq a0 x4_1 x5_1 = some (r1, r2)) ∧ Aside0 (kq ≤ k) ∧ Drawn0 w w')
 case atStart => exact ⟨((-1)), (0), (by first | rfl | (simp; done) | (simp [*]; done)), (by first | rfl | (simp; done) | (simp [*]; done)), H', ⟨Nat.le_refl _⟩, by repeat (first | exact Drawn0.refl _ | apply Drawn0.step)⟩
 case round =>
  clear H'
  obtain ⟨x4_1, x5_1, rfl, rfl, HA, HK1, ⟨m1, rfl⟩⟩ := hrel
  cases gk with
  | zero => exact absurd HA.out (by simp [whirligigref06_number.l0])
  | succ k1 =>
   have H := HA.out
   clear HA
   simp only [whirligigref06_number.l0] at H
   by_cases c2 : x5_1 < (a0.size : Int)
   ·rw [if_pos c2] at H
    have c2b0 : decide (x5_1 < (a0.size : Int)) = true := decide_eq_true c2
    clear c2
    by_cases c3 : 0 ≤ x5_1
    ·rw [if_pos c3] at H
     have c3b0 : decide (0 ≤ x5_1) = true := decide_eq_true c3
     clear c3
     by_cases c5 : (bt a0 x5_1) = 36
     ·rw [if_pos c5] at H
      have c5b0 : ((bt a0 x5_1) == 36) = true := beq_iff_eq.mpr c5
      have c5b1 : ((bt a0 x5_1) != 36) = false := bne_eq_false_iff_eq.mpr c5
      clear c5
      have H' := Aside0.mk H
      clear H
      have p4 : 0 ≤ (x5_1 : Int) := of_decide_eq_true (by first | (with_reducible assumption) | assumption)
      have q4 : x5_1 < (a0.size : Int) := of_decide_eq_true (by first | (with_reducible assumption) | assumption)
      have hx4 := bt_at a0 x5_1
      replace p4 := eq_true p4
      replace q4 := eq_true q4
      go_wp2
      go_roundg k1
      case measure => have := HK1.out; omega
      case rel => exact ⟨(x5_1), (wrap64 (x5_1 + 1)), (by first | rfl | (simp; done) | (simp [*]; done)), (by first | rfl | (simp; done) | (simp [*]; done)), H', ⟨by have := HK1.out; omega⟩, by repeat (first | exact Drawn0.refl _ | apply Drawn0.step)⟩
     ·rw [if_neg c5] at H
      have c5b0 : ((bt a0 x5_1) == 36) = false := beq_eq_false_iff_ne.mpr c5
      have c5b1 : ((bt a0 x5_1) != 36) = true := bne_iff_ne.mpr c5
      have H' := Aside0.mk H
      clear H
      have p4 : 0 ≤ (x5_1 : Int) := of_decide_eq_true (by first | (with_reducible assumption) | assumption)
      have q4 : x5_1 < (a0.size : Int) := of_decide_eq_true (by first | (with_reducible assumption) | assumption)
      have hx4 := bt_at a0 x5_1
      replace p4 := eq_true p4
      replace q4 := eq_true q4
      go_wp2
      go_roundg k1
      case measure => have := HK1.out; omega
      case rel => exact ⟨(x4_1), (wrap64 (x5_1 + 1)), (by first | rfl | (simp; done) | (simp [*]; done)), (by first | rfl | (simp; done) | (simp [*]; done)), H', ⟨by have := HK1.out; omega⟩, by repeat (first | exact Drawn0.refl _ | apply Drawn0.step)⟩
    ·rw [if_neg c3] at H
     exact absurd H (by simp)
   ·rw [if_neg c2] at H
    have c2b0 : decide (x5_1 < (a0.size : Int)) = false := decide_eq_false c2
    clear c2
    by_cases c6 : x4_1 < 0
    ·rw [if_pos c6] at H
     have c6b0 : decide (x4_1 < 0) = true := decide_eq_true c6
     clear c6
     simp only [Option.some.injEq, Prod.mk.injEq] at H
     obtain ⟨rfl, rfl⟩ := H
     go_wp2
     go_ret2
     exact ⟨by first | rfl | (simp; done) | (simp [*]; done), by repeat (first | exact Drawn0.refl _ | apply Drawn0.step)⟩
    ·rw [if_neg c6] at H
     have c6b0 : decide (x4_1 < 0) = false := decide_eq_false c6
     clear c6
     by_cases c7 : (a0.size : Int) ≥ (wrap64 (x4_1 + 5))
     ·rw [if_pos c7] at H
      have c7b0 : decide ((wrap64 (x4_1 + 5)) ≤ (a0.size : Int)) = true := decide_eq_true c7
      clear c7
      obtain ⟨ji8, hji8⟩ : ∃ j_ : Int, (wrap64 (x4_1 + 1)) = j_ := ⟨_, rfl⟩
      replace H : (if 0 ≤ (ji8) then (if (ji8) ≤ (wrap64 (x4_1 + 5)) then (if (wrap64 (x4_1 + 5)) ≤ (a0.size : Int) then ((whirligigref01_Read.f k1 (a0.extract ((ji8) : Int).toNat ((wrap64 (x4_1 + 5)) : Int).toNat) 4).bind fun bt379 => (if bt379.2 = 0 then ((whirligigref01_Split.f bt379.1).bind fun bt381 => (some (bt381.2, bt381.1))) else (if (a0.size : Int) ≥ (wrap64 (x4_1 + 3)) then (if (ji8) ≤ (wrap64 (x4_1 + 3)) then (if (wrap64 (x4_1 + 3)) ≤ (a0.size : Int) then ((whirligigref01_Read.f k1 (a0.extract ((ji8) : Int).toNat ((wrap64 (x4_1 + 3)) : Int).toNat) 2).bind fun bt383 => (some ((bt383.1) % 256, 0))) else (none)) else (none)) else (some (0, 0))))) else (none)) else (none)) else (none)) = some (r1, r2) := by first | (rw [hji8] at H; exact H) | (simp only [hji8] at H ⊢; exact H)
      have hji8w : (IntKind.i64.wrap (x4_1 + 1)) = ji8 := (i64_w _).trans hji8
      by_cases c9 : 0 ≤ (ji8)
      ·rw [if_pos c9] at H
       have c9b0 := eq_true c9
       have c9b1 : decide (0 ≤ (ji8)) = true := decide_eq_true c9
       clear c9
       by_cases c10 : (ji8) ≤ (wrap64 (x4_1 + 5))
       ·rw [if_pos c10] at H
        have c10b0 := eq_true c10
        have c10b1 : decide ((ji8) ≤ (wrap64 (x4_1 + 5))) = true := decide_eq_true c10
        by_cases c11 : (wrap64 (x4_1 + 5)) ≤ (a0.size : Int)
        ·rw [if_pos c11] at H
         have c11b0 := eq_true c11
         have c11b1 : decide ((wrap64 (x4_1 + 5)) ≤ (a0.size : Int)) = true := decide_eq_true c11
         replace H := Option.bind_eq_some_iff.mp H
         obtain ⟨⟨t379, t380⟩, A120, H⟩ := H
         replace H : (if t380 = 0 then ((whirligigref01_Split.f t379).bind fun bt381 => (some (bt381.2, bt381.1))) else (if (a0.size : Int) ≥ (wrap64 (x4_1 + 3)) then (if (ji8) ≤ (wrap64 (x4_1 + 3)) then (if (wrap64 (x4_1 + 3)) ≤ (a0.size : Int) then ((whirligigref01_Read.f k1 (a0.extract ((ji8) : Int).toNat ((wrap64 (x4_1 + 3)) : Int).toNat) 2).bind fun bt383 => (some ((bt383.1) % 256, 0))) else (none)) else (none)) else (some (0, 0)))) = some (r1, r2) := H
         have A12 := Aside0.mk A120
         clear A120
         by_cases c13 : t380 = 0
         ·rw [if_pos c13] at H
          have c13b0 : (t380 == 0) = true := beq_iff_eq.mpr c13
          have c13b1 : (t380 != 0) = false := bne_eq_false_iff_eq.mpr c13
          clear c13
          replace H := Option.bind_eq_some_iff.mp H
          obtain ⟨⟨t381, t382⟩, A140, H⟩ := H
          replace H : (some (t382, t381)) = some (r1, r2) := H
          have A14 := Aside0.mk A140
          clear A140
          simp only [Option.some.injEq, Prod.mk.injEq] at H
          obtain ⟨rfl, rfl⟩ := H
          go_wp2_with (first | ((with_reducible refine gate_callee (f := 61) rfl ?_); refine goesL_ (some 37) rfl rfl Tryd.func61 (by kernel_rfl) rfl #[.string (a0.extract ((ji8) : Int).toNat ((wrap64 (x4_1 + 5)) : Int).toNat), .int .i64 4] rfl (by (try simp only [List.map_toArray, List.map_cons, List.map_nil]); first | done | (simp only [hji8]; rfl) | rfl | (simp only [List.length_drop, List.length_take]; rfl)) ?_; (with_reducible refine (whirligigref01_Read.calls k1 (a0.extract ((ji8) : Int).toNat ((wrap64 (x4_1 + 5)) : Int).toNat) 4 t379 t380 _ A12.out).mono ?_); rintro e w' ⟨rfl, ⟨nd, rfl⟩⟩; refine ⟨_, rfl, ?_⟩) | ((with_reducible refine gate_callee (f := 62) rfl ?_); refine goesL_ (some 44) rfl rfl Tryd.func62 (by kernel_rfl) rfl #[.int .u16 t379] rfl (by (try simp only [List.map_toArray, List.map_cons, List.map_nil]); first | done | rfl | (simp only [List.length_drop, List.length_take]; rfl)) ?_; (with_reducible refine (whirligigref01_Split.calls t379 t381 t382 _ A14.out).mono ?_); rintro e w' ⟨rfl, ⟨nd, rfl⟩⟩; refine ⟨_, rfl, ?_⟩))
          go_ret2
          exact ⟨by first | rfl | (simp; done) | (simp only [← hji8] <;> (first | rfl | simp)) | (simp [*]; done), by repeat (first | exact Drawn0.refl _ | apply Drawn0.step)⟩
         ·rw [if_neg c13] at H
          have c13b0 : (t380 == 0) = false := beq_eq_false_iff_ne.mpr c13
          have c13b1 : (t380 != 0) = true := bne_iff_ne.mpr c13
          by_cases c15 : (a0.size : Int) ≥ (wrap64 (x4_1 + 3))
          ·rw [if_pos c15] at H
           have c15b0 : decide ((wrap64 (x4_1 + 3)) ≤ (a0.size : Int)) = true := decide_eq_true c15
           clear c15
           have c16b0 := eq_true (of_decide_eq_true (by first | (with_reducible assumption) | assumption) : 0 ≤ (ji8))
           by_cases c17 : (ji8) ≤ (wrap64 (x4_1 + 3))
           ·rw [if_pos c17] at H
            have c17b0 := eq_true c17
            have c17b1 : decide ((ji8) ≤ (wrap64 (x4_1 + 3))) = true := decide_eq_true c17
            by_cases c18 : (wrap64 (x4_1 + 3)) ≤ (a0.size : Int)
            ·rw [if_pos c18] at H
             have c18b0 := eq_true c18
             have c18b1 : decide ((wrap64 (x4_1 + 3)) ≤ (a0.size : Int)) = true := decide_eq_true c18
             replace H := Option.bind_eq_some_iff.mp H
             obtain ⟨⟨t383, t384⟩, A190, H⟩ := H
             replace H : (some ((t383) % 256, 0)) = some (r1, r2) := H
             have A19 := Aside0.mk A190
             clear A190
             simp only [Option.some.injEq, Prod.mk.injEq] at H
             obtain ⟨rfl, rfl⟩ := H
             go_wp2_with (first | ((with_reducible refine gate_callee (f := 61) rfl ?_); refine goesL_ (some 37) rfl rfl Tryd.func61 (by kernel_rfl) rfl #[.string (a0.extract ((ji8) : Int).toNat ((wrap64 (x4_1 + 5)) : Int).toNat), .int .i64 4] rfl (by (try simp only [List.map_toArray, List.map_cons, List.map_nil]); first | done | (simp only [hji8]; rfl) | rfl | (simp only [List.length_drop, List.length_take]; rfl)) ?_; (with_reducible refine (whirligigref01_Read.calls k1 (a0.extract ((ji8) : Int).toNat ((wrap64 (x4_1 + 5)) : Int).toNat) 4 t379 t380 _ A12.out).mono ?_); rintro e w' ⟨rfl, ⟨nd, rfl⟩⟩; refine ⟨_, rfl, ?_⟩) | ((with_reducible refine gate_callee (f := 61) rfl ?_); refine goesL_ (some 61) rfl rfl Tryd.func61 (by kernel_rfl) rfl #[.string (a0.extract ((ji8) : Int).toNat ((wrap64 (x4_1 + 3)) : Int).toNat), .int .i64 2] rfl (by (try simp only [List.map_toArray, List.map_cons, List.map_nil]); first | done | (simp only [hji8]; rfl) | rfl | (simp only [List.length_drop, List.length_take]; rfl)) ?_; (with_reducible refine (whirligigref01_Read.calls k1 (a0.extract ((ji8) : Int).toNat ((wrap64 (x4_1 + 3)) : Int).toNat) 2 t383 t384 _ A19.out).mono ?_); rintro e w' ⟨rfl, ⟨nd, rfl⟩⟩; refine ⟨_, rfl, ?_⟩))
             go_ret2
             exact ⟨by first | rfl | (simp; done) | (simp only [← hji8] <;> (first | rfl | simp)) | (simp [*]; done), by repeat (first | exact Drawn0.refl _ | apply Drawn0.step)⟩
            ·rw [if_neg c18] at H
             exact absurd H (by simp)
           ·rw [if_neg c17] at H
            exact absurd H (by simp)
          ·rw [if_neg c15] at H
           have c15b0 : decide ((wrap64 (x4_1 + 3)) ≤ (a0.size : Int)) = false := decide_eq_false c15
           clear c15
           simp only [Option.some.injEq, Prod.mk.injEq] at H
           obtain ⟨rfl, rfl⟩ := H
           go_wp2_with (first | ((with_reducible refine gate_callee (f := 61) rfl ?_); refine goesL_ (some 37) rfl rfl Tryd.func61 (by kernel_rfl) rfl #[.string (a0.extract ((ji8) : Int).toNat ((wrap64 (x4_1 + 5)) : Int).toNat), .int .i64 4] rfl (by (try simp only [List.map_toArray, List.map_cons, List.map_nil]); first | done | (simp only [hji8]; rfl) | rfl | (simp only [List.length_drop, List.length_take]; rfl)) ?_; (with_reducible refine (whirligigref01_Read.calls k1 (a0.extract ((ji8) : Int).toNat ((wrap64 (x4_1 + 5)) : Int).toNat) 4 t379 t380 _ A12.out).mono ?_); rintro e w' ⟨rfl, ⟨nd, rfl⟩⟩; refine ⟨_, rfl, ?_⟩))
           go_ret2
           exact ⟨by first | rfl | (simp; done) | (simp only [← hji8] <;> (first | rfl | simp)) | (simp [*]; done), by repeat (first | exact Drawn0.refl _ | apply Drawn0.step)⟩
        ·rw [if_neg c11] at H
         exact absurd H (by simp)
       ·rw [if_neg c10] at H
        exact absurd H (by simp)
      ·rw [if_neg c9] at H
       exact absurd H (by simp)
     ·rw [if_neg c7] at H
      have c7b0 : decide ((wrap64 (x4_1 + 5)) ≤ (a0.size : Int)) = false := decide_eq_false c7
      clear c7
      by_cases c20 : (a0.size : Int) ≥ (wrap64 (x4_1 + 3))
      ·rw [if_pos c20] at H
       have c20b0 : decide ((wrap64 (x4_1 + 3)) ≤ (a0.size : Int)) = true := decide_eq_true c20
       clear c20
       obtain ⟨ji21, hji21⟩ : ∃ j_ : Int, (wrap64 (x4_1 + 1)) = j_ := ⟨_, rfl⟩
       replace H : (if 0 ≤ (ji21) then (if (ji21) ≤ (wrap64 (x4_1 + 3)) then (if (wrap64 (x4_1 + 3)) ≤ (a0.size : Int) then ((whirligigref01_Read.f k1 (a0.extract ((ji21) : Int).toNat ((wrap64 (x4_1 + 3)) : Int).toNat) 2).bind fun bt385 => (some ((bt385.1) % 256, 0))) else (none)) else (none)) else (none)) = some (r1, r2) := by first | (rw [hji21] at H; exact H) | (simp only [hji21] at H ⊢; exact H)
       have hji21w : (IntKind.i64.wrap (x4_1 + 1)) = ji21 := (i64_w _).trans hji21
       by_cases c22 : 0 ≤ (ji21)
       ·rw [if_pos c22] at H
        have c22b0 := eq_true c22
        have c22b1 : decide (0 ≤ (ji21)) = true := decide_eq_true c22
        clear c22
        by_cases c23 : (ji21) ≤ (wrap64 (x4_1 + 3))
        ·rw [if_pos c23] at H
         have c23b0 := eq_true c23
         have c23b1 : decide ((ji21) ≤ (wrap64 (x4_1 + 3))) = true := decide_eq_true c23
         by_cases c24 : (wrap64 (x4_1 + 3)) ≤ (a0.size : Int)
         ·rw [if_pos c24] at H
          have c24b0 := eq_true c24
          have c24b1 : decide ((wrap64 (x4_1 + 3)) ≤ (a0.size : Int)) = true := decide_eq_true c24
          replace H := Option.bind_eq_some_iff.mp H
          obtain ⟨⟨t385, t386⟩, A250, H⟩ := H
          replace H : (some ((t385) % 256, 0)) = some (r1, r2) := H
          have A25 := Aside0.mk A250
          clear A250
          simp only [Option.some.injEq, Prod.mk.injEq] at H
          obtain ⟨rfl, rfl⟩ := H
          go_wp2_with (first | ((with_reducible refine gate_callee (f := 61) rfl ?_); refine goesL_ (some 61) rfl rfl Tryd.func61 (by kernel_rfl) rfl #[.string (a0.extract ((ji21) : Int).toNat ((wrap64 (x4_1 + 3)) : Int).toNat), .int .i64 2] rfl (by (try simp only [List.map_toArray, List.map_cons, List.map_nil]); first | done | (simp only [hji21]; rfl) | rfl | (simp only [List.length_drop, List.length_take]; rfl)) ?_; (with_reducible refine (whirligigref01_Read.calls k1 (a0.extract ((ji21) : Int).toNat ((wrap64 (x4_1 + 3)) : Int).toNat) 2 t385 t386 _ A25.out).mono ?_); rintro e w' ⟨rfl, ⟨nd, rfl⟩⟩; refine ⟨_, rfl, ?_⟩))
          go_ret2
          exact ⟨by first | rfl | (simp; done) | (simp only [← hji21] <;> (first | rfl | simp)) | (simp [*]; done), by repeat (first | exact Drawn0.refl _ | apply Drawn0.step)⟩
         ·rw [if_neg c24] at H
          exact absurd H (by simp)
        ·rw [if_neg c23] at H
         exact absurd H (by simp)
       ·rw [if_neg c22] at H
        exact absurd H (by simp)
      ·rw [if_neg c20] at H
       have c20b0 : decide ((wrap64 (x4_1 + 3)) ≤ (a0.size : Int)) = false := decide_eq_false c20
       clear c20
       simp only [Option.some.injEq, Prod.mk.injEq] at H
       obtain ⟨rfl, rfl⟩ := H
       go_wp2
       go_ret2
       exact ⟨by first | rfl | (simp; done) | (simp [*]; done), by repeat (first | exact Drawn0.refl _ | apply Drawn0.step)⟩

end Go.Proofs.YtpjbfpheenamiaaDoor.PF
-- PRINTED by print.py (a twelfth state) out of the translation. Not trusted: Lean checks it.
namespace Go.Proofs.YtpjbfpheenamiaaDoor.PF
open Go.RowKit Go.Proofs.YtpjbfpheenamiaaDoorW.PrintWords Go.Proofs.YtpjbfpheenamiaaDoorW.PrintLast Go.Proofs.YtpjbfpheenamiaaDoorW.PrintMore
attribute [local go_sem] max2_int min2_int max_two min_two max_three min_three max_four min_four   -- for this text's walks alone
set_option linter.unusedVariables false
set_option linter.unusedSimpArgs false

/-! ### whirligigref06_Assemble: function 16 -/
mutual
def whirligigref06_Assemble.l0 : Nat → ByteArray → Int → Int → Int → Option (List Int × Int)
 | 0, _, _, _, _ => none
 | k + 1, x0, x4, x5, x6 => if x6 < 256 then ((whirligigref06_form.f k ((x6) % 256) false).bind fun bt393 => ((some (([(x6) % 256, x4, x5] : List Int) : List Int)).bind fun y400 => (if bt393.1 = 6 then (whirligigref06_Assemble.j1 k x0 x4 x5 x6 y400 false bt393.1 bt393.2.1 bt393.2.2.1 bt393.2.2.2.1 bt393.2.2.2.2.1 bt393.2.2.2.2.2) else ((whirligigref06_Text.f k ((x6) % 256) false x4 x5).bind fun t403 => (whirligigref06_Assemble.j1 k x0 x4 x5 x6 y400 (t403.toList == x0.toList) bt393.1 bt393.2.1 bt393.2.2.1 bt393.2.2.2.1 bt393.2.2.2.2.1 bt393.2.2.2.2.2))))) else (some (([] : List Int), 6))
def whirligigref06_Assemble.j1 : Nat → ByteArray → Int → Int → Int → List Int → Bool → Int → Int → Int → Int → Int → Int → Option (List Int × Int)
 | 0, _, _, _, _, _, _, _, _, _, _, _, _ => none
 | k + 1, x0, x4, x5, x6, x8, x44, x400000, x400001, x400002, x400003, x400004, x400005 => if x44 = true then (if 0 ≤ x400003 then (if x400003 ≤ (x8.length : Int) then (some ((x8.take (x400003 : Int).toNat), 0)) else (none)) else (none)) else ((whirligigref06_Text.f k ((x6) % 256) true 0 0).bind fun t407 => (if t407.toList = x0.toList then (some ((([203, (x6) % 256] : List Int)), 0)) else (whirligigref06_Assemble.l0 k x0 x4 x5 (wrap64 (x6 + 1)))))
end
def whirligigref06_Assemble.f (k : Nat) (a0 : ByteArray) : Option (List Int × Int) := (whirligigref06_number.f k a0).bind fun bt387 => ((whirligigref01_Hex8.f bt387.1).bind fun t389 => (if 4 + t389.size ≤ 9223372036854775807 then (if a0.toList = ((⟨#[68, 66, 32, 36]⟩ : ByteArray) ++ t389).toList then (some ((([bt387.1] : List Int)), 0)) else (whirligigref06_Assemble.l0 k a0 bt387.1 bt387.2 0)) else (none)))
theorem whirligigref06_Assemble.mono_l : ∀ k, (∀ y0 y1 y2 y3, LeO (whirligigref06_Assemble.l0 k y0 y1 y2 y3) (whirligigref06_Assemble.l0 (k + 1) y0 y1 y2 y3)) ∧ (∀ y0 y1 y2 y3 y4 y5 y6 y7 y8 y9 y10 y11, LeO (whirligigref06_Assemble.j1 k y0 y1 y2 y3 y4 y5 y6 y7 y8 y9 y10 y11) (whirligigref06_Assemble.j1 (k + 1) y0 y1 y2 y3 y4 y5 y6 y7 y8 y9 y10 y11))
 | 0 => ⟨fun _ _ _ _ r h => by simp [whirligigref06_Assemble.l0] at h, fun _ _ _ _ _ _ _ _ _ _ _ _ r h => by simp [whirligigref06_Assemble.j1] at h⟩
 | k + 1 => by
  obtain ⟨ih0, ih1⟩ := whirligigref06_Assemble.mono_l k
  refine ⟨?_, ?_⟩
  ·intro y0 y1 y2 y3
   unfold whirligigref06_Assemble.l0
   repeat' first
   | (with_reducible exact ih0 _ _ _ _)
   | (with_reducible exact ih1 _ _ _ _ _ _ _ _ _ _ _ _)
   | (with_reducible exact whirligigref06_Text.mono _ _ _ _ _)
   | (with_reducible exact whirligigref06_form.mono _ _ _)
   | (with_reducible exact whirligigref06_number.mono _ _)
   | (with_reducible exact LeO.refl _)
   | (with_reducible exact LeO.none _)
   | (with_reducible refine LeO.ite ?_ ?_)
   | (with_reducible refine LeO.bind ?_ (fun _ => ?_))
   | exact ih0 _ _ _ _
   | exact ih1 _ _ _ _ _ _ _ _ _ _ _ _
   | exact whirligigref06_Text.mono _ _ _ _ _
   | exact whirligigref06_form.mono _ _ _
   | exact whirligigref06_number.mono _ _
   | exact LeO.none _
   | refine LeO.ite ?_ ?_
   | refine LeO.bind ?_ (fun _ => ?_)
  ·intro y0 y1 y2 y3 y4 y5 y6 y7 y8 y9 y10 y11
   unfold whirligigref06_Assemble.j1
   repeat' first
   | (with_reducible exact ih0 _ _ _ _)
   | (with_reducible exact ih1 _ _ _ _ _ _ _ _ _ _ _ _)
   | (with_reducible exact whirligigref06_Text.mono _ _ _ _ _)
   | (with_reducible exact whirligigref06_form.mono _ _ _)
   | (with_reducible exact whirligigref06_number.mono _ _)
   | (with_reducible exact LeO.refl _)
   | (with_reducible exact LeO.none _)
   | (with_reducible refine LeO.ite ?_ ?_)
   | (with_reducible refine LeO.bind ?_ (fun _ => ?_))
   | exact ih0 _ _ _ _
   | exact ih1 _ _ _ _ _ _ _ _ _ _ _ _
   | exact whirligigref06_Text.mono _ _ _ _ _
   | exact whirligigref06_form.mono _ _ _
   | exact whirligigref06_number.mono _ _
   | exact LeO.none _
   | refine LeO.ite ?_ ?_
   | refine LeO.bind ?_ (fun _ => ?_)
theorem whirligigref06_Assemble.mono : ∀ a0 k, LeO (whirligigref06_Assemble.f k a0) (whirligigref06_Assemble.f (k + 1) a0) := by
 intro a0 k
 obtain ⟨ih0, ih1⟩ := whirligigref06_Assemble.mono_l k
 unfold whirligigref06_Assemble.f
 repeat' first
   | (with_reducible exact ih0 _ _ _ _)
   | (with_reducible exact ih1 _ _ _ _ _ _ _ _ _ _ _ _)
   | (with_reducible exact whirligigref06_Text.mono _ _ _ _ _)
   | (with_reducible exact whirligigref06_form.mono _ _ _)
   | (with_reducible exact whirligigref06_number.mono _ _)
   | (with_reducible exact LeO.refl _)
   | (with_reducible exact LeO.none _)
   | (with_reducible refine LeO.ite ?_ ?_)
   | (with_reducible refine LeO.bind ?_ (fun _ => ?_))
   | exact ih0 _ _ _ _
   | exact ih1 _ _ _ _ _ _ _ _ _ _ _ _
   | exact whirligigref06_Text.mono _ _ _ _ _
   | exact whirligigref06_form.mono _ _ _
   | exact whirligigref06_number.mono _ _
   | exact LeO.none _
   | refine LeO.ite ?_ ?_
   | refine LeO.bind ?_ (fun _ => ?_)
set_option maxHeartbeats 8000000 in
set_option maxRecDepth 100000 in
theorem whirligigref06_Assemble.calls (k : Nat) (a0 : ByteArray) (r1 : List Int) (r2 : Int) (w : World) (h : whirligigref06_Assemble.f k a0 = some (r1, r2)) :
  Calls Tryd.prog 16 #[.string a0] w fun e w' => ∃ v0_ : Value, e = .returned (.tuple #[v0_, .int .i64 r2]) ∧ Kd.R (Kd.int .u8) 5 w' w.heap.size (fun _ => True) v0_ r1 ∧ Below w.heap.size w w' := by
 have hu46 := Tryd.underlying46
 have HB := Aside0.mk (Below.refl w.heap.size w)
 have H : ((whirligigref06_number.f k a0).bind fun bt387 => ((whirligigref01_Hex8.f bt387.1).bind fun t389 => (if 4 + t389.size ≤ 9223372036854775807 then (if a0.toList = ((⟨#[68, 66, 32, 36]⟩ : ByteArray) ++ t389).toList then (some ((([bt387.1] : List Int)), 0)) else (whirligigref06_Assemble.l0 k a0 bt387.1 bt387.2 0)) else (none)))) = some (r1, r2) := h
 clear h
 replace H := Option.bind_eq_some_iff.mp H
 obtain ⟨⟨t387, t388⟩, A20, H⟩ := H
 replace H : ((whirligigref01_Hex8.f t387).bind fun t389 => (if 4 + t389.size ≤ 9223372036854775807 then (if a0.toList = ((⟨#[68, 66, 32, 36]⟩ : ByteArray) ++ t389).toList then (some ((([t387] : List Int)), 0)) else (whirligigref06_Assemble.l0 k a0 t387 t388 0)) else (none))) = some (r1, r2) := H
 have A2 := Aside0.mk A20
 clear A20
 replace H := Option.bind_eq_some_iff.mp H
 obtain ⟨t389, A30, H⟩ := H
 replace H : (if 4 + t389.size ≤ 9223372036854775807 then (if a0.toList = ((⟨#[68, 66, 32, 36]⟩ : ByteArray) ++ t389).toList then (some ((([t387] : List Int)), 0)) else (whirligigref06_Assemble.l0 k a0 t387 t388 0)) else (none)) = some (r1, r2) := H
 have A3 := Aside0.mk A30
 clear A30
 by_cases c4 : 4 + t389.size ≤ 9223372036854775807
 ·rw [if_pos c4] at H
  have c4b0 := eq_true c4
  have c4b1 : decide (4 + t389.size ≤ 9223372036854775807) = true := decide_eq_true c4
  try have c4b2 : (9223372036854775807 < 4 + t389.size) = False := eq_false (Nat.not_lt.2 c4)
  by_cases c5 : a0.toList = ((⟨#[68, 66, 32, 36]⟩ : ByteArray) ++ t389).toList
  ·rw [if_pos c5] at H
   have c5b0 : (a0.toList == ((⟨#[68, 66, 32, 36]⟩ : ByteArray) ++ t389).toList) = true := beq_iff_eq.mpr c5
   have c5b1 : (a0.toList != ((⟨#[68, 66, 32, 36]⟩ : ByteArray) ++ t389).toList) = false := bne_eq_false_iff_eq.mpr c5
   clear c5
   obtain ⟨y390, hy390⟩ : ∃ y_ : List Int, y_ = (([t387] : List Int)) := ⟨_, rfl⟩
   replace H : (some (y390, 0)) = some (r1, r2) := by first | (rw [hy390]; with_reducible exact H) | (have H2_ := (Option.bind_some _ _).symm.trans H; rw [hy390]; with_reducible exact H2_) | (have H2_ := (Option.bind_some _ _).symm.trans H; with_reducible exact H2_) | with_reducible exact H | (rw [hy390]; exact H) | exact H
   have Ny390 := Aside0.mk hy390
   clear hy390
   simp only [Option.some.injEq, Prod.mk.injEq] at H
   obtain ⟨rfl, rfl⟩ := H
   go_enter Tryd.func16, Tryd.ntmps16
   go_wp2_with (first | ((with_reducible refine gate_callee (f := 36) rfl ?_); refine goesL_ (some 11) rfl rfl Tryd.func36 (by kernel_rfl) rfl #[.string a0] rfl (by (try simp only [List.map_toArray, List.map_cons, List.map_nil]); first | done | rfl | (simp only [List.length_drop, List.length_take]; rfl)) ?_; (with_reducible refine (whirligigref06_number.calls k a0 t387 t388 _ A2.out).mono ?_); rintro e w' ⟨rfl, ⟨nd, rfl⟩⟩; refine ⟨_, rfl, ?_⟩) | ((with_reducible refine gate_callee (f := 32) rfl ?_); refine goesL_ (some 16) rfl rfl Tryd.func32 (by kernel_rfl) rfl #[.int .u8 t387] rfl (by (try simp only [List.map_toArray, List.map_cons, List.map_nil]); first | done | rfl | (simp only [List.length_drop, List.length_take]; rfl)) ?_; (with_reducible refine (whirligigref01_Hex8.calls t387 t389 _ A3.out).mono ?_); rintro e w' ⟨rfl, ⟨nd, rfl⟩⟩; refine ⟨_, rfl, ?_⟩) | ((with_reducible refine gate_dst (N := 20) rfl ?_); refine Kd.R_lit (Kd.int .u8) _ 5 ?hg (N := 20) ?hd (xs := ([t387] : List Int)) (inner := [.int .u8 t387]) (ok := fun _ => True) (okp := fun _ => True) ?hr ?hp (fun _ hk => hk) trivial (Below.refl _ _) (Nat.le_refl _) (by simp) ?_; (case hd => rfl); (case hg => rfl); (case hr => first | (go_simp; done) | (go_simp; rfl)); (case hp => exact (Reps.one (show Kd.M (Kd.int .u8) _ _ _ t387 [.int .u8 t387] from rfl) (Reps.none _ _))); intro v391 w6 ho7 hb hg_ hnew_; clear hg_ hnew_; (first | rw [← Ny390.out] at ho7 | (simp only [Int.reduceToNat] at ho7; rw [← Ny390.out] at ho7)); have n0_ := Aside0.mk (Kd.R_lower ho7 (below_size (by repeat (first | (with_reducible first | exact HB.out | apply below_alloc | apply pw_below_drewN | apply below_drew1) | exact HB.out)))); have n1_ := Aside0.mk (below_step (by repeat (first | (with_reducible first | exact HB.out | apply below_alloc | apply pw_below_drewN | apply below_drew1) | exact HB.out)) hb); clear HB; have HO392 := n0_; have HB := n1_; clear n0_ n1_; clear hb ho7))
   go_ret2
   exact ⟨_, by first | rfl | (simp [errW_none, errW_some] <;> rfl) | (simp [*, errW_none, errW_some] <;> rfl), by (with_reducible repeat (first | apply Kd.R_alloc | apply Kd.R_drewN | apply Kd.R_drew)); exact HO392.out, by repeat (first | (with_reducible first | exact HB.out | apply below_alloc | apply pw_below_drewN | apply below_drew1) | exact HB.out)⟩
  ·rw [if_neg c5] at H
   have c5b0 : (a0.toList == ((⟨#[68, 66, 32, 36]⟩ : ByteArray) ++ t389).toList) = false := beq_eq_false_iff_ne.mpr c5
   have c5b1 : (a0.toList != ((⟨#[68, 66, 32, 36]⟩ : ByteArray) ++ t389).toList) = true := bne_iff_ne.mpr c5
   have H' := Aside0.mk H
   clear H
   go_enter Tryd.func16, Tryd.ntmps16
   go_wp2_with (first | ((with_reducible refine gate_callee (f := 36) rfl ?_); refine goesL_ (some 11) rfl rfl Tryd.func36 (by kernel_rfl) rfl #[.string a0] rfl (by (try simp only [List.map_toArray, List.map_cons, List.map_nil]); first | done | rfl | (simp only [List.length_drop, List.length_take]; rfl)) ?_; (with_reducible refine (whirligigref06_number.calls k a0 t387 t388 _ A2.out).mono ?_); rintro e w' ⟨rfl, ⟨nd, rfl⟩⟩; refine ⟨_, rfl, ?_⟩) | ((with_reducible refine gate_callee (f := 32) rfl ?_); refine goesL_ (some 16) rfl rfl Tryd.func32 (by kernel_rfl) rfl #[.int .u8 t387] rfl (by (try simp only [List.map_toArray, List.map_cons, List.map_nil]); first | done | rfl | (simp only [List.length_drop, List.length_take]; rfl)) ?_; (with_reducible refine (whirligigref01_Hex8.calls t387 t389 _ A3.out).mono ?_); rintro e w' ⟨rfl, ⟨nd, rfl⟩⟩; refine ⟨_, rfl, ?_⟩))
   go_loopg [6] k (fun kq v6 w' => ∃ (x6_1 : Int), v6 = .int .i64 x6_1 ∧ Aside0 (whirligigref06_Assemble.l0 kq a0 t387 t388 x6_1 = some (r1, r2)) ∧ Aside0 (kq ≤ k) ∧ Aside0 (Below w.heap.size w w'))
   case atStart => exact ⟨(0), (by first | rfl | (simp; done) | (simp [*]; done)), H', ⟨Nat.le_refl _⟩, ⟨by repeat (first | (with_reducible first | exact HB.out | apply below_alloc | apply pw_below_drewN | apply below_drew1) | exact HB.out)⟩⟩
   case round =>
    clear H'
    try clear c4
    try clear c4b0
    try clear c4b1
    try clear c4b2
    try clear c5
    try clear c5b0
    try clear c5b1
    obtain ⟨x6_1, rfl, HA, HK1, HB⟩ := hrel
    cases gk with
    | zero => exact absurd HA.out (by simp [whirligigref06_Assemble.l0])
    | succ k1 =>
     have H := HA.out
     clear HA
     simp only [whirligigref06_Assemble.l0] at H
     by_cases c8 : x6_1 < 256
     ·rw [if_pos c8] at H
      have c8b0 : decide (x6_1 < 256) = true := decide_eq_true c8
      clear c8
      replace H := Option.bind_eq_some_iff.mp H
      obtain ⟨⟨t393, t394, t395, t396, t397, t398⟩, A90, H⟩ := H
      replace H : ((some (([(x6_1) % 256, t387, t388] : List Int) : List Int)).bind fun y400 => (if t393 = 6 then (whirligigref06_Assemble.j1 k1 a0 t387 t388 x6_1 y400 false t393 t394 t395 t396 t397 t398) else ((whirligigref06_Text.f k1 ((x6_1) % 256) false t387 t388).bind fun t403 => (whirligigref06_Assemble.j1 k1 a0 t387 t388 x6_1 y400 (t403.toList == a0.toList) t393 t394 t395 t396 t397 t398)))) = some (r1, r2) := H
      have A9 := Aside0.mk A90
      clear A90
      obtain ⟨y400, hy400⟩ : ∃ y_ : List Int, y_ = (([(x6_1) % 256, t387, t388] : List Int)) := ⟨_, rfl⟩
      replace H : (if t393 = 6 then (whirligigref06_Assemble.j1 k1 a0 t387 t388 x6_1 y400 false t393 t394 t395 t396 t397 t398) else ((whirligigref06_Text.f k1 ((x6_1) % 256) false t387 t388).bind fun t403 => (whirligigref06_Assemble.j1 k1 a0 t387 t388 x6_1 y400 (t403.toList == a0.toList) t393 t394 t395 t396 t397 t398))) = some (r1, r2) := by first | (rw [hy400]; with_reducible exact H) | (have H2_ := (Option.bind_some _ _).symm.trans H; rw [hy400]; with_reducible exact H2_) | (have H2_ := (Option.bind_some _ _).symm.trans H; with_reducible exact H2_) | with_reducible exact H | (rw [hy400]; exact H) | exact H
      have Ny400 := Aside0.mk hy400
      clear hy400
      have HC10 := Aside0.mk H
      clear H
      go_upto_region 9 with (first | ((with_reducible refine gate_callee (f := 27) rfl ?_); refine goesL_ (some 27) rfl rfl Tryd.func27 (by kernel_rfl) rfl #[.int .u8 ((x6_1) % 256), .bool false] rfl (by (try simp only [List.map_toArray, List.map_cons, List.map_nil]); first | done | rfl | (simp only [List.length_drop, List.length_take]; rfl)) ?_; (with_reducible refine (whirligigref06_form.calls k1 ((x6_1) % 256) false t393 t394 t395 t396 t397 t398 _ A9.out).mono ?_); rintro e w11 ⟨rfl, hb⟩; refine ⟨_, rfl, ?_⟩; have n0_ := Aside0.mk (below_step (by repeat (first | (with_reducible first | exact HB.out | apply below_alloc | apply pw_below_drewN | apply below_drew1) | exact HB.out)) hb); clear HB; have HB := n0_; clear n0_; (try clear hb)) | ((with_reducible refine gate_dst (N := 7) rfl ?_); refine box_event ?hg (N := 7) ?hd (cs := #[.int .i64 0, .int .i64 0, .int .i64 0, .int .i64 0, .int .i64 0, .int .i64 0]) (t := 46) ?hr ?_; (case hd => rfl); (case hg => rfl); (case hr => first | (go_simp; done) | (go_simp; rfl)); intro gb399 hg w12 hbox hb; have n0_ := Aside0.mk (below_step (by repeat (first | (with_reducible first | exact HB.out | apply below_alloc | apply pw_below_drewN | apply below_drew1) | exact HB.out)) hb); have n1_ := Aside0.mk (hbox); have n2_ := Aside0.mk ((by rw [hg]; exact (below_size (by repeat (first | (with_reducible first | exact HB.out | apply below_alloc | apply pw_below_drewN | apply below_drew1) | exact HB.out))) : w.heap.size ≤ gb399)); have n3_ := Aside0.mk ((by rw [hg]; exact (below_size (by repeat (first | (with_reducible first | exact HB.out | apply below_alloc | apply pw_below_drewN | apply below_drew1) | exact HB.out))) : w.heap.size ≤ gb399)); clear HB; have HB := n0_; have BK399 := n1_; have GW399 := n2_; have GE399 := n3_; clear n0_ n1_ n2_ n3_; clear hb hbox hg; obtain ⟨hcz13_0, hcz13_1, hcz13_2, hcz13_3, hcz13_4, hcz13_5, hfz13_0, hfz13_1, hfz13_2, hfz13_3, hfz13_4, hfz13_5⟩ := blk6 BK399.out) | ((with_reducible refine gate_dst (N := 32) rfl ?_); refine Kd.R_lit (Kd.int .u8) _ 5 ?hg (N := 32) ?hd (xs := ([(x6_1) % 256, t387, t388] : List Int)) (inner := [.int .u8 ((x6_1) % 256), .int .u8 t387, .int .u8 t388]) (ok := fun _ => True) (okp := fun _ => True) ?hr ?hp (fun _ hk => hk) trivial (Below.refl _ _) (Nat.le_refl _) (by simp) ?_; (case hd => rfl); (case hg => rfl); (case hr => first | (go_simp; done) | (go_simp; rfl)); (case hp => exact (Reps.one (show Kd.M (Kd.int .u8) _ _ _ ((x6_1) % 256) [.int .u8 ((x6_1) % 256)] from rfl) (Reps.one (show Kd.M (Kd.int .u8) _ _ _ t387 [.int .u8 t387] from rfl) (Reps.one (show Kd.M (Kd.int .u8) _ _ _ t388 [.int .u8 t388] from rfl) (Reps.none _ _))))); intro v401 w14 ho15 hb hg_ hnew_; clear hg_ hnew_; (first | rw [← Ny400.out] at ho15 | (simp only [Int.reduceToNat] at ho15; rw [← Ny400.out] at ho15)); have n0_ := Aside0.mk (Kd.R_lower ho15 (below_size (by repeat (first | (with_reducible first | exact HB.out | apply below_alloc | apply pw_below_drewN | apply below_drew1 | refine below_set ?_ GE399.out) | exact HB.out)))); have n1_ := Aside0.mk (blk_below (g := gb399) (o := .cells #[.int .i64 t393, .int .i64 t394, .int .i64 t395, .int .i64 t396, .int .i64 t397, .int .i64 t398] 46 (0, 0)) (by (with_reducible repeat (first | refine blk_drewN ?_ _ | refine blk_drew ?_ | refine blk_alloc ?_ _)); refine blk_put (cs := #[.int .i64 t393, .int .i64 t394, .int .i64 t395, .int .i64 t396, .int .i64 t397, .int .i64 0]) ?_ 5 _ rfl; refine blk_put (cs := #[.int .i64 t393, .int .i64 t394, .int .i64 t395, .int .i64 t396, .int .i64 0, .int .i64 0]) ?_ 4 _ rfl; refine blk_put (cs := #[.int .i64 t393, .int .i64 t394, .int .i64 t395, .int .i64 0, .int .i64 0, .int .i64 0]) ?_ 3 _ rfl; refine blk_put (cs := #[.int .i64 t393, .int .i64 t394, .int .i64 0, .int .i64 0, .int .i64 0, .int .i64 0]) ?_ 2 _ rfl; refine blk_put (cs := #[.int .i64 t393, .int .i64 0, .int .i64 0, .int .i64 0, .int .i64 0, .int .i64 0]) ?_ 1 _ rfl; refine blk_put (cs := #[.int .i64 0, .int .i64 0, .int .i64 0, .int .i64 0, .int .i64 0, .int .i64 0]) ?_ 0 _ rfl; (with_reducible repeat (first | refine blk_drewN ?_ _ | refine blk_drew ?_ | refine blk_alloc ?_ _)); exact BK399.out) hb); have n2_ := Aside0.mk (below_step (by repeat (first | (with_reducible first | exact HB.out | apply below_alloc | apply pw_below_drewN | apply below_drew1 | refine below_set ?_ GE399.out) | exact HB.out)) hb); clear BK399; clear HB; have HO402 := n0_; have BK399 := n1_; have HB := n2_; clear n0_ n1_ n2_; clear hb ho15))
      (try simp only [Act.put, List.setIfInBounds_toArray, List.set_cons_zero, List.set_cons_succ])
      go_cut [44] (fun v44 wc => ∃ (kq : Nat) (x44_9 : Bool), v44 = .bool x44_9 ∧ Aside0 (whirligigref06_Assemble.j1 kq a0 t387 t388 x6_1 y400 x44_9 t393 t394 t395 t396 t397 t398 = some (r1, r2)) ∧ Aside0 (kq ≤ k1) ∧ Aside0 (Kd.R (Kd.int .u8) 5 wc w.heap.size (fun _ => True) v401 y400) ∧ Aside0 (wc.heap[gb399]? = some (.cells #[.int .i64 t393, .int .i64 t394, .int .i64 t395, .int .i64 t396, .int .i64 t397, .int .i64 t398] 46 (0, 0))) ∧ Aside0 (Below w.heap.size w wc))
      case first =>
       have H := HC10.out
       clear HC10
       by_cases c16 : t393 = 6
       ·rw [if_pos c16] at H
        have c16b0 : (t393 == 6) = true := beq_iff_eq.mpr c16
        have c16b1 : (t393 != 6) = false := bne_eq_false_iff_eq.mpr c16
        clear c16
        (first | rw [c16b0] | (simp only [i64_w, i32_w]; rw [c16b0]) | skip)
        have H' := Aside0.mk H
        clear H
        obtain ⟨hcz17_0, hcz17_1, hcz17_2, hcz17_3, hcz17_4, hcz17_5, hfz17_0, hfz17_1, hfz17_2, hfz17_3, hfz17_4, hfz17_5⟩ := blk6 BK399.out
        go_wp2
        go_meet
        case rel => exact ⟨_, (false), (by first | rfl | (simp; done) | (simp [*]; done)), H', ⟨by have := HK1.out; first | omega | exact Nat.le_refl _⟩, ⟨by (with_reducible repeat (first | apply Kd.R_alloc | apply Kd.R_drewN | apply Kd.R_drew)); exact HO402.out⟩, ⟨by (with_reducible repeat (first | refine blk_drewN ?_ _ | refine blk_drew ?_ | refine blk_alloc ?_ _)); exact BK399.out⟩, ⟨by repeat (first | (with_reducible first | exact HB.out | apply below_alloc | apply pw_below_drewN | apply below_drew1 | refine below_set ?_ GE399.out) | exact HB.out)⟩⟩
       ·rw [if_neg c16] at H
        have c16b0 : (t393 == 6) = false := beq_eq_false_iff_ne.mpr c16
        have c16b1 : (t393 != 6) = true := bne_iff_ne.mpr c16
        (first | rw [c16b0] | (simp only [i64_w, i32_w]; rw [c16b0]) | skip)
        replace H := Option.bind_eq_some_iff.mp H
        obtain ⟨t403, A180, H⟩ := H
        replace H : (whirligigref06_Assemble.j1 k1 a0 t387 t388 x6_1 y400 (t403.toList == a0.toList) t393 t394 t395 t396 t397 t398) = some (r1, r2) := H
        have A18 := Aside0.mk A180
        clear A180
        have H' := Aside0.mk H
        clear H
        obtain ⟨hcz19_0, hcz19_1, hcz19_2, hcz19_3, hcz19_4, hcz19_5, hfz19_0, hfz19_1, hfz19_2, hfz19_3, hfz19_4, hfz19_5⟩ := blk6 BK399.out
        go_wp2_with (first | (go_at_call 12; (with_reducible refine (whirligigref06_Text.calls k1 ((x6_1) % 256) false t387 t388 t403 _ A18.out).mono ?_); rintro e w20 ⟨rfl, hb⟩; have n0_ := Aside0.mk (Kd.R_below (by (with_reducible repeat (first | apply Kd.R_alloc | apply Kd.R_drewN | apply Kd.R_drew)); exact HO402.out) hb); have n1_ := Aside0.mk (blk_below (g := gb399) (o := .cells #[.int .i64 t393, .int .i64 t394, .int .i64 t395, .int .i64 t396, .int .i64 t397, .int .i64 t398] 46 (0, 0)) (by (with_reducible repeat (first | refine blk_drewN ?_ _ | refine blk_drew ?_ | refine blk_alloc ?_ _)); exact BK399.out) hb); have n2_ := Aside0.mk (below_step (by repeat (first | (with_reducible first | exact HB.out | apply below_alloc | apply pw_below_drewN | apply below_drew1 | refine below_set ?_ GE399.out) | exact HB.out)) hb); clear HO402; clear BK399; clear HB; have HO402 := n0_; have BK399 := n1_; have HB := n2_; clear n0_ n1_ n2_; (try clear hb)))
        go_meet
        case rel => exact ⟨_, ((t403.toList == a0.toList)), (by first | rfl | (simp; done) | (simp [*]; done)), H', ⟨by have := HK1.out; first | omega | exact Nat.le_refl _⟩, ⟨by (with_reducible repeat (first | apply Kd.R_alloc | apply Kd.R_drewN | apply Kd.R_drew)); exact HO402.out⟩, ⟨by (with_reducible repeat (first | refine blk_drewN ?_ _ | refine blk_drew ?_ | refine blk_alloc ?_ _)); exact BK399.out⟩, ⟨by repeat (first | (with_reducible first | exact HB.out | apply below_alloc | apply pw_below_drewN | apply below_drew1 | refine below_set ?_ GE399.out) | exact HB.out)⟩⟩
      case rest =>
       clear HC10
       try clear c4
       try clear c4b0
       try clear c4b1
       try clear c4b2
       try clear c5
       try clear c5b0
       try clear c5b1
       try clear c8
       try clear c8b0
       try clear hcz13_0
       try clear hcz13_1
       try clear hcz13_2
       try clear hcz13_3
       try clear hcz13_4
       try clear hcz13_5
       try clear hfz13_0
       try clear hfz13_1
       try clear hfz13_2
       try clear hfz13_3
       try clear hfz13_4
       try clear hfz13_5
       obtain ⟨kq, x44_9, rfl, HA, HJ9, HO_8, BK399, HB⟩ := hcut
       cases kq with
       | zero => exact absurd HA.out (by simp [whirligigref06_Assemble.j1])
       | succ kj9 =>
        have H := HA.out
        clear HA
        simp only [whirligigref06_Assemble.j1] at H
        by_cases c21 : x44_9 = true
        ·subst c21
         rw [if_pos rfl] at H
         by_cases c22 : 0 ≤ t396
         ·rw [if_pos c22] at H
          have c22b0 := eq_true c22
          have c22b1 : decide (0 ≤ t396) = true := decide_eq_true c22
          clear c22
          by_cases c23 : t396 ≤ (y400.length : Int)
          ·rw [if_pos c23] at H
           have c23b0 := eq_true c23
           have c23b1 : decide (t396 ≤ (y400.length : Int)) = true := decide_eq_true c23
           clear c23
           obtain ⟨y404, hy404⟩ : ∃ y_ : List Int, y_ = (y400.take (t396 : Int).toNat) := ⟨_, rfl⟩
           replace H : (some (y404, 0)) = some (r1, r2) := by first | (rw [hy404]; with_reducible exact H) | (have H2_ := (Option.bind_some _ _).symm.trans H; rw [hy404]; with_reducible exact H2_) | (have H2_ := (Option.bind_some _ _).symm.trans H; with_reducible exact H2_) | with_reducible exact H | (rw [hy404]; exact H) | exact H
           have Ny404 := Aside0.mk hy404
           clear hy404
           simp only [Option.some.injEq, Prod.mk.injEq] at H
           obtain ⟨rfl, rfl⟩ := H
           obtain ⟨hcz24_0, hcz24_1, hcz24_2, hcz24_3, hcz24_4, hcz24_5, hfz24_0, hfz24_1, hfz24_2, hfz24_3, hfz24_4, hfz24_5⟩ := blk6 BK399.out
           obtain ⟨Ao25, co25, eo25⟩ := Kd.R_slice HO_8.out
           subst eo25
           have q26 : (t396 : Int) ≤ ((y400.length : Int) : Int) := of_decide_eq_true (by first | (with_reducible assumption) | assumption)
           obtain ⟨i026, hi026, _, hsz26, _⟩ := info_parts info5
           have hcut26 := cut_to (P := Tryd.prog) 27 5 .i64 Tryd.underlying27 hi026 Ao25 y400.length co25 t396 (of_decide_eq_true (by first | (with_reducible assumption) | assumption)) q26 (Kd.R_reads' HO_8.out).2.1
           have hr26 := Kd.R_take (m := (t396 : Int).toNat) HO_8.out (by omega)
           have hy26 : y404.length = (t396 : Int).toNat := (by rw [Ny404.out, List.length_take]; omega)
           rw [← Ny404.out] at hr26
           rw [← hy26] at hr26 hcut26
           clear hy26 hi026 hsz26 HO_8
           have HO406 := Aside0.mk hr26
           clear hr26
           replace q26 := eq_true q26
           go_wp2
           go_ret2
           exact ⟨_, by first | rfl | (simp [errW_none, errW_some] <;> rfl) | (simp [*, errW_none, errW_some] <;> rfl), by (with_reducible repeat (first | apply Kd.R_alloc | apply Kd.R_drewN | apply Kd.R_drew)); exact HO406.out, by repeat (first | (with_reducible first | exact HB.out | apply below_alloc | apply pw_below_drewN | apply below_drew1 | refine below_set ?_ GE399.out) | exact HB.out)⟩
          ·rw [if_neg c23] at H
           exact absurd H (by simp)
         ·rw [if_neg c22] at H
          exact absurd H (by simp)
        ·replace c21 := Bool.eq_false_iff.mpr c21
         subst c21
         have H1 : ((whirligigref06_Text.f kj9 ((x6_1) % 256) true 0 0).bind fun t407 => (if t407.toList = a0.toList then (some ((([203, (x6_1) % 256] : List Int)), 0)) else (whirligigref06_Assemble.l0 kj9 a0 t387 t388 (wrap64 (x6_1 + 1))))) = some (r1, r2) := by rw [if_neg (show ¬ (false = true) by decide)] at H; exact H
         clear H
         have H := H1
         clear H1
         replace H := Option.bind_eq_some_iff.mp H
         obtain ⟨t407, A270, H⟩ := H
         replace H : (if t407.toList = a0.toList then (some ((([203, (x6_1) % 256] : List Int)), 0)) else (whirligigref06_Assemble.l0 kj9 a0 t387 t388 (wrap64 (x6_1 + 1)))) = some (r1, r2) := H
         have A27 := Aside0.mk A270
         clear A270
         by_cases c28 : t407.toList = a0.toList
         ·rw [if_pos c28] at H
          have c28b0 : (t407.toList == a0.toList) = true := beq_iff_eq.mpr c28
          have c28b1 : (t407.toList != a0.toList) = false := bne_eq_false_iff_eq.mpr c28
          clear c28
          obtain ⟨y408, hy408⟩ : ∃ y_ : List Int, y_ = (([203, (x6_1) % 256] : List Int)) := ⟨_, rfl⟩
          replace H : (some (y408, 0)) = some (r1, r2) := by first | (rw [hy408]; with_reducible exact H) | (have H2_ := (Option.bind_some _ _).symm.trans H; rw [hy408]; with_reducible exact H2_) | (have H2_ := (Option.bind_some _ _).symm.trans H; with_reducible exact H2_) | with_reducible exact H | (rw [hy408]; exact H) | exact H
          have Ny408 := Aside0.mk hy408
          clear hy408
          simp only [Option.some.injEq, Prod.mk.injEq] at H
          obtain ⟨rfl, rfl⟩ := H
          go_wp2_with (first | ((with_reducible refine gate_callee (f := 12) rfl ?_); refine goesL_ (some 51) rfl rfl Tryd.func12 (by kernel_rfl) rfl #[.int .u8 ((x6_1) % 256), .bool true, .int .u8 0, .int .u8 0] rfl (by (try simp only [List.map_toArray, List.map_cons, List.map_nil]); first | done | rfl | (simp only [List.length_drop, List.length_take]; rfl)) ?_; (with_reducible refine (whirligigref06_Text.calls kj9 ((x6_1) % 256) true 0 0 t407 _ A27.out).mono ?_); rintro e w29 ⟨rfl, hb⟩; refine ⟨_, rfl, ?_⟩; have n0_ := Aside0.mk (Kd.R_below (by (with_reducible repeat (first | apply Kd.R_alloc | apply Kd.R_drewN | apply Kd.R_drew)); exact HO_8.out) hb); have n1_ := Aside0.mk (blk_below (g := gb399) (o := .cells #[.int .i64 t393, .int .i64 t394, .int .i64 t395, .int .i64 t396, .int .i64 t397, .int .i64 t398] 46 (0, 0)) (by (with_reducible repeat (first | refine blk_drewN ?_ _ | refine blk_drew ?_ | refine blk_alloc ?_ _)); exact BK399.out) hb); have n2_ := Aside0.mk (below_step (by repeat (first | (with_reducible first | exact HB.out | apply below_alloc | apply pw_below_drewN | apply below_drew1 | refine below_set ?_ GE399.out) | exact HB.out)) hb); clear HO_8; clear BK399; clear HB; have HO_8 := n0_; have BK399 := n1_; have HB := n2_; clear n0_ n1_ n2_; (try clear hb)) | ((with_reducible refine gate_dst (N := 56) rfl ?_); refine Kd.R_lit (Kd.int .u8) _ 5 ?hg (N := 56) ?hd (xs := ([203, (x6_1) % 256] : List Int)) (inner := [.int .u8 203, .int .u8 ((x6_1) % 256)]) (ok := fun _ => True) (okp := fun _ => True) ?hr ?hp (fun _ hk => hk) trivial (Below.refl _ _) (Nat.le_refl _) (by simp) ?_; (case hd => rfl); (case hg => rfl); (case hr => first | (go_simp; done) | (go_simp; rfl)); (case hp => exact (Reps.one (show Kd.M (Kd.int .u8) _ _ _ 203 [.int .u8 203] from rfl) (Reps.one (show Kd.M (Kd.int .u8) _ _ _ ((x6_1) % 256) [.int .u8 ((x6_1) % 256)] from rfl) (Reps.none _ _)))); intro v409 w30 ho31 hb hg_ hnew_; clear hg_ hnew_; (first | rw [← Ny408.out] at ho31 | (simp only [Int.reduceToNat] at ho31; rw [← Ny408.out] at ho31)); have n0_ := Aside0.mk (Kd.R_elder' (by (with_reducible repeat (first | apply Kd.R_alloc | apply Kd.R_drewN | apply Kd.R_drew)); exact HO_8.out) (Kd.R_base ho31) hb); have n1_ := Aside0.mk (Kd.R_lower (Kd.R_new' ho31 (Kd.R_lt (by (with_reducible repeat (first | apply Kd.R_alloc | apply Kd.R_drewN | apply Kd.R_drew)); exact HO_8.out))) (below_size (by repeat (first | (with_reducible first | exact HB.out | apply below_alloc | apply pw_below_drewN | apply below_drew1 | refine below_set ?_ GE399.out) | exact HB.out)))); have n2_ := Aside0.mk (blk_below (g := gb399) (o := .cells #[.int .i64 t393, .int .i64 t394, .int .i64 t395, .int .i64 t396, .int .i64 t397, .int .i64 t398] 46 (0, 0)) (by (with_reducible repeat (first | refine blk_drewN ?_ _ | refine blk_drew ?_ | refine blk_alloc ?_ _)); exact BK399.out) hb); have n3_ := Aside0.mk (below_step (by repeat (first | (with_reducible first | exact HB.out | apply below_alloc | apply pw_below_drewN | apply below_drew1 | refine below_set ?_ GE399.out) | exact HB.out)) hb); clear HO_8; clear BK399; clear HB; have HO_8 := n0_; have HO410 := n1_; have BK399 := n2_; have HB := n3_; clear n0_ n1_ n2_ n3_; clear hb ho31))
          go_ret2
          exact ⟨_, by first | rfl | (simp [errW_none, errW_some] <;> rfl) | (simp [*, errW_none, errW_some] <;> rfl), by (with_reducible repeat (first | apply Kd.R_alloc | apply Kd.R_drewN | apply Kd.R_drew)); exact Kd.R_mono HO410.out (fun _ hk => trivial), by repeat (first | (with_reducible first | exact HB.out | apply below_alloc | apply pw_below_drewN | apply below_drew1 | refine below_set ?_ GE399.out) | exact HB.out)⟩
         ·rw [if_neg c28] at H
          have c28b0 : (t407.toList == a0.toList) = false := beq_eq_false_iff_ne.mpr c28
          have c28b1 : (t407.toList != a0.toList) = true := bne_iff_ne.mpr c28
          have H' := Aside0.mk H
          clear H
          go_wp2_with (first | ((with_reducible refine gate_callee (f := 12) rfl ?_); refine goesL_ (some 51) rfl rfl Tryd.func12 (by kernel_rfl) rfl #[.int .u8 ((x6_1) % 256), .bool true, .int .u8 0, .int .u8 0] rfl (by (try simp only [List.map_toArray, List.map_cons, List.map_nil]); first | done | rfl | (simp only [List.length_drop, List.length_take]; rfl)) ?_; (with_reducible refine (whirligigref06_Text.calls kj9 ((x6_1) % 256) true 0 0 t407 _ A27.out).mono ?_); rintro e w32 ⟨rfl, hb⟩; refine ⟨_, rfl, ?_⟩; have n0_ := Aside0.mk (Kd.R_below (by (with_reducible repeat (first | apply Kd.R_alloc | apply Kd.R_drewN | apply Kd.R_drew)); exact HO_8.out) hb); have n1_ := Aside0.mk (blk_below (g := gb399) (o := .cells #[.int .i64 t393, .int .i64 t394, .int .i64 t395, .int .i64 t396, .int .i64 t397, .int .i64 t398] 46 (0, 0)) (by (with_reducible repeat (first | refine blk_drewN ?_ _ | refine blk_drew ?_ | refine blk_alloc ?_ _)); exact BK399.out) hb); have n2_ := Aside0.mk (below_step (by repeat (first | (with_reducible first | exact HB.out | apply below_alloc | apply pw_below_drewN | apply below_drew1 | refine below_set ?_ GE399.out) | exact HB.out)) hb); clear HO_8; clear BK399; clear HB; have HO_8 := n0_; have BK399 := n1_; have HB := n2_; clear n0_ n1_ n2_; (try clear hb)))
          go_roundg kj9
          case measure => have := HK1.out; have := HJ9.out; omega
          case rel => exact ⟨(wrap64 (x6_1 + 1)), (by first | rfl | (simp; done) | (simp [*]; done)), H', ⟨by have := HK1.out; have := HJ9.out; omega⟩, ⟨by repeat (first | (with_reducible first | exact HB.out | apply below_alloc | apply pw_below_drewN | apply below_drew1 | refine below_set ?_ GE399.out) | exact HB.out)⟩⟩
     ·rw [if_neg c8] at H
      have c8b0 : decide (x6_1 < 256) = false := decide_eq_false c8
      clear c8
      simp only [Option.some.injEq, Prod.mk.injEq] at H
      obtain ⟨rfl, rfl⟩ := H
      go_wp2
      go_ret2
      exact ⟨_, by first | rfl | (simp [errW_none, errW_some] <;> rfl) | (simp [*, errW_none, errW_some] <;> rfl), by first | exact Kd.R_nil _ _ _ _ _ | exact Kd.N_nil _ _ _ _ _ | exact Kd.V_nil _ _ _ _ _ | exact Kd.Q_nil _ _ _ _ _ | exact Kd.S_nil _ _ _ _ _, by repeat (first | (with_reducible first | exact HB.out | apply below_alloc | apply pw_below_drewN | apply below_drew1) | exact HB.out)⟩
 ·rw [if_neg c4] at H
  exact absurd H (by simp)

end Go.Proofs.YtpjbfpheenamiaaDoor.PF
/- The document's Assemble, in plain words: it answers as the program's; condition: a text of no more than 2^47 bytes. -/
namespace Go.Proofs.YtpjbfpheenamiaaDoor.PF
open Go.RowKit Go.Proofs.YtpjbfpheenamiaaDoorW.PrintWords
set_option linter.unusedVariables false
set_option linter.unusedSimpArgs false
set_option maxRecDepth 100000
theorem worth_all : ((List.range 256).all fun c => decide (whirligigref01_worth.f 20 (c : Int) = some (digV (c : Int)))) = true := by kernel_rfl
theorem worth_ref {k : Nat} (hk : 20 ≤ k) (c : Nat) (h : c < 256) : whirligigref01_worth.f k (c : Int) = some (digV (c : Int)) :=
  at_rounds (g := fun k => whirligigref01_worth.f k (c : Int)) (whirligigref01_worth.mono _) hk (of_decide_eq_true (List.all_eq_true.1 worth_all c (List.mem_range.2 h)))
theorem bt_list (s : ByteArray) (i : Nat) (c : UInt8) (h : s.data.toList[i]? = some c) : bt s (i : Int) = (c.toNat : Int) := by
  obtain ⟨hl, e⟩ := List.getElem?_eq_some_iff.1 h
  have hs : i < s.size := by rw [size_list]; exact hl
  unfold bt
  rw [Int.toNat_natCast, dif_pos hs]
  have : s[i]'hs = c := by rw [← e]; rfl
  rw [this]
theorem pow16 {i : Nat} (h : i ≤ 4) : (16 : Int) ^ i ≤ 65536 ∧ (i ≤ 3 → (16 : Int) ^ i ≤ 4096) := by
  rcases i with _ | _ | _ | _ | _ | i
  · decide
  · decide
  · decide
  · decide
  · decide
  · omega
theorem read_loop (s : ByteArray) (hs : s.size ≤ 4) : ∀ (d i : Nat) (acc : Int) (k : Nat), d + i = s.size → 0 ≤ acc → acc < 16 ^ i → 20 + d + 1 ≤ k →
    whirligigref01_Read.l0 k s acc (i : Int) = some (if readV (s.data.toList.drop i) acc < 0 then (0, 6) else (readV (s.data.toList.drop i) acc, 0)) := by
  intro d
  induction d with
  | zero =>
    intro i acc k hd h0 h1 hk
    obtain ⟨k, rfl⟩ : ∃ m, k = m + 1 := ⟨k - 1, by omega⟩
    have hp := (pow16 (i := i) (by omega)).1
    rw [whirligigref01_Read.l0, if_neg (by omega), List.drop_eq_nil_of_le (by rw [← size_list]; omega), wrapU16]
    unfold readV
    rw [if_neg (by omega)]
    congr 2
    omega
  | succ d ih =>
    intro i acc k hd h0 h1 hk
    obtain ⟨k, rfl⟩ : ∃ m, k = m + 1 := ⟨k - 1, by omega⟩
    have hlt : i < s.data.toList.length := by rw [← size_list]; omega
    have hc : s.data.toList[i]? = some (s.data.toList[i]'hlt) := List.getElem?_eq_getElem hlt
    generalize s.data.toList[i]'hlt = c at hc
    have hdr : s.data.toList.drop i = c :: s.data.toList.drop (i + 1) := by
      rw [List.drop_eq_getElem_cons hlt]
      rw [List.getElem?_eq_getElem hlt] at hc
      rw [Option.some.inj hc]
    have hp := (pow16 (i := i) (by omega)).2 (by omega)
    have hdl := digV_lt c.toNat
    rw [whirligigref01_Read.l0, if_pos (by omega), if_pos (by omega), bt_list s i c hc, worth_ref (by omega) c.toNat c.toNat_lt, bind_some', hdr]
    unfold readV
    by_cases hn : digV (c.toNat : Int) < 0
    · rw [if_pos hn, if_pos hn, if_pos (by omega)]
    · rw [if_neg hn, if_neg hn, wrap64_id (x := acc * 16) (by omega) (by omega), wrap64_id (x := acc * 16 + digV c.toNat) (by omega) (by omega), wrap64_id (x := (i : Int) + 1) (by omega) (by omega)]
      have e : acc * 16 % 65536 = acc * 16 := by omega
      rw [e]
      have hpow : (16 : Int) ^ (i + 1) = 16 ^ i * 16 := Int.pow_succ _ _
      exact ih (i + 1) (acc * 16 + digV c.toNat) k (by omega) (by omega) (by omega) (by omega)
theorem read_ref {k : Nat} (hk : 40 ≤ k) (s : ByteArray) (d : Nat) (h1 : 1 ≤ d) (h4 : d ≤ 4) (hs : s.size = d) : whirligigref01_Read.f k s (d : Int) = some (if readV s.data.toList 0 < 0 then (0, 6) else (readV s.data.toList 0, 0)) := by
  obtain ⟨k, rfl⟩ : ∃ m, k = m + 1 := ⟨k - 1, by omega⟩
  unfold whirligigref01_Read.f
  rw [if_neg (by omega), decide_eq_false (by omega), whirligigref01_Read.j0, if_neg (by simp), if_pos (by omega)]
  have := read_loop s (by omega) s.size 0 0 k (by omega) (by omega) (by simp) (by omega)
  rw [List.drop_zero] at this
  exact this
/-! ### the last number of a line -/
def lastAt : List UInt8 → Nat → Int → Int
  | [], _, at_ => at_
  | c :: l, i, at_ => if c = 36 then lastAt l (i + 1) i else lastAt l (i + 1) at_
theorem lastAt_no {l : List UInt8} (h : (36 : UInt8) ∉ l) (i : Nat) (a : Int) : lastAt l i a = a := by
  induction l generalizing i with
  | nil => rfl
  | cons c l ih => unfold lastAt; rw [if_neg (fun e => h (by simp [e])), ih (fun e => h (by simp [e]))]
theorem lastAt_app (p q : List UInt8) (h : (36 : UInt8) ∉ q) (i : Nat) (a : Int) : lastAt (p ++ 36 :: q) i a = ((i + p.length : Nat) : Int) := by
  induction p generalizing i a with
  | nil => show lastAt (36 :: q) i a = _; unfold lastAt; rw [if_pos rfl, lastAt_no h]; rfl
  | cons c p ih =>
    rw [List.cons_append]
    unfold lastAt
    split
    · rw [ih]; simp; omega
    · rw [ih]; simp; omega
theorem lastAt_range (l : List UInt8) : ∀ (i : Nat) (a : Int), lastAt l i a = a ∨ ((i : Int) ≤ lastAt l i a ∧ lastAt l i a < i + l.length) := by
  induction l with
  | nil => intro i a; exact .inl rfl
  | cons c l ih =>
    intro i a
    unfold lastAt
    split
    · rcases ih (i + 1) i with e | ⟨e1, e2⟩
      · right; rw [e]; simp; omega
      · right; simp; omega
    · rcases ih (i + 1) a with e | ⟨e1, e2⟩
      · exact .inl e
      · right; simp; omega
theorem number_loop (s : ByteArray) (hz : s.size ≤ 140737488351232) : ∀ (d i : Nat) (a : Int) (k : Nat), d + i = s.size → d ≤ k → whirligigref06_number.l0 k s a (i : Int) = whirligigref06_number.l0 (k - d) s (lastAt (s.data.toList.drop i) i a) (s.size : Int) := by
  intro d
  induction d with
  | zero => intro i a k hd hk; rw [List.drop_eq_nil_of_le (by rw [← size_list]; omega), show (i : Int) = (s.size : Int) by omega]; rfl
  | succ d ih =>
    intro i a k hd hk
    obtain ⟨k, rfl⟩ : ∃ m, k = m + 1 := ⟨k - 1, by omega⟩
    have hlt : i < s.data.toList.length := by rw [← size_list]; omega
    have hc : s.data.toList[i]? = some (s.data.toList[i]'hlt) := List.getElem?_eq_getElem hlt
    generalize s.data.toList[i]'hlt = c at hc
    have hdr : s.data.toList.drop i = c :: s.data.toList.drop (i + 1) := by
      rw [List.drop_eq_getElem_cons hlt]
      rw [List.getElem?_eq_getElem hlt] at hc
      rw [Option.some.inj hc]
    rw [hdr, whirligigref06_number.l0, if_pos (by omega), if_pos (by omega), bt_list s i c hc, wrap64_id (x := (i : Int) + 1) (by omega) (by omega), show k + 1 - (d + 1) = k - d by omega]
    unfold lastAt
    by_cases h36 : c = 36
    · rw [if_pos (by rw [h36]; rfl), if_pos h36]; exact ih (i + 1) i k (by omega) (by omega)
    · rw [if_neg (fun e => h36 (UInt8.toNat_inj.1 (by show c.toNat = 36; omega))), if_neg h36]; exact ih (i + 1) a k (by omega) (by omega)
def tailS (q : List UInt8) : Nat × Nat :=
  if 4 ≤ q.length ∧ 0 ≤ readV (q.take 4) 0 then ((readV (q.take 4) 0).toNat % 256, (readV (q.take 4) 0).toNat / 256)
  else if 2 ≤ q.length then ((readV (q.take 2) 0).toNat % 256, 0) else (0, 0)
theorem readV_lt (l : List UInt8) (acc : Int) (h : acc < 65536) : readV l acc < 65536 := by
  induction l generalizing acc with
  | nil => exact h
  | cons c l ih =>
    unfold readV
    split
    · omega
    · have := digV_lt c.toNat; exact ih _ (by omega)
theorem tailS_lt (q : List UInt8) : (tailS q).1 < 256 ∧ (tailS q).2 < 256 := by
  unfold tailS
  have := readV_lt (q.take 4) 0 (by omega)
  split
  · constructor
    · show _ % 256 < 256; omega
    · show (readV (q.take 4) 0).toNat / 256 < 256; omega
  · split
    · exact ⟨by show _ % 256 < 256; omega, by show 0 < 256; omega⟩
    · exact ⟨by show 0 < 256; omega, by show 0 < 256; omega⟩
theorem two_part (s : ByteArray) (a : Nat) (q : List UInt8) (hq : s.data.toList.drop (a + 1) = q) (hz : s.size ≤ 140737488351232) (ha : a < s.size) {k : Nat} (hk : 40 ≤ k) (h2 : 2 ≤ q.length) :
    ((whirligigref01_Read.f k (s.extract ((a : Int) + 1).toNat ((a : Int) + 3).toNat) 2).bind fun bt447 => (some ((bt447.1) % 256, (0 : Int)))) = some ((((readV (q.take 2) 0).toNat % 256 : Nat) : Int), (0 : Int)) := by
  have hn : (s.extract ((a : Int) + 1).toNat ((a : Int) + 3).toNat).data.toList = q.take 2 := by rw [extract_list, show ((a : Int) + 1).toNat = a + 1 by omega, hq, show ((a : Int) + 3).toNat - (a + 1) = 2 by omega]
  have hsz : (s.extract ((a : Int) + 1).toNat ((a : Int) + 3).toNat).size = 2 := by rw [size_list, hn, List.length_take]; omega
  rw [show (2 : Int) = ((2 : Nat) : Int) from rfl, read_ref hk _ 2 (by omega) (by omega) hsz, hn, bind_some']
  by_cases hr : readV (q.take 2) 0 < 0
  · rw [if_pos hr]
    congr 2
    show (0 : Int) % 256 = _
    omega
  · rw [if_neg hr]
    congr 2
    show readV (q.take 2) 0 % 256 = _
    omega
theorem number_ref (s : ByteArray) (hz : s.size ≤ 140737488351232) {k : Nat} (hk : s.size + 50 ≤ k) : whirligigref06_number.f k s = some (if lastAt s.data.toList 0 (-1) < 0 then (0, 0) else (((tailS (s.data.toList.drop ((lastAt s.data.toList 0 (-1)).toNat + 1))).1 : Int), ((tailS (s.data.toList.drop ((lastAt s.data.toList 0 (-1)).toNat + 1))).2 : Int))) := by
  unfold whirligigref06_number.f
  have hl := number_loop s hz s.size 0 (-1) k (by omega) (by omega)
  rw [show ((0 : Nat) : Int) = 0 from rfl, List.drop_zero] at hl
  rw [hl]
  obtain ⟨m, hm⟩ : ∃ m, k - s.size = m + 1 := ⟨k - s.size - 1, by omega⟩
  rw [hm, whirligigref06_number.l0, if_neg (by omega)]
  rcases lastAt_range s.data.toList 0 (-1) with e | ⟨e1, e2⟩
  · rw [e, if_pos (by omega), if_pos (by omega)]
  · obtain ⟨a, ha⟩ : ∃ a : Nat, lastAt s.data.toList 0 (-1) = a := ⟨(lastAt s.data.toList 0 (-1)).toNat, by omega⟩
    rw [ha] at e2 ⊢
    rw [← size_list] at e2
    have has : a < s.size := by omega
    rw [if_neg (show ¬ (a : Int) < 0 by omega), if_neg (show ¬ (a : Int) < 0 by omega), show ((a : Int)).toNat = a from Int.toNat_natCast a]
    obtain ⟨q, hq⟩ : ∃ q, s.data.toList.drop (a + 1) = q := ⟨_, rfl⟩
    have hql : q.length = s.size - (a + 1) := by rw [← hq, List.length_drop, ← size_list]
    rw [hq, wrap64_id (x := (a : Int) + 5) (by omega) (by omega), wrap64_id (x := (a : Int) + 3) (by omega) (by omega), wrap64_id (x := (a : Int) + 1) (by omega) (by omega)]
    unfold tailS
    by_cases h5 : (s.size : Int) ≥ (a : Int) + 5
    · rw [if_pos h5, if_pos (by omega), if_pos (by omega), if_pos (by omega)]
      have hn : (s.extract ((a : Int) + 1).toNat ((a : Int) + 5).toNat).data.toList = q.take 4 := by rw [extract_list, show ((a : Int) + 1).toNat = a + 1 by omega, hq, show ((a : Int) + 5).toNat - (a + 1) = 4 by omega]
      have hsz : (s.extract ((a : Int) + 1).toNat ((a : Int) + 5).toNat).size = 4 := by rw [size_list, hn, List.length_take]; omega
      rw [show (4 : Int) = ((4 : Nat) : Int) from rfl, read_ref (by omega) _ 4 (by omega) (by omega) hsz, hn, bind_some']
      by_cases hr : readV (q.take 4) 0 < 0
      · rw [if_pos hr, if_neg (by decide), if_pos (by omega), if_pos (by omega), if_pos (by omega), if_neg (fun h => by omega), if_pos (by omega), two_part s a q hq hz has (by omega) (by omega)]
        rfl
      · rw [if_neg hr, if_pos rfl, if_pos ⟨by omega, by omega⟩]
        have hw := readV_lt (q.take 4) 0 (by omega)
        have hsp := split_ref ((readV (q.take 4) 0).toNat / 256) ((readV (q.take 4) 0).toNat % 256) (by omega) (by omega)
        rw [show ((((readV (q.take 4) 0).toNat / 256 : Nat) : Int) * 256 + (((readV (q.take 4) 0).toNat % 256 : Nat) : Int)) = readV (q.take 4) 0 by omega] at hsp
        dsimp only
        rw [hsp, bind_some']
    · rw [if_neg h5, if_neg (show ¬ (4 ≤ q.length ∧ 0 ≤ readV (q.take 4) 0) from fun h => by omega)]
      by_cases h3 : (s.size : Int) ≥ (a : Int) + 3
      · rw [if_pos h3, if_pos (by omega), if_pos (by omega), if_pos (by omega), if_pos (by omega), two_part s a q hq hz has (by omega) (by omega)]
        rfl
      · rw [if_neg h3, if_neg (by omega)]
        rfl
end Go.Proofs.YtpjbfpheenamiaaDoor.PF
/- For every text the document assembles what the program does; condition: a text of no more than 2^47 bytes. -/
namespace Go.Proofs.YtpjbfpheenamiaaDoor.PF
open Go.RowKit Go.Proofs.YtpjbfpheenamiaaDoorW.PrintWords
set_option linter.unusedVariables false
set_option linter.unusedSimpArgs false
set_option maxRecDepth 100000
def searchS (s : ByteArray) (lo hi : Nat) : Nat → Nat → List Int × Int
  | 0, _ => ([], 6)
  | d + 1, i => if i ≠ 203 ∧ lineB i lo hi = s then ((ints [i, lo, hi]).take (nbT i), 0) else if lineB (i + 256) 0 0 = s then ([203, (i : Int)], 0) else searchS s lo hi d (i + 1)
theorem eq_lists (a b : ByteArray) : (a.toList = b.toList) ↔ a = b := by
  rw [ByteArray.toList_eq, ByteArray.toList_eq]
  exact ⟨toList_inj, fun h => by rw [h]⟩
theorem search_ref (s : ByteArray) (lo hi : Nat) (hlo : lo < 256) (hhi : hi < 256) : ∀ (d i k : Nat), d + i = 256 → 200 + 2 * d ≤ k → whirligigref06_Assemble.l0 k s (lo : Int) (hi : Int) (i : Int) = some (searchS s lo hi d i) := by
  intro d
  induction d with
  | zero =>
    intro i k hd hk
    obtain ⟨k, rfl⟩ : ∃ m, k = m + 1 := ⟨k - 1, by omega⟩
    rw [whirligigref06_Assemble.l0, if_neg (by omega)]
    rfl
  | succ d ih =>
    intro i k hd hk
    obtain ⟨k, rfl⟩ : ∃ m, k = m + 1 + 1 := ⟨k - 2, by omega⟩
    have hi2 : i < 256 := by omega
    obtain ⟨f0, f1, f2, f3, f4, f5, hf, hdc, h3, h6, h1, hn⟩ := formTab i hi2
    have hform : whirligigref06_form.f (k + 1) (i : Int) false = some (f0, f1, f2, f3, f4, f5) := by
      have e := form_ref i (by omega)
      rw [show ((i : Int) % 256) = i by omega, decide_eq_false (by omega), hf] at e
      exact at_rounds (g := fun k => whirligigref06_form.f k (i : Int) false) (whirligigref06_form.mono _ _) (by omega) e
    have behind : ∀ y : List Int, whirligigref06_Assemble.j1 (k + 1) s (lo : Int) (hi : Int) (i : Int) y false f0 f1 f2 f3 f4 f5 = some (if lineB (i + 256) 0 0 = s then ([203, (i : Int)], 0) else searchS s lo hi d (i + 1)) := by
      intro y
      rw [whirligigref06_Assemble.j1, if_neg (by decide), show ((i : Int) % 256) = i by omega, text_ref1 (by omega) i hi2, bind_some']
      by_cases hc : lineB (i + 256) 0 0 = s
      · rw [if_pos hc, if_pos (show (⟨(lineL (i + 256) 0 0).toArray⟩ : ByteArray).toList = s.toList from (eq_lists _ _).2 hc)]
      · rw [if_neg hc, if_neg (show ¬ (⟨(lineL (i + 256) 0 0).toArray⟩ : ByteArray).toList = s.toList from fun e => hc ((eq_lists _ _).1 e)), wrap64_id (by omega) (by omega)]
        exact ih (i + 1) k (by omega) (by omega)
    rw [whirligigref06_Assemble.l0, if_pos (by omega), show ((i : Int) % 256) = i by omega, hform, bind_some', bind_some']
    dsimp only
    unfold searchS
    by_cases hc : i = 203
    · rw [if_pos (h6.2 hc), behind, if_neg (show ¬ (i ≠ 203 ∧ lineB i lo hi = s) from fun h => h.1 hc)]
    · rw [if_neg (fun e => hc (h6.1 e)), text_ref0 (by omega) i lo hi hi2 hlo hhi, bind_some']
      by_cases he : lineB i lo hi = s
      · have e1 : ((⟨(lineL i lo hi).toArray⟩ : ByteArray).toList == s.toList) = true := beq_iff_eq.2 ((eq_lists _ _).2 he)
        rw [e1, whirligigref06_Assemble.j1, if_pos rfl, if_pos (by omega), if_pos (by simp; omega), if_pos ⟨hc, he⟩]
        congr 2
        show _ = (ints [i, lo, hi]).take (nbT i)
        rw [show nbT i = f3.toNat by omega]
        rfl
      · have e1 : ((⟨(lineL i lo hi).toArray⟩ : ByteArray).toList == s.toList) = false := beq_eq_false_iff_ne.2 fun e => he ((eq_lists _ _).1 e)
        rw [e1, behind, if_neg (show ¬ (i ≠ 203 ∧ lineB i lo hi = s) from fun h => he h.2)]
theorem search_cases (s : ByteArray) (lo hi : Nat) : ∀ (d i : Nat), (searchS s lo hi d i = ([], 6) ∧ ∀ j, i ≤ j → j < i + d → ¬ (j ≠ 203 ∧ lineB j lo hi = s) ∧ lineB (j + 256) 0 0 ≠ s) ∨
    (∃ j, j < i + d ∧ j ≠ 203 ∧ lineB j lo hi = s ∧ searchS s lo hi d i = ((ints [j, lo, hi]).take (nbT j), 0)) ∨ (∃ j, j < i + d ∧ lineB (j + 256) 0 0 = s ∧ searchS s lo hi d i = ([203, (j : Int)], 0)) := by
  intro d
  induction d with
  | zero => intro i; exact .inl ⟨rfl, fun j h1 h2 => by omega⟩
  | succ d ih =>
    intro i
    unfold searchS
    by_cases h1 : i ≠ 203 ∧ lineB i lo hi = s
    · exact .inr (.inl ⟨i, by omega, h1.1, h1.2, by rw [if_pos h1]⟩)
    · by_cases h2 : lineB (i + 256) 0 0 = s
      · exact .inr (.inr ⟨i, by omega, h2, by rw [if_neg h1, if_pos h2]⟩)
      · rw [if_neg h1, if_neg h2]
        rcases ih (i + 1) with ⟨e, h⟩ | ⟨j, hj, a, b, c⟩ | ⟨j, hj, b, c⟩
        · refine .inl ⟨e, fun j h3 h4 => ?_⟩
          by_cases e3 : j = i
          · subst e3; exact ⟨h1, h2⟩
          · exact h j (by omega) (by omega)
        · exact .inr (.inl ⟨j, by omega, a, b, c⟩)
        · exact .inr (.inr ⟨j, by omega, b, c⟩)
def numS (l : List UInt8) : Nat × Nat := if lastAt l 0 (-1) < 0 then (0, 0) else tailS (l.drop ((lastAt l 0 (-1)).toNat + 1))
theorem number_is (s : ByteArray) (hz : s.size ≤ 140737488351232) {k : Nat} (hk : s.size + 50 ≤ k) : whirligigref06_number.f k s = some (((numS s.data.toList).1 : Int), ((numS s.data.toList).2 : Int)) := by
  rw [number_ref s hz hk]
  unfold numS
  split
  · rfl
  · rfl
theorem numS_lt (l : List UInt8) : (numS l).1 < 256 ∧ (numS l).2 < 256 := by
  unfold numS
  split
  · exact ⟨by show 0 < 256; omega, by show 0 < 256; omega⟩
  · exact tailS_lt _
theorem numS_at (p q : List UInt8) (h : (36 : UInt8) ∉ q) : numS (p ++ 36 :: q) = tailS q := by
  unfold numS
  rw [lastAt_app p q h, if_neg (by omega), show ((((0 + p.length : Nat) : Int)).toNat + 1) = p.length + 1 by omega, ← List.drop_drop, List.drop_left]
  rfl
theorem hexd_ne {n : Nat} (h : n < 16) : hexd n ≠ 36 := by
  intro e
  have := (digV_hex n h).1
  rw [e] at this
  have e2 : digV ((36 : UInt8).toNat : Int) = -1 := by decide
  omega
theorem tail_two {a b : Nat} (ha : a < 16) (hb : b < 16) {post : List UInt8} (hp : post = [] ∨ ∃ r, post = 41 :: r) : tailS (hexd a :: hexd b :: post) = (a * 16 + b, 0) := by
  have h2 : (hexd a :: hexd b :: post).take 2 = [hexd a, hexd b] := rfl
  unfold tailS
  rw [h2, read2 a b ha hb, if_neg, if_pos (by simp)]
  · congr 1
    omega
  · rintro ⟨h4, hr⟩
    rcases hp with rfl | ⟨r, rfl⟩
    · simp at h4
    · have := readV_bad (l := (hexd a :: hexd b :: 41 :: r).take 4) (c := 41) (by simp) (by decide) 0
      omega
theorem num_line {op : Nat} (h : op < 512) {t : ByteArray} (hk : bookKey op = some t) (lo hi : Nat) (hlo : lo < 256) (hhi : hi < 256) : lineL op (numS (lineL op lo hi)).1 (numS (lineL op lo hi)).2 = lineL op lo hi := by
  cases key_is h hk with
  | plain h1 _ _ => rw [line_plain hk h1, line_plain hk h1]
  | byte pre post e h1 h2 h3 h4 _ _ h7 _ =>
    rw [line_byte hk e h1 h2 lo hi, numS_at _ _ (by simp only [List.mem_cons, not_or]; exact ⟨(hexd_ne (by omega)).symm, (hexd_ne (by omega)).symm, h4⟩), tail_two (by omega) (by omega) h7, line_byte hk e h1 h2]
    dsimp only
    rw [show lo / 16 * 16 + lo % 16 = lo by omega]
  | word pre post e h1 h2 h3 h4 _ _ h7 _ =>
    have hr : readV [hexd (hi / 16), hexd (hi % 16), hexd (lo / 16), hexd (lo % 16)] 0 = (hi : Int) * 256 + lo := by rw [read4 _ _ _ _ (by omega) (by omega) (by omega) (by omega)]; omega
    have ht : tailS (hexd (hi / 16) :: hexd (hi % 16) :: hexd (lo / 16) :: hexd (lo % 16) :: post) = (lo, hi) := by
      unfold tailS
      rw [show (hexd (hi / 16) :: hexd (hi % 16) :: hexd (lo / 16) :: hexd (lo % 16) :: post).take 4 = [hexd (hi / 16), hexd (hi % 16), hexd (lo / 16), hexd (lo % 16)] from rfl, hr, if_pos ⟨by simp, by omega⟩]
      congr 1
      · omega
      · omega
    rw [line_word hk e h1 h2 lo hi, numS_at _ _ (by simp only [List.mem_cons, not_or]; exact ⟨(hexd_ne (by omega)).symm, (hexd_ne (by omega)).symm, (hexd_ne (by omega)).symm, (hexd_ne (by omega)).symm, h4⟩), ht, line_word hk e h1 h2]
theorem num_db (x : Nat) (h : x < 256) : numS (dbB x).data.toList = (x, 0) := by
  rw [dbB_list, numS_at _ _ (by simp only [List.mem_cons, not_or, List.not_mem_nil]; exact ⟨(hexd_ne (by omega)).symm, (hexd_ne (by omega)).symm, fun e => e⟩), tail_two (by omega) (by omega) (.inl rfl)]
  congr 1
  omega
theorem take_bytes {j : Nat} (h : j < 256) (lo hi : Nat) : (ints [j, lo, hi]).take (nbT j) = bytesL j lo hi := by
  obtain ⟨f0, f1, f2, f3, f4, f5, hf, _, h3, _, _, hn⟩ := formTab j h
  unfold bytesL
  rw [if_neg (by omega)]
  rcases h3 with e | e | e
  · rw [show nbT j = 1 by omega, if_pos rfl]; rfl
  · rw [show nbT j = 2 by omega, if_neg (by decide), if_pos rfl]; rfl
  · rw [show nbT j = 3 by omega, if_neg (by decide), if_neg (by decide)]; rfl
theorem asm_ref (s : ByteArray) (hz : s.size ≤ 140737488351232) {k : Nat} (hk : s.size + 1000 ≤ k) : whirligigref06_Assemble.f k s = listing_Assemble.f s := by
  obtain ⟨r, hr, hc⟩ := asm_cases s hz
  obtain ⟨hlo, hhi⟩ := numS_lt s.data.toList
  rw [hr]
  unfold whirligigref06_Assemble.f
  rw [number_is s hz (by omega), bind_some']
  dsimp only
  generalize hlo' : (numS s.data.toList).1 = lo at hlo ⊢
  generalize hhi' : (numS s.data.toList).2 = hi at hhi ⊢
  rw [hex8_ref lo hlo, bind_some', if_pos (by show 4 + 2 ≤ 9223372036854775807; omega)]
  by_cases hd : s = dbB lo
  · rw [if_pos (show s.toList = ((⟨#[68, 66, 32, 36]⟩ : ByteArray) ++ hexB lo).toList from (eq_lists _ _).2 hd), ← hr, hd, asm_db lo hlo]
  · rw [if_neg (show ¬ s.toList = ((⟨#[68, 66, 32, 36]⟩ : ByteArray) ++ hexB lo).toList from fun e => hd ((eq_lists _ _).1 e))]
    have hs := search_ref s lo hi hlo hhi 256 0 k (by omega) (by omega)
    rw [show ((0 : Nat) : Int) = 0 from rfl] at hs
    rw [hs]
    congr 1
    have isnt : ∀ x, x < 256 → s ≠ dbB x := by
      intro x hx e
      have := num_db x hx
      rw [← e] at this
      exact hd (by rw [e]; congr 1; rw [← hlo', this])
    rcases search_cases s lo hi 256 0 with ⟨e, h⟩ | ⟨j, hj, j2, hl, e⟩ | ⟨j, hj, hl, e⟩
    · rw [e]
      rcases hc with hc | ⟨op, l0, h0, t, ho, hk2, a, b, hs2⟩ | ⟨x, hx, hs2⟩
      · exact hc.symm
      · have hn := num_line ho hk2 l0 h0 a b
        have e2 : s.data.toList = lineL op l0 h0 := by rw [hs2]
        rw [← e2, hlo', hhi'] at hn
        have e3 : lineB op lo hi = s := toList_inj hn
        by_cases h256 : op < 256
        · refine absurd ⟨?_, e3⟩ (h op (by omega) (by omega)).1
          intro e4
          have e5 : bookKey 203 = none := by kernel_rfl
          rw [e4, e5] at hk2
          cases hk2
        · have e4 : lineB (op - 256 + 256) 0 0 = s := by
            rw [show op - 256 + 256 = op by omega]
            cases key_is ho hk2 with
            | plain h1 _ _ => rw [← e3]; refine toList_inj ?_; show lineL op 0 0 = lineL op lo hi; rw [line_plain hk2 h1, line_plain hk2 h1]
            | byte _ _ _ _ _ _ _ _ _ _ hb => exact absurd hb.1 h256
            | word _ _ _ _ _ _ _ _ _ _ hb => exact absurd hb.1 h256
          exact absurd e4 (h (op - 256) (by omega) (by omega)).2
      · exact absurd hs2 (isnt x hx)
    · rw [e, take_bytes (by omega)]
      cases hk2 : bookKey j with
      | none => exact absurd (hl.symm.trans (line_none (by omega) hk2 lo hi)) (isnt j (by omega))
      | some t =>
        have := asm_line (by omega) hk2 lo hi hlo hhi
        have e2 : (⟨(lineL j lo hi).toArray⟩ : ByteArray) = s := hl
        rw [e2, hr] at this
        exact (Option.some.inj this).symm
    · rw [e]
      cases hk2 : bookKey (j + 256) with
      | none => have := (key_none (by omega) hk2).1; omega
      | some t =>
        have := asm_line (by omega) hk2 0 0 (by omega) (by omega)
        have e2 : (⟨(lineL (j + 256) 0 0).toArray⟩ : ByteArray) = s := hl
        rw [e2, hr] at this
        rw [Option.some.inj this]
        unfold bytesL
        rw [if_pos (by omega)]
        congr 3
        omega
end Go.Proofs.YtpjbfpheenamiaaDoor.PF
-- PRINTED by print.py (a twelfth state) out of the translation. Not trusted: Lean checks it.
namespace Go.Proofs.YtpjbfpheenamiaaDoor.PF
open Go.RowKit Go.Proofs.YtpjbfpheenamiaaDoorW.PrintWords Go.Proofs.YtpjbfpheenamiaaDoorW.PrintLast Go.Proofs.YtpjbfpheenamiaaDoorW.PrintMore
attribute [local go_sem] max2_int min2_int max_two min_two max_three min_three max_four min_four   -- for this text's walks alone
set_option linter.unusedVariables false
set_option linter.unusedSimpArgs false

/-! ### whirligigref06_All: function 21 -/
def whirligigref06_All.l0 : Nat → List ByteArray → List Int → Int → Option (List Int × Int)
 | 0, _, _, _ => none
 | k + 1, x0, x4, x5 => if x5 < (x0.length : Int) then (if 0 ≤ x5 then ((whirligigref06_Assemble.f k (rdOf ByteArray.empty x0 x5)).bind fun bt462 => (if bt462.2 = 0 then (if x4.length + bt462.1.length < 140737488355328 then (whirligigref06_All.l0 k x0 (x4 ++ bt462.1) (wrap64 (x5 + 1))) else (none)) else (some (([] : List Int), bt462.2)))) else (none)) else (some (x4, 0))
def whirligigref06_All.f (k : Nat) (l0 : List ByteArray) : Option (List Int × Int) := whirligigref06_All.l0 k l0 ([] : List Int) 0
theorem whirligigref06_All.mono_l : ∀ k, (∀ y0 y1 y2, LeO (whirligigref06_All.l0 k y0 y1 y2) (whirligigref06_All.l0 (k + 1) y0 y1 y2))
 | 0 => fun _ _ _ r h => by simp [whirligigref06_All.l0] at h
 | k + 1 => by
  have ih0 := whirligigref06_All.mono_l k
  ·intro y0 y1 y2
   unfold whirligigref06_All.l0
   repeat' first
   | (with_reducible exact ih0 _ _ _)
   | (with_reducible exact whirligigref06_Assemble.mono _ _)
   | (with_reducible exact LeO.refl _)
   | (with_reducible exact LeO.none _)
   | (with_reducible refine LeO.ite ?_ ?_)
   | (with_reducible refine LeO.bind ?_ (fun _ => ?_))
   | exact ih0 _ _ _
   | exact whirligigref06_Assemble.mono _ _
   | exact LeO.none _
   | refine LeO.ite ?_ ?_
   | refine LeO.bind ?_ (fun _ => ?_)
theorem whirligigref06_All.mono : ∀ a0 k, LeO (whirligigref06_All.f k a0) (whirligigref06_All.f (k + 1) a0) := by
 intro a0 k
 have ih0 := whirligigref06_All.mono_l k
 unfold whirligigref06_All.f
 repeat' first
   | (with_reducible exact ih0 _ _ _)
   | (with_reducible exact whirligigref06_Assemble.mono _ _)
   | (with_reducible exact LeO.refl _)
   | (with_reducible exact LeO.none _)
   | (with_reducible refine LeO.ite ?_ ?_)
   | (with_reducible refine LeO.bind ?_ (fun _ => ?_))
   | exact ih0 _ _ _
   | exact whirligigref06_Assemble.mono _ _
   | exact LeO.none _
   | refine LeO.ite ?_ ?_
   | refine LeO.bind ?_ (fun _ => ?_)
set_option maxHeartbeats 8000000 in
set_option maxRecDepth 100000 in
theorem whirligigref06_All.calls (k : Nat) (A0 : Option Addr) (c0 : Nat) (l0 : List ByteArray) (r1 : List Int) (r2 : Int) (w : World) (hr0 : Kd.C Kd.string w A0 l0.length l0) (hc0 : l0.length ≤ c0) (h : whirligigref06_All.f k l0 = some (r1, r2)) :
  Calls Tryd.prog 21 #[.slice A0 l0.length c0] w fun e w' => ∃ v0_ : Value, e = .returned (.tuple #[v0_, .int .i64 r2]) ∧ Kd.R (Kd.int .u8) 5 w' w.heap.size (fun _ => True) v0_ r1 ∧ Below w.heap.size w w' := by
 have HR0 := Aside0.mk hr0
 have HC0 := Aside0.mk hc0
 clear hr0 hc0
 have HB := Aside0.mk (Below.refl w.heap.size w)
 have H : (whirligigref06_All.l0 k l0 ([] : List Int) 0) = some (r1, r2) := h
 clear h
 have H' := Aside0.mk H
 clear H
 go_enter Tryd.func21, Tryd.ntmps21
 go_wp2
 go_loopg [4, 5] k (fun kq v4 v5 w' => ∃ (x4_1 : List Int) (x5_1 : Int), v5 = .int .i64 x5_1 ∧ Aside0 (whirligigref06_All.l0 kq l0 x4_1 x5_1 = some (r1, r2)) ∧ Aside0 (kq ≤ k) ∧ Aside0 (Kd.R (Kd.int .u8) 5 w' w.heap.size (fun _ => True) v4 x4_1) ∧ Aside0 (Below w.heap.size w w'))
 case atStart => exact ⟨(([] : List Int)), (0), (by first | rfl | (simp; done) | (simp [*]; done)), H', ⟨Nat.le_refl _⟩, ⟨by first | exact Kd.R_nil _ _ _ _ _ | exact Kd.N_nil _ _ _ _ _ | exact Kd.V_nil _ _ _ _ _ | exact Kd.Q_nil _ _ _ _ _ | exact Kd.S_nil _ _ _ _ _⟩, ⟨by repeat (first | (with_reducible first | exact HB.out | apply below_alloc | apply pw_below_drewN | apply below_drew1) | exact HB.out)⟩⟩
 case round =>
  clear H'
  obtain ⟨x4_1, x5_1, rfl, HA, HK1, HO_4, HB⟩ := hrel
  cases gk with
  | zero => exact absurd HA.out (by simp [whirligigref06_All.l0])
  | succ k1 =>
   have H := HA.out
   clear HA
   simp only [whirligigref06_All.l0] at H
   by_cases c2 : x5_1 < (l0.length : Int)
   ·rw [if_pos c2] at H
    have c2b0 : decide (x5_1 < (l0.length : Int)) = true := decide_eq_true c2
    clear c2
    by_cases c3 : 0 ≤ x5_1
    ·rw [if_pos c3] at H
     have c3b0 : decide (0 ≤ x5_1) = true := decide_eq_true c3
     clear c3
     replace H := Option.bind_eq_some_iff.mp H
     obtain ⟨⟨t462, t463⟩, A40, H⟩ := H
     replace H : (if t463 = 0 then (if x4_1.length + t462.length < 140737488355328 then (whirligigref06_All.l0 k1 l0 (x4_1 ++ t462) (wrap64 (x5_1 + 1))) else (none)) else (some (([] : List Int), t463))) = some (r1, r2) := H
     have A4 := Aside0.mk A40
     clear A40
     by_cases c5 : t463 = 0
     ·rw [if_pos c5] at H
      have c5b0 : (t463 == 0) = true := beq_iff_eq.mpr c5
      have c5b1 : (t463 != 0) = false := bne_eq_false_iff_eq.mpr c5
      clear c5
      by_cases c6 : x4_1.length + t462.length < 140737488355328
      ·rw [if_pos c6] at H
       have LMc6 := Aside0.mk c6
       clear c6
       obtain ⟨y466, hy466⟩ : ∃ y_ : List Int, y_ = (x4_1 ++ t462) := ⟨_, rfl⟩
       replace H : (whirligigref06_All.l0 k1 l0 y466 (wrap64 (x5_1 + 1))) = some (r1, r2) := by first | (rw [hy466]; with_reducible exact H) | (have H2_ := (Option.bind_some _ _).symm.trans H; rw [hy466]; with_reducible exact H2_) | (have H2_ := (Option.bind_some _ _).symm.trans H; with_reducible exact H2_) | with_reducible exact H | (rw [hy466]; exact H) | exact H
       have Ny466 := Aside0.mk hy466
       clear hy466
       have H' := Aside0.mk H
       clear H
       have p461 : 0 ≤ (x5_1 : Int) := of_decide_eq_true (by first | (with_reducible assumption) | assumption)
       have q461 : x5_1 < (l0.length : Int) := of_decide_eq_true (by first | (with_reducible assumption) | assumption)
       obtain ⟨ad461, e461, hx461_0⟩ := Kd.at_string HR0.out x5_1 p461 q461
       cases e461
       replace hx461_0 := (HB.out.cell (World.block_lt_of_cell? w _ hx461_0)).trans hx461_0
       replace p461 := eq_true p461
       replace q461 := eq_true q461
       go_wp2_with (first | ((with_reducible refine gate_callee (f := 16) rfl ?_); refine goesL_ (some 19) rfl rfl Tryd.func16 (by kernel_rfl) rfl #[.string (rdOf ByteArray.empty l0 x5_1)] rfl (by (try simp only [List.map_toArray, List.map_cons, List.map_nil]); first | done | rfl | (simp only [List.length_drop, List.length_take]; rfl)) ?_; (with_reducible refine (whirligigref06_Assemble.calls k1 (rdOf ByteArray.empty l0 x5_1) t462 t463 _ A4.out).mono ?_); rintro e w7 ⟨v464, rfl, ho0, hb⟩; refine ⟨_, rfl, ?_⟩; have n0_ := Aside0.mk (Kd.R_elder' (by (with_reducible repeat (first | apply Kd.R_alloc | apply Kd.R_drewN | apply Kd.R_drew)); exact HO_4.out) (Kd.R_base ho0) hb); have n1_ := Aside0.mk (Kd.R_lower (Kd.R_new' ho0 (Kd.R_lt (by (with_reducible repeat (first | apply Kd.R_alloc | apply Kd.R_drewN | apply Kd.R_drew)); exact HO_4.out))) (below_size (by repeat (first | (with_reducible first | exact HB.out | apply below_alloc | apply pw_below_drewN | apply below_drew1) | exact HB.out)))); have n2_ := Aside0.mk (below_step (by repeat (first | (with_reducible first | exact HB.out | apply below_alloc | apply pw_below_drewN | apply below_drew1) | exact HB.out)) hb); clear HO_4; clear HB; have HO_4 := n0_; have HO465 := n1_; have HB := n2_; clear n0_ n1_ n2_; (try clear hb); (try clear ho0); obtain ⟨Ao9, co9, eo9⟩ := Kd.R_slice HO465.out; subst eo9) | ((with_reducible refine gate_builtin (b := .append) (xs := #[.tmp 25, .tmp 26]) rfl ?_); at_builtin; refine Kd.R_append_rows (Kd.int .u8) (w0 := w) w.heap.size rfl (.tmp 25) (.tmp 26) 27 5 (.int .u8 0) 1 rfl Tryd.underlying27 info5 rfl (by decide) (by omega) u4 x4_1 t462 _ _ _ (fun k_ => some k_ ≠ (.slice Ao9 t462.length co9 : Value).ownBlock) (fun _ => False) rfl rfl ?aO ?aR (fun _ _ h => h) (fun _ h => h.elim) ?aF ?aB ?aS ?aL ?_; (case aR => repeat (first | exact (Kd.R_reads' HO465.out).2.2 | (with_reducible refine Kd.C_alloc ?_ _) | (with_reducible refine Kd.C_drewN ?_ _) | (with_reducible refine Kd.C_drew ?_))); (case aB => exact (by repeat (first | (with_reducible first | exact HB.out | apply below_alloc | apply pw_below_drewN | apply below_drew1) | exact HB.out))); (case aF => exact (fun k_ hk => Kd.fresh' (Kd.R_lt (by (with_reducible repeat (first | apply Kd.R_alloc | apply Kd.R_drewN | apply Kd.R_drew)); exact HO465.out)) k_ hk)); (case aO => exact (by (with_reducible repeat (first | apply Kd.R_alloc | apply Kd.R_drewN | apply Kd.R_drew)); exact Kd.R_mono HO_4.out (fun _ hk => hk.2))); (case aS => exact (below_size (by repeat (first | (with_reducible first | exact HB.out | apply below_alloc | apply pw_below_drewN | apply below_drew1) | exact HB.out)))); (case aL => have := LMc6.out; omega); intro v467 w8 ho hb hg hat; rw [← Ny466.out] at ho; have n0_ := Aside0.mk (Kd.R_after (ok := (fun _ => True)) (by (with_reducible repeat (first | apply Kd.R_alloc | apply Kd.R_drewN | apply Kd.R_drew)); exact HO465.out) hg hat); have n1_ := Aside0.mk (hb); have n2_ := Aside0.mk (ho); clear HO465; clear HB; clear HO_4; have HO465 := n0_; have HB := n1_; have HO468 := n2_; clear n0_ n1_ n2_; clear ho hb hg hat))
       go_roundg k1
       case measure => have := HK1.out; omega
       case rel => exact ⟨(y466), (wrap64 (x5_1 + 1)), (by first | rfl | (simp; done) | (simp [*]; done)), H', ⟨by have := HK1.out; omega⟩, ⟨by (with_reducible repeat (first | apply Kd.R_alloc | apply Kd.R_drewN | apply Kd.R_drew)); exact Kd.R_mono HO468.out (fun _ hk => trivial)⟩, ⟨by repeat (first | (with_reducible first | exact HB.out | apply below_alloc | apply pw_below_drewN | apply below_drew1) | exact HB.out)⟩⟩
      ·rw [if_neg c6] at H
       exact absurd H (by simp)
     ·rw [if_neg c5] at H
      have c5b0 : (t463 == 0) = false := beq_eq_false_iff_ne.mpr c5
      have c5b1 : (t463 != 0) = true := bne_iff_ne.mpr c5
      simp only [Option.some.injEq, Prod.mk.injEq] at H
      obtain ⟨rfl, rfl⟩ := H
      have p461 : 0 ≤ (x5_1 : Int) := of_decide_eq_true (by first | (with_reducible assumption) | assumption)
      have q461 : x5_1 < (l0.length : Int) := of_decide_eq_true (by first | (with_reducible assumption) | assumption)
      obtain ⟨ad461, e461, hx461_0⟩ := Kd.at_string HR0.out x5_1 p461 q461
      cases e461
      replace hx461_0 := (HB.out.cell (World.block_lt_of_cell? w _ hx461_0)).trans hx461_0
      replace p461 := eq_true p461
      replace q461 := eq_true q461
      go_wp2_with (first | ((with_reducible refine gate_callee (f := 16) rfl ?_); refine goesL_ (some 19) rfl rfl Tryd.func16 (by kernel_rfl) rfl #[.string (rdOf ByteArray.empty l0 x5_1)] rfl (by (try simp only [List.map_toArray, List.map_cons, List.map_nil]); first | done | rfl | (simp only [List.length_drop, List.length_take]; rfl)) ?_; (with_reducible refine (whirligigref06_Assemble.calls k1 (rdOf ByteArray.empty l0 x5_1) t462 t463 _ A4.out).mono ?_); rintro e w10 ⟨v464, rfl, ho0, hb⟩; refine ⟨_, rfl, ?_⟩; have n0_ := Aside0.mk (Kd.R_elder' (by (with_reducible repeat (first | apply Kd.R_alloc | apply Kd.R_drewN | apply Kd.R_drew)); exact HO_4.out) (Kd.R_base ho0) hb); have n1_ := Aside0.mk (Kd.R_lower (Kd.R_new' ho0 (Kd.R_lt (by (with_reducible repeat (first | apply Kd.R_alloc | apply Kd.R_drewN | apply Kd.R_drew)); exact HO_4.out))) (below_size (by repeat (first | (with_reducible first | exact HB.out | apply below_alloc | apply pw_below_drewN | apply below_drew1) | exact HB.out)))); have n2_ := Aside0.mk (below_step (by repeat (first | (with_reducible first | exact HB.out | apply below_alloc | apply pw_below_drewN | apply below_drew1) | exact HB.out)) hb); clear HO_4; clear HB; have HO_4 := n0_; have HO465 := n1_; have HB := n2_; clear n0_ n1_ n2_; (try clear hb); (try clear ho0)))
      go_ret2
      exact ⟨_, by first | rfl | (simp [errW_none, errW_some] <;> rfl) | (simp [*, errW_none, errW_some] <;> rfl), by first | exact Kd.R_nil _ _ _ _ _ | exact Kd.N_nil _ _ _ _ _ | exact Kd.V_nil _ _ _ _ _ | exact Kd.Q_nil _ _ _ _ _ | exact Kd.S_nil _ _ _ _ _, by repeat (first | (with_reducible first | exact HB.out | apply below_alloc | apply pw_below_drewN | apply below_drew1) | exact HB.out)⟩
    ·rw [if_neg c3] at H
     exact absurd H (by simp)
   ·rw [if_neg c2] at H
    have c2b0 : decide (x5_1 < (l0.length : Int)) = false := decide_eq_false c2
    clear c2
    simp only [Option.some.injEq, Prod.mk.injEq] at H
    obtain ⟨rfl, rfl⟩ := H
    go_wp2
    go_ret2
    exact ⟨_, by first | rfl | (simp [errW_none, errW_some] <;> rfl) | (simp [*, errW_none, errW_some] <;> rfl), by (with_reducible repeat (first | apply Kd.R_alloc | apply Kd.R_drewN | apply Kd.R_drew)); exact HO_4.out, by repeat (first | (with_reducible first | exact HB.out | apply below_alloc | apply pw_below_drewN | apply below_drew1) | exact HB.out)⟩

end Go.Proofs.YtpjbfpheenamiaaDoor.PF
-- PRINTED by print.py (a twelfth state) out of the translation. Not trusted: Lean checks it.
namespace Go.Proofs.YtpjbfpheenamiaaDoor.PF
open Go.RowKit Go.Proofs.YtpjbfpheenamiaaDoorW.PrintWords Go.Proofs.YtpjbfpheenamiaaDoorW.PrintLast Go.Proofs.YtpjbfpheenamiaaDoorW.PrintMore
attribute [local go_sem] max2_int min2_int max_two min_two max_three min_three max_four min_four   -- for this text's walks alone
set_option linter.unusedVariables false
set_option linter.unusedSimpArgs false

/-! ### whirligiglaw06_ListingAlls: function 8 -/
def whirligiglaw06_ListingAlls.f (k : Nat) (l0 : List ByteArray) : Option (Bool) := (whirligiglaw06_shown.f k).bind fun t469 => ((listing_All.f k l0).bind fun bt470 => ((whirligigref06_All.f k l0).bind fun bt474 => (if t469 = true then (if (strOfNums bt470.1).toList = (strOfNums bt474.1).toList then (some (bt470.2 == bt474.2)) else (some false)) else (some false))))
theorem whirligiglaw06_ListingAlls.mono : ∀ a0 k, LeO (whirligiglaw06_ListingAlls.f k a0) (whirligiglaw06_ListingAlls.f (k + 1) a0) := by
 intro a0 k
 unfold whirligiglaw06_ListingAlls.f
 repeat' first
   | (with_reducible exact listing_All.mono _ _)
   | (with_reducible exact whirligiglaw06_shown.mono _)
   | (with_reducible exact whirligigref06_All.mono _ _)
   | (with_reducible exact LeO.refl _)
   | (with_reducible exact LeO.none _)
   | (with_reducible refine LeO.ite ?_ ?_)
   | (with_reducible refine LeO.bind ?_ (fun _ => ?_))
   | exact listing_All.mono _ _
   | exact whirligiglaw06_shown.mono _
   | exact whirligigref06_All.mono _ _
   | exact LeO.none _
   | refine LeO.ite ?_ ?_
   | refine LeO.bind ?_ (fun _ => ?_)
set_option maxHeartbeats 8000000 in
set_option maxRecDepth 100000 in
theorem whirligiglaw06_ListingAlls.calls (k : Nat) (A0 : Option Addr) (c0 : Nat) (l0 : List ByteArray) (r : Bool) (w : World) (hr0 : Kd.C Kd.string w A0 l0.length l0) (hc0 : l0.length ≤ c0) (h : whirligiglaw06_ListingAlls.f k l0 = some r) :
  Calls Tryd.prog 8 #[.slice A0 l0.length c0] w fun e w' => e = .returned (.bool r) ∧ Below w.heap.size w w' := by
 have HR0 := Aside0.mk hr0
 have HC0 := Aside0.mk hc0
 clear hr0 hc0
 have HB := Aside0.mk (Below.refl w.heap.size w)
 have H : ((whirligiglaw06_shown.f k).bind fun t469 => ((listing_All.f k l0).bind fun bt470 => ((whirligigref06_All.f k l0).bind fun bt474 => (if t469 = true then (if (strOfNums bt470.1).toList = (strOfNums bt474.1).toList then (some (bt470.2 == bt474.2)) else (some false)) else (some false))))) = some r := h
 clear h
 replace H := Option.bind_eq_some_iff.mp H
 obtain ⟨t469, A20, H⟩ := H
 replace H : ((listing_All.f k l0).bind fun bt470 => ((whirligigref06_All.f k l0).bind fun bt474 => (if t469 = true then (if (strOfNums bt470.1).toList = (strOfNums bt474.1).toList then (some (bt470.2 == bt474.2)) else (some false)) else (some false)))) = some r := H
 have A2 := Aside0.mk A20
 clear A20
 replace H := Option.bind_eq_some_iff.mp H
 obtain ⟨⟨t470, t471⟩, A30, H⟩ := H
 replace H : ((whirligigref06_All.f k l0).bind fun bt474 => (if t469 = true then (if (strOfNums t470).toList = (strOfNums bt474.1).toList then (some (t471 == bt474.2)) else (some false)) else (some false))) = some r := H
 have A3 := Aside0.mk A30
 clear A30
 replace H := Option.bind_eq_some_iff.mp H
 obtain ⟨⟨t474, t475⟩, A40, H⟩ := H
 replace H : (if t469 = true then (if (strOfNums t470).toList = (strOfNums t474).toList then (some (t471 == t475)) else (some false)) else (some false)) = some r := H
 have A4 := Aside0.mk A40
 clear A40
 by_cases c5 : t469 = true
 ·subst c5
  rw [if_pos rfl] at H
  by_cases c6 : (strOfNums t470).toList = (strOfNums t474).toList
  ·rw [if_pos c6] at H
   have c6b0 : ((strOfNums t470).toList == (strOfNums t474).toList) = true := beq_iff_eq.mpr c6
   have c6b1 : ((strOfNums t470).toList != (strOfNums t474).toList) = false := bne_eq_false_iff_eq.mpr c6
   clear c6
   obtain rfl := Option.some.inj H
   go_enter Tryd.func8, Tryd.ntmps8
   go_wp2_with (first | ((with_reducible refine gate_callee (f := 10) rfl ?_); refine goesL_ (some 8) rfl rfl Tryd.func10 (by kernel_rfl) rfl #[] rfl (by (try simp only [List.map_toArray, List.map_cons, List.map_nil]); first | done | rfl | (simp only [List.length_drop, List.length_take]; rfl)) ?_; (with_reducible refine (whirligiglaw06_shown.calls k  true _ A2.out).mono ?_); rintro e w7 ⟨rfl, hb⟩; refine ⟨_, rfl, ?_⟩; have n0_ := Aside0.mk (below_step (by repeat (first | (with_reducible first | exact HB.out | apply below_alloc | apply pw_below_drewN | apply below_drew1) | exact HB.out)) hb); clear HB; have HB := n0_; clear n0_; (try clear hb)) | ((with_reducible refine gate_callee (f := 20) rfl ?_); refine goesL_ (some 11) rfl rfl Tryd.func20 (by kernel_rfl) rfl #[.slice A0 l0.length c0] rfl (by (try simp only [List.map_toArray, List.map_cons, List.map_nil]); first | done | rfl | (simp only [List.length_drop, List.length_take]; rfl)) ?_; (with_reducible refine (listing_All.calls k _ _ l0 t470 t471 _ ?side1 ?side2 A3.out).mono ?_); (case side1 => repeat (first | exact (Kd.C_below HR0.out HB.out) | (with_reducible refine Kd.C_alloc ?_ _) | (with_reducible refine Kd.C_drewN ?_ _) | (with_reducible refine Kd.C_drew ?_))); (case side2 => exact HC0.out); rintro e w8 ⟨v472, rfl, ho0, hb⟩; refine ⟨_, rfl, ?_⟩; have n0_ := Aside0.mk (Kd.R_lower ho0 (below_size (by repeat (first | (with_reducible first | exact HB.out | apply below_alloc | apply pw_below_drewN | apply below_drew1) | exact HB.out)))); have n1_ := Aside0.mk (below_step (by repeat (first | (with_reducible first | exact HB.out | apply below_alloc | apply pw_below_drewN | apply below_drew1) | exact HB.out)) hb); clear HB; have HO473 := n0_; have HB := n1_; clear n0_ n1_; (try clear hb); (try clear ho0)) | ((with_reducible refine gate_callee (f := 21) rfl ?_); refine goesL_ (some 16) rfl rfl Tryd.func21 (by kernel_rfl) rfl #[.slice A0 l0.length c0] rfl (by (try simp only [List.map_toArray, List.map_cons, List.map_nil]); first | done | rfl | (simp only [List.length_drop, List.length_take]; rfl)) ?_; (with_reducible refine (whirligigref06_All.calls k _ _ l0 t474 t475 _ ?side1 ?side2 A4.out).mono ?_); (case side1 => repeat (first | exact (Kd.C_below HR0.out HB.out) | (with_reducible refine Kd.C_alloc ?_ _) | (with_reducible refine Kd.C_drewN ?_ _) | (with_reducible refine Kd.C_drew ?_))); (case side2 => exact HC0.out); rintro e w9 ⟨v476, rfl, ho0, hb⟩; refine ⟨_, rfl, ?_⟩; have n0_ := Aside0.mk (Kd.R_elder' (by (with_reducible repeat (first | apply Kd.R_alloc | apply Kd.R_drewN | apply Kd.R_drew)); exact HO473.out) (Kd.R_base ho0) hb); have n1_ := Aside0.mk (Kd.R_lower (Kd.R_new' ho0 (Kd.R_lt (by (with_reducible repeat (first | apply Kd.R_alloc | apply Kd.R_drewN | apply Kd.R_drew)); exact HO473.out))) (below_size (by repeat (first | (with_reducible first | exact HB.out | apply below_alloc | apply pw_below_drewN | apply below_drew1) | exact HB.out)))); have n2_ := Aside0.mk (below_step (by repeat (first | (with_reducible first | exact HB.out | apply below_alloc | apply pw_below_drewN | apply below_drew1) | exact HB.out)) hb); clear HO473; clear HB; have HO473 := n0_; have HO477 := n1_; have HB := n2_; clear n0_ n1_ n2_; (try clear hb); (try clear ho0); have hcv10 := own_string (P := Tryd.prog) Tryd.underlying27 Tryd.underlying5 Tryd.underlying9 (Kd.own_of_R HO473.out); have hcv11 := own_string (P := Tryd.prog) Tryd.underlying27 Tryd.underlying5 Tryd.underlying9 (Kd.own_of_R HO477.out)))
   go_ret
   exact ⟨by first | rfl | (simp [errW_none, errW_some] <;> rfl) | (simp [*, errW_none, errW_some] <;> rfl), by repeat (first | (with_reducible first | exact HB.out | apply below_alloc | apply pw_below_drewN | apply below_drew1) | exact HB.out)⟩
  ·rw [if_neg c6] at H
   have c6b0 : ((strOfNums t470).toList == (strOfNums t474).toList) = false := beq_eq_false_iff_ne.mpr c6
   have c6b1 : ((strOfNums t470).toList != (strOfNums t474).toList) = true := bne_iff_ne.mpr c6
   obtain rfl := Option.some.inj H
   go_enter Tryd.func8, Tryd.ntmps8
   go_wp2_with (first | ((with_reducible refine gate_callee (f := 10) rfl ?_); refine goesL_ (some 8) rfl rfl Tryd.func10 (by kernel_rfl) rfl #[] rfl (by (try simp only [List.map_toArray, List.map_cons, List.map_nil]); first | done | rfl | (simp only [List.length_drop, List.length_take]; rfl)) ?_; (with_reducible refine (whirligiglaw06_shown.calls k  true _ A2.out).mono ?_); rintro e w12 ⟨rfl, hb⟩; refine ⟨_, rfl, ?_⟩; have n0_ := Aside0.mk (below_step (by repeat (first | (with_reducible first | exact HB.out | apply below_alloc | apply pw_below_drewN | apply below_drew1) | exact HB.out)) hb); clear HB; have HB := n0_; clear n0_; (try clear hb)) | ((with_reducible refine gate_callee (f := 20) rfl ?_); refine goesL_ (some 11) rfl rfl Tryd.func20 (by kernel_rfl) rfl #[.slice A0 l0.length c0] rfl (by (try simp only [List.map_toArray, List.map_cons, List.map_nil]); first | done | rfl | (simp only [List.length_drop, List.length_take]; rfl)) ?_; (with_reducible refine (listing_All.calls k _ _ l0 t470 t471 _ ?side1 ?side2 A3.out).mono ?_); (case side1 => repeat (first | exact (Kd.C_below HR0.out HB.out) | (with_reducible refine Kd.C_alloc ?_ _) | (with_reducible refine Kd.C_drewN ?_ _) | (with_reducible refine Kd.C_drew ?_))); (case side2 => exact HC0.out); rintro e w13 ⟨v472, rfl, ho0, hb⟩; refine ⟨_, rfl, ?_⟩; have n0_ := Aside0.mk (Kd.R_lower ho0 (below_size (by repeat (first | (with_reducible first | exact HB.out | apply below_alloc | apply pw_below_drewN | apply below_drew1) | exact HB.out)))); have n1_ := Aside0.mk (below_step (by repeat (first | (with_reducible first | exact HB.out | apply below_alloc | apply pw_below_drewN | apply below_drew1) | exact HB.out)) hb); clear HB; have HO473 := n0_; have HB := n1_; clear n0_ n1_; (try clear hb); (try clear ho0)) | ((with_reducible refine gate_callee (f := 21) rfl ?_); refine goesL_ (some 16) rfl rfl Tryd.func21 (by kernel_rfl) rfl #[.slice A0 l0.length c0] rfl (by (try simp only [List.map_toArray, List.map_cons, List.map_nil]); first | done | rfl | (simp only [List.length_drop, List.length_take]; rfl)) ?_; (with_reducible refine (whirligigref06_All.calls k _ _ l0 t474 t475 _ ?side1 ?side2 A4.out).mono ?_); (case side1 => repeat (first | exact (Kd.C_below HR0.out HB.out) | (with_reducible refine Kd.C_alloc ?_ _) | (with_reducible refine Kd.C_drewN ?_ _) | (with_reducible refine Kd.C_drew ?_))); (case side2 => exact HC0.out); rintro e w14 ⟨v476, rfl, ho0, hb⟩; refine ⟨_, rfl, ?_⟩; have n0_ := Aside0.mk (Kd.R_elder' (by (with_reducible repeat (first | apply Kd.R_alloc | apply Kd.R_drewN | apply Kd.R_drew)); exact HO473.out) (Kd.R_base ho0) hb); have n1_ := Aside0.mk (Kd.R_lower (Kd.R_new' ho0 (Kd.R_lt (by (with_reducible repeat (first | apply Kd.R_alloc | apply Kd.R_drewN | apply Kd.R_drew)); exact HO473.out))) (below_size (by repeat (first | (with_reducible first | exact HB.out | apply below_alloc | apply pw_below_drewN | apply below_drew1) | exact HB.out)))); have n2_ := Aside0.mk (below_step (by repeat (first | (with_reducible first | exact HB.out | apply below_alloc | apply pw_below_drewN | apply below_drew1) | exact HB.out)) hb); clear HO473; clear HB; have HO473 := n0_; have HO477 := n1_; have HB := n2_; clear n0_ n1_ n2_; (try clear hb); (try clear ho0); have hcv15 := own_string (P := Tryd.prog) Tryd.underlying27 Tryd.underlying5 Tryd.underlying9 (Kd.own_of_R HO473.out); have hcv16 := own_string (P := Tryd.prog) Tryd.underlying27 Tryd.underlying5 Tryd.underlying9 (Kd.own_of_R HO477.out)))
   go_ret
   exact ⟨by first | rfl | (simp [errW_none, errW_some] <;> rfl) | (simp [*, errW_none, errW_some] <;> rfl), by repeat (first | (with_reducible first | exact HB.out | apply below_alloc | apply pw_below_drewN | apply below_drew1) | exact HB.out)⟩
 ·replace c5 := Bool.eq_false_iff.mpr c5
  subst c5
  have H1 : (some false) = some r := by rw [if_neg (show ¬ (false = true) by decide)] at H; exact H
  clear H
  have H := H1
  clear H1
  obtain rfl := Option.some.inj H
  go_enter Tryd.func8, Tryd.ntmps8
  go_wp2_with (first | ((with_reducible refine gate_callee (f := 10) rfl ?_); refine goesL_ (some 8) rfl rfl Tryd.func10 (by kernel_rfl) rfl #[] rfl (by (try simp only [List.map_toArray, List.map_cons, List.map_nil]); first | done | rfl | (simp only [List.length_drop, List.length_take]; rfl)) ?_; (with_reducible refine (whirligiglaw06_shown.calls k  false _ A2.out).mono ?_); rintro e w17 ⟨rfl, hb⟩; refine ⟨_, rfl, ?_⟩; have n0_ := Aside0.mk (below_step (by repeat (first | (with_reducible first | exact HB.out | apply below_alloc | apply pw_below_drewN | apply below_drew1) | exact HB.out)) hb); clear HB; have HB := n0_; clear n0_; (try clear hb)) | ((with_reducible refine gate_callee (f := 20) rfl ?_); refine goesL_ (some 11) rfl rfl Tryd.func20 (by kernel_rfl) rfl #[.slice A0 l0.length c0] rfl (by (try simp only [List.map_toArray, List.map_cons, List.map_nil]); first | done | rfl | (simp only [List.length_drop, List.length_take]; rfl)) ?_; (with_reducible refine (listing_All.calls k _ _ l0 t470 t471 _ ?side1 ?side2 A3.out).mono ?_); (case side1 => repeat (first | exact (Kd.C_below HR0.out HB.out) | (with_reducible refine Kd.C_alloc ?_ _) | (with_reducible refine Kd.C_drewN ?_ _) | (with_reducible refine Kd.C_drew ?_))); (case side2 => exact HC0.out); rintro e w18 ⟨v472, rfl, ho0, hb⟩; refine ⟨_, rfl, ?_⟩; have n0_ := Aside0.mk (Kd.R_lower ho0 (below_size (by repeat (first | (with_reducible first | exact HB.out | apply below_alloc | apply pw_below_drewN | apply below_drew1) | exact HB.out)))); have n1_ := Aside0.mk (below_step (by repeat (first | (with_reducible first | exact HB.out | apply below_alloc | apply pw_below_drewN | apply below_drew1) | exact HB.out)) hb); clear HB; have HO473 := n0_; have HB := n1_; clear n0_ n1_; (try clear hb); (try clear ho0)) | ((with_reducible refine gate_callee (f := 21) rfl ?_); refine goesL_ (some 16) rfl rfl Tryd.func21 (by kernel_rfl) rfl #[.slice A0 l0.length c0] rfl (by (try simp only [List.map_toArray, List.map_cons, List.map_nil]); first | done | rfl | (simp only [List.length_drop, List.length_take]; rfl)) ?_; (with_reducible refine (whirligigref06_All.calls k _ _ l0 t474 t475 _ ?side1 ?side2 A4.out).mono ?_); (case side1 => repeat (first | exact (Kd.C_below HR0.out HB.out) | (with_reducible refine Kd.C_alloc ?_ _) | (with_reducible refine Kd.C_drewN ?_ _) | (with_reducible refine Kd.C_drew ?_))); (case side2 => exact HC0.out); rintro e w19 ⟨v476, rfl, ho0, hb⟩; refine ⟨_, rfl, ?_⟩; have n0_ := Aside0.mk (Kd.R_elder' (by (with_reducible repeat (first | apply Kd.R_alloc | apply Kd.R_drewN | apply Kd.R_drew)); exact HO473.out) (Kd.R_base ho0) hb); have n1_ := Aside0.mk (Kd.R_lower (Kd.R_new' ho0 (Kd.R_lt (by (with_reducible repeat (first | apply Kd.R_alloc | apply Kd.R_drewN | apply Kd.R_drew)); exact HO473.out))) (below_size (by repeat (first | (with_reducible first | exact HB.out | apply below_alloc | apply pw_below_drewN | apply below_drew1) | exact HB.out)))); have n2_ := Aside0.mk (below_step (by repeat (first | (with_reducible first | exact HB.out | apply below_alloc | apply pw_below_drewN | apply below_drew1) | exact HB.out)) hb); clear HO473; clear HB; have HO473 := n0_; have HO477 := n1_; have HB := n2_; clear n0_ n1_ n2_; (try clear hb); (try clear ho0)))
  go_ret
  exact ⟨by first | rfl | (simp [errW_none, errW_some] <;> rfl) | (simp [*, errW_none, errW_some] <;> rfl), by repeat (first | (with_reducible first | exact HB.out | apply below_alloc | apply pw_below_drewN | apply below_drew1) | exact HB.out)⟩

end Go.Proofs.YtpjbfpheenamiaaDoor.PF
/- The plain law of ListingAlls: for any lines both answers are the same; condition: no more than 8796093022208 lines, each of no more than 2^47 bytes. -/
namespace Go.Proofs.YtpjbfpheenamiaaDoor.PF
open Go.RowKit Go.Proofs.YtpjbfpheenamiaaDoorW.PrintWords
set_option linter.unusedVariables false
set_option linter.unusedSimpArgs false
set_option maxRecDepth 100000
theorem bytesL_len (op lo hi : Nat) : (bytesL op lo hi).length ≤ 3 := by
  unfold bytesL
  split
  · simp
  · split
    · simp
    · split
      · simp
      · simp
theorem asm_three (s : ByteArray) (hz : s.size ≤ 140737488351232) : ∃ r, listing_Assemble.f s = some r ∧ r.1.length ≤ 3 := by
  obtain ⟨r, hr, hc⟩ := asm_cases s hz
  refine ⟨r, hr, ?_⟩
  rcases hc with rfl | ⟨op, lo, hi, t, ho, hk, a, b, hs⟩ | ⟨x, hx, hs⟩
  · show (0 : Nat) ≤ 3
    omega
  · have := asm_line ho hk lo hi a b
    rw [← hs, hr] at this
    rw [Option.some.inj this]
    exact bytesL_len _ _ _
  · have := asm_db x hx
    rw [← hs, hr] at this
    rw [Option.some.inj this]
    show (1 : Nat) ≤ 3
    omega
theorem all_ref (L : List ByteArray) (hL : L.length ≤ 9000000000000) (h : ∀ s ∈ L, s.size ≤ 140737488351232) : ∀ (d i : Nat) (acc : List Int) (k : Nat), d + i = L.length → acc.length + 3 * d < 140737488355328 → d + 140737488353232 ≤ k →
    whirligigref06_All.l0 k L acc (i : Int) = some (allS (L.drop i) acc) := by
  intro d
  induction d with
  | zero =>
    intro i acc k hd ha hk
    obtain ⟨k, rfl⟩ : ∃ m, k = m + 1 := ⟨k - 1, by omega⟩
    rw [whirligigref06_All.l0, if_neg (by omega), List.drop_eq_nil_of_le (by omega)]
    rfl
  | succ d ih =>
    intro i acc k hd ha hk
    obtain ⟨k, rfl⟩ : ∃ m, k = m + 1 := ⟨k - 1, by omega⟩
    cases hdr : L.drop i with
    | nil => have : L.length ≤ i := List.drop_eq_nil_iff.1 hdr; omega
    | cons s R =>
      obtain ⟨e1, e2, e3⟩ := rd_drop hdr
      have hs := h s (List.mem_of_mem_drop (i := i) (by rw [hdr]; simp))
      obtain ⟨r, hr, h3⟩ := asm_three s hs
      rw [whirligigref06_All.l0, if_pos (by omega), if_pos (by omega), e1, asm_ref s hs (by omega), hr, bind_some', allS_cons, hr]
      dsimp only
      by_cases h0 : r.2 = 0
      · rw [if_pos h0, if_pos h0, if_pos (by omega), wrap64_id (by omega) (by omega), ← e3]
        exact ih (i + 1) (acc ++ r.1) k (by omega) (by rw [List.length_append]; omega) (by omega)
      · rw [if_neg h0, if_neg h0]
theorem listingAlls_pure (L : List ByteArray) (hL : L.length ≤ 9000000000000) (h : ∀ s ∈ L, s.size ≤ 140737488351232) : ∃ k, whirligiglaw06_ListingAlls.f k L = some true := by
  refine ⟨L.length + 140737488353232, ?_⟩
  have hr := all_ref L hL h L.length 0 [] (L.length + 140737488353232) (by omega) (by simp; omega) (by omega)
  rw [List.drop_zero] at hr
  unfold whirligiglaw06_ListingAlls.f
  rw [shown_k (by omega), bind_some', allP L hL (fun s hs => asm_three s (h s hs)) (by omega), bind_some']
  unfold whirligigref06_All.f
  rw [show (0 : Int) = ((0 : Nat) : Int) from rfl, hr, bind_some', if_pos rfl, if_pos rfl, beq_self_eq_true]
end Go.Proofs.YtpjbfpheenamiaaDoor.PF
