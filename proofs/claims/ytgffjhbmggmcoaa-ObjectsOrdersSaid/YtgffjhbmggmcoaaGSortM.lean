/- The walk of slices' symmetric merge at api.Obj, whole: it leaves in the row what the plain function says; condition: a < m < b, all inside the row. -/
import Derived.Test.YtgffjhbmggmcoaaGSortS
namespace Go.Proofs.Ytgffjhbmggmcoaa.PF
open Go.RowKit Go.Shelf Go.Lib Go.Sort Go.Proofs.Ytgffjhbmggmcoaa.SortD
set_option linter.unusedVariables false
attribute [local go_sem ↓] loadVar_O storeVar_O

def SymSaid (cf : S28 → S28 → Int) (g : Nat) (cb : Array Value) (blk off cap : Nat) (d0 : Array S28) (w0 : World) (f : Nat) : Prop :=
  ∀ (a m b : Nat) (d : Array S28) (w : World), d.size = d0.size → SWK encO 5 w0 blk off d w → a < m → m < b → b ≤ d0.size → b - a ≤ f →
    Calls Try.prog 24 #[.slice (some ⟨blk, off, none⟩) d0.size cap, .int .i64 a, .int .i64 m, .int .i64 b, .func (.func g) #[] cb] w fun e w' => e = .returned (.tuple #[]) ∧ SWK encO 5 w0 blk off (symMerge (ltOf cf) f d a m b) w'

set_option maxHeartbeats 8000000 in
set_option maxRecDepth 100000 in
theorem symMerge_step (cf : S28 → S28 → Int) (g : Nat) (cb : Array Value) (blk off cap : Nat) (d0 : Array S28) (w0 : World)
    (eg : ∀ args w, (callFunc g args).run Try.prog w = .ok (.enter g args) w) (HC : CmpLays Try.prog g cb encO 5 cf blk off d0.size w0)
    (R : RowK encO 5 w0 blk off d0) (hsz : d0.size < 4611686018427387904)
    (f : Nat) (IH : SymSaid cf g cb blk off cap d0 w0 f) (a m b : Nat) (d : Array S28) (w : World) (hd : d.size = d0.size) (S : SWK encO 5 w0 blk off d w) (ham : a < m) (hmb : m < b) (hb : b ≤ d0.size) (hf : b - a ≤ f + 1) (g1 : ¬ m - a = 1) (g2 : ¬ b - m = 1) :
    Calls Try.prog 24 #[.slice (some ⟨blk, off, none⟩) d0.size cap, .int .i64 a, .int .i64 m, .int .i64 b, .func (.func g) #[] cb] w fun e w' => e = .returned (.tuple #[]) ∧ SWK encO 5 w0 blk off (symMerge (ltOf cf) (f + 1) d a m b) w' := by
  have S0 : Aside (SWK encO 5 w0 blk off d w) := S
  have HR : Aside _ := R
  have HCC : Aside _ := HC
  have HI : Aside _ := IH
  have mixed : Try.prog.follows Departure.mixedOrders = true := by kernel_rfl
  clear S R HC IH
  have HF : Hid (∀ st, startOf (ltOf cf) d a m b = st → symMerge (ltOf cf) (f + 1) d a m b =
      (if (a + b) / 2 < (a + b) / 2 + m - st ∧ (a + b) / 2 + m - st < b then symMerge (ltOf cf) f (if a < st ∧ st < (a + b) / 2 then symMerge (ltOf cf) f (if st < m ∧ m < (a + b) / 2 + m - st then rotate d st m ((a + b) / 2 + m - st) else d) a st ((a + b) / 2) else (if st < m ∧ m < (a + b) / 2 + m - st then rotate d st m ((a + b) / 2 + m - st) else d)) ((a + b) / 2) ((a + b) / 2 + m - st) b
       else (if a < st ∧ st < (a + b) / 2 then symMerge (ltOf cf) f (if st < m ∧ m < (a + b) / 2 + m - st then rotate d st m ((a + b) / 2 + m - st) else d) a st ((a + b) / 2) else (if st < m ∧ m < (a + b) / 2 + m - st then rotate d st m ((a + b) / 2 + m - st) else d)))) := by
    intro st hst
    rw [symMerge, if_neg g1, if_neg g2, hst]
  have HS : Hid (startOf (ltOf cf) d a m b = bs (fun c => !ltOf cf d[(a + b) / 2 + m - 1 - c]! d[c]!) (b - a) (if (a + b) / 2 < m then (a + b) / 2 + m - b else a) (if (a + b) / 2 < m then (a + b) / 2 else m)) := rfl
  obtain ⟨mid, hmid⟩ : ∃ mid, mid = (a + b) / 2 := ⟨_, rfl⟩
  rw [← hmid] at HF HS
  have em : ((a : Int) + (b : Int)) / 2 = (mid : Int) := by omega
  have bm1 : a < mid := by omega
  have bm2 : mid < b := by omega
  have t1 : (wrap64 ((m : Int) - (a : Int)) == 1) = false := by unfold wrap64; rw [beq_eq_false_iff_ne]; omega
  have t2 : ((m : Int) - (a : Int) == 1) = false := by rw [beq_eq_false_iff_ne]; omega
  have t3 : ((b : Int) - (m : Int) == 1) = false := by rw [beq_eq_false_iff_ne]; omega
  have t4 : (wrap64 ((b : Int) - (m : Int)) == 1) = false := by unfold wrap64; rw [beq_eq_false_iff_ne]; omega
  have wn : IntKind.i64.wrap ((mid : Int) + (m : Int) - (b : Int)) = (mid : Int) + (m : Int) - (b : Int) := by rw [IntKind.wrap_i64]; omega
  have HM : Hid (mid = (a + b) / 2) := hmid
  have HG : Hid (¬ m - a = 1 ∧ ¬ b - m = 1) := ⟨g1, g2⟩
  clear hmid g1 g2
  obtain ⟨n, hn⟩ : ∃ n, n = mid + m := ⟨_, rfl⟩
  have HN : Hid (n = mid + m) := hn
  have en : (mid : Int) + (m : Int) = (n : Int) := by omega
  rw [← hn] at HF HS
  by_cases hm : mid < m
  · have hmz : (mid : Int) < (m : Int) := by omega
    have hnb : b ≤ n := by have := HM.out; omega
    have e0 : (n : Int) - (b : Int) = ((n - b : Nat) : Int) := by omega
    have e0w : IntKind.i64.wrap ((n : Int) - (b : Int)) = ((n - b : Nat) : Int) := by rw [IntKind.wrap_i64]; omega
    have HS2 : Hid (startOf (ltOf cf) d a m b = bs (fun c => !ltOf cf d[n - 1 - c]! d[c]!) (b - a) (n - b) (mid)) := by show _ = _; rw [HS.out]; simp only [if_pos hm]
    have b0 : n - b ≤ mid := by have := HM.out; omega
    have b00 : mid - (n - b) ≤ b - a := by omega
    clear HS hm
    go_enter Try.func24, Try.ntmps24
    clear hn
    go_wp2
    clear t1 t2 t3 t4
    go_loopg [20, 21, 23] (b - a) (fun g1 vi vj vh wr => ∃ (i j k : Nat), vi = .int .i64 i ∧ vj = .int .i64 j ∧ n - b ≤ i ∧ i ≤ j ∧ j ≤ mid ∧ j - i ≤ k ∧ k ≤ g1 ∧ Aside (SWK encO 5 w0 blk off d wr) ∧ Hid (bs (fun c => !ltOf cf d[n - 1 - c]! d[c]!) k i j = bs (fun c => !ltOf cf d[n - 1 - c]! d[c]!) (b - a) (n - b) (mid)))
    case atStart => exact ⟨n - b, mid, b - a, by first | rfl | go_num, by first | rfl | go_num, by omega, by omega, by omega, by omega, Nat.le_refl _, S0, rfl⟩
    case round =>
      clear S0
      obtain ⟨i, j, k, rfl, rfl, hmi, hij, hjb, hk, hkg, S1, HQ⟩ := hrel
      by_cases hlt : i < j
      · have hltz : (i : Int) < (j : Int) := by omega
        obtain ⟨k, rfl⟩ : ∃ k', k = k' + 1 := ⟨k - 1, by omega⟩
        obtain ⟨q, hq⟩ : ∃ q, q = (i + j) / 2 := ⟨_, rfl⟩
        have eq : ((i : Int) + (j : Int)) / 2 = (q : Int) := by omega
        have bq1 : i ≤ q := by omega
        have bq2 : q < j := by omega
        obtain ⟨p, hp⟩ : ∃ p, p = n - 1 - q := ⟨_, rfl⟩
        have bp1 : p < d0.size := by have := HM.out; have := HN.out; omega
        have ep : (n : Int) - 1 - (q : Int) = (p : Int) := by have := HM.out; have := HN.out; omega
        have epw : IntKind.i64.wrap ((n : Int) - 1 - (q : Int)) = (p : Int) := by rw [ep, IntKind.wrap_i64]; omega
        have z1 : (q : Int) < (d0.size : Int) := by omega
        have z2 : (p : Int) < (d0.size : Int) := by omega
        have wq : IntKind.i64.wrap (q : Int) = (q : Int) := by rw [IntKind.wrap_i64]; omega
        have wp : IntKind.i64.wrap (p : Int) = (p : Int) := by rw [IntKind.wrap_i64]; omega
        have l1 := SWK.ldv S1.out HR.out (by omega) q (by omega)
        have l2 := SWK.ldv S1.out HR.out (by omega) p (by omega)
        have hcg := S1.out.cmp HCC.out hd d[p]! d[q]!
        have HB : Hid (bs (fun c => !ltOf cf d[n - 1 - c]! d[c]!) (k + 1) i j = if ltOf cf d[p]! d[q]! then bs (fun c => !ltOf cf d[n - 1 - c]! d[c]!) k i q else bs (fun c => !ltOf cf d[n - 1 - c]! d[c]!) k (q + 1) j) := by
          show _ = _
          rw [bs, if_pos hlt, hp, hq]
          cases ltOf cf d[n - 1 - (i + j) / 2]! d[(i + j) / 2]! <;> rfl
        have HL : Hid (ltOf cf d[p]! d[q]! = decide (cf d[p]! d[q]! < 0)) := rfl
        clear hq hp
        generalize cf d[p]! d[q]! = cc at hcg HL
        generalize encO d[q]! = c1 at l1 hcg
        generalize encO d[p]! = c2 at l2 hcg
        by_cases hlv : cc < 0
        · have hd1 : decide (cc < 0) = true := decide_eq_true hlv
          go_wp2_with fail
          go_quiet_grown (first | (go_at_fn g; refine Calls.grown_of (hcg _ _)))
          clear l1 l2 hcg
          have S3 : Aside (SWK encO 5 w0 blk off d (grow (wr.drewN nq) osq)) := S1.out.grown nq osq
          clear S1
          go_wp2
          go_roundg k
          case measure => omega
          case rel => exact ⟨i, q, k, rfl, rfl, by omega, by omega, by omega, by omega, Nat.le_refl _, S3, (show Hid _ from by show _ = _; rw [← HQ.out, HB.out, HL.out, if_pos (by simpa using hlv)])⟩
        · have hd1 : decide (cc < 0) = false := decide_eq_false hlv
          go_wp2_with fail
          go_quiet_grown (first | (go_at_fn g; refine Calls.grown_of (hcg _ _)))
          clear l1 l2 hcg
          have S3 : Aside (SWK encO 5 w0 blk off d (grow (wr.drewN nq) osq)) := S1.out.grown nq osq
          clear S1
          go_wp2
          go_roundg k
          case measure => omega
          case rel => exact ⟨q + 1, j, k, by go_num, rfl, by omega, by omega, by omega, by omega, Nat.le_refl _, S3, (show Hid _ from by show _ = _; rw [← HQ.out, HB.out, HL.out, if_neg (by simpa using hlv)])⟩
      · have hltz : ¬ (i : Int) < (j : Int) := by omega
        obtain rfl : i = j := by omega
        have HI2 : Hid (startOf (ltOf cf) d a m b = i) := by
          show _ = _
          rw [HS2.out, ← HQ.out]
          cases k with
          | zero => rfl
          | succ k => rw [bs, if_neg (by omega)]
        have HT := HF.out i HI2.out
        clear HQ hk hlt HS2 HF HI2 hkg hij
        obtain ⟨en2, hen2⟩ : ∃ e, e = n - i := ⟨_, rfl⟩
        rw [← hen2] at HT
        have be1 : en2 ≤ b := by have := HM.out; have := HN.out; omega
        have be2 : m ≤ en2 := by have := HM.out; have := HN.out; omega
        have ee : (n : Int) - (i : Int) = (en2 : Int) := by have := HM.out; have := HN.out; omega
        have eew : IntKind.i64.wrap ((n : Int) - (i : Int)) = (en2 : Int) := by rw [ee, IntKind.wrap_i64]; omega
        have HE : Hid (en2 = n - i) := hen2
        clear hen2
        have HTT : Hid _ := HT
        clear HT
        have SW : Aside (SWK encO 5 w0 blk off d wr) := S1
        clear S1
        by_cases c0p : i < m
        · by_cases c0q : m < en2
          · have c0c : i < m ∧ m < en2 := ⟨c0p, c0q⟩
            have c0a : (i : Int) < (m : Int) := by omega
            have c0b : (m : Int) < (en2 : Int) := by omega
            have hcc := fun W (S : SWK encO 5 w0 blk off d W) => rotate_calls g cb blk off cap i m en2 d0 d w0 W HR.out (by omega) S (by omega) (by omega) (by omega) (by omega)
            rw [hd] at hcc
            have HCa : Hid _ := hcc
            clear hcc
            go_wp2_with fail
            refine (HCa.out _ SW.out).mono ?_
            rintro e v0 ⟨rfl, S2⟩
            clear SW HCa
            obtain ⟨dk1, hdk⟩ : ∃ x, x = rotate d i m en2 := ⟨_, rfl⟩
            rw [← hdk] at S2
            have hd1 : dk1.size = d0.size := by rw [hdk]; rw [size_rotate]; exact hd
            have SW : Aside (SWK encO 5 w0 blk off dk1 v0) := S2
            have HD0 : Hid (dk1 = rotate d i m en2) := hdk
            clear S2 hdk
            by_cases c1p : a < i
            · by_cases c1q : i < mid
              · have c1c : a < i ∧ i < mid := ⟨c1p, c1q⟩
                have c1a : (a : Int) < (i : Int) := by omega
                have c1b : (i : Int) < (mid : Int) := by omega
                have hcc := fun W (S : SWK encO 5 w0 blk off dk1 W) => HI.out a i mid dk1 W hd1 S (by omega) (by omega) (by omega) (by omega)
                have HCa : Hid _ := hcc
                clear hcc
                go_wp2_with fail
                refine (HCa.out _ SW.out).mono ?_
                rintro e v1 ⟨rfl, S2⟩
                clear SW HCa
                obtain ⟨dk2, hdk⟩ : ∃ x, x = symMerge (ltOf cf) f dk1 a i mid := ⟨_, rfl⟩
                rw [← hdk] at S2
                have hd2 : dk2.size = d0.size := by rw [hdk]; rw [size_symMerge]; exact hd1
                have SW : Aside (SWK encO 5 w0 blk off dk2 v1) := S2
                have HD1 : Hid (dk2 = symMerge (ltOf cf) f dk1 a i mid) := hdk
                clear S2 hdk
                by_cases c2p : mid < en2
                · by_cases c2q : en2 < b
                  · have c2c : mid < en2 ∧ en2 < b := ⟨c2p, c2q⟩
                    have c2a : (mid : Int) < (en2 : Int) := by omega
                    have c2b : (en2 : Int) < (b : Int) := by omega
                    have hcc := fun W (S : SWK encO 5 w0 blk off dk2 W) => HI.out mid en2 b dk2 W hd2 S (by omega) (by omega) (by omega) (by omega)
                    have HCa : Hid _ := hcc
                    clear hcc
                    go_wp2_with fail
                    refine (HCa.out _ SW.out).mono ?_
                    rintro e v2 ⟨rfl, S2⟩
                    clear SW HCa
                    obtain ⟨dk3, hdk⟩ : ∃ x, x = symMerge (ltOf cf) f dk2 mid en2 b := ⟨_, rfl⟩
                    rw [← hdk] at S2
                    have hd3 : dk3.size = d0.size := by rw [hdk]; rw [size_symMerge]; exact hd2
                    have SW : Aside (SWK encO 5 w0 blk off dk3 v2) := S2
                    have HD2 : Hid (dk3 = symMerge (ltOf cf) f dk2 mid en2 b) := hdk
                    clear S2 hdk
                    go_wp2
                    go_end0
                    refine ⟨rfl, ?_⟩
                    have HX := SW.out
                    rw [HD2.out] at HX
                    rw [HD1.out] at HX
                    rw [HD0.out] at HX
                    rw [HTT.out, if_pos c2c, if_pos c1c, if_pos c0c]
                    exact HX
                  · have c2c : ¬ (mid < en2 ∧ en2 < b) := by omega
                    have c2a : (mid : Int) < (en2 : Int) := by omega
                    have c2b : ¬ (en2 : Int) < (b : Int) := by omega
                    go_wp2
                    go_end0
                    refine ⟨rfl, ?_⟩
                    have HX := SW.out
                    rw [HD1.out] at HX
                    rw [HD0.out] at HX
                    rw [HTT.out, if_neg c2c, if_pos c1c, if_pos c0c]
                    exact HX
                · have c2c : ¬ (mid < en2 ∧ en2 < b) := by omega
                  have c2a : ¬ (mid : Int) < (en2 : Int) := by omega
                  have c2d : decide ((mid : Int) < (en2 : Int)) = false := decide_eq_false c2a
                  go_wp2
                  go_end0
                  refine ⟨rfl, ?_⟩
                  have HX := SW.out
                  rw [HD1.out] at HX
                  rw [HD0.out] at HX
                  rw [HTT.out, if_neg c2c, if_pos c1c, if_pos c0c]
                  exact HX
              · have c1c : ¬ (a < i ∧ i < mid) := by omega
                have c1a : (a : Int) < (i : Int) := by omega
                have c1b : ¬ (i : Int) < (mid : Int) := by omega
                by_cases c2p : mid < en2
                · by_cases c2q : en2 < b
                  · have c2c : mid < en2 ∧ en2 < b := ⟨c2p, c2q⟩
                    have c2a : (mid : Int) < (en2 : Int) := by omega
                    have c2b : (en2 : Int) < (b : Int) := by omega
                    have hcc := fun W (S : SWK encO 5 w0 blk off dk1 W) => HI.out mid en2 b dk1 W hd1 S (by omega) (by omega) (by omega) (by omega)
                    have HCa : Hid _ := hcc
                    clear hcc
                    go_wp2_with fail
                    refine (HCa.out _ SW.out).mono ?_
                    rintro e v1 ⟨rfl, S2⟩
                    clear SW HCa
                    obtain ⟨dk2, hdk⟩ : ∃ x, x = symMerge (ltOf cf) f dk1 mid en2 b := ⟨_, rfl⟩
                    rw [← hdk] at S2
                    have hd2 : dk2.size = d0.size := by rw [hdk]; rw [size_symMerge]; exact hd1
                    have SW : Aside (SWK encO 5 w0 blk off dk2 v1) := S2
                    have HD1 : Hid (dk2 = symMerge (ltOf cf) f dk1 mid en2 b) := hdk
                    clear S2 hdk
                    go_wp2
                    go_end0
                    refine ⟨rfl, ?_⟩
                    have HX := SW.out
                    rw [HD1.out] at HX
                    rw [HD0.out] at HX
                    rw [HTT.out, if_pos c2c, if_neg c1c, if_pos c0c]
                    exact HX
                  · have c2c : ¬ (mid < en2 ∧ en2 < b) := by omega
                    have c2a : (mid : Int) < (en2 : Int) := by omega
                    have c2b : ¬ (en2 : Int) < (b : Int) := by omega
                    go_wp2
                    go_end0
                    refine ⟨rfl, ?_⟩
                    have HX := SW.out
                    rw [HD0.out] at HX
                    rw [HTT.out, if_neg c2c, if_neg c1c, if_pos c0c]
                    exact HX
                · have c2c : ¬ (mid < en2 ∧ en2 < b) := by omega
                  have c2a : ¬ (mid : Int) < (en2 : Int) := by omega
                  have c2d : decide ((mid : Int) < (en2 : Int)) = false := decide_eq_false c2a
                  go_wp2
                  go_end0
                  refine ⟨rfl, ?_⟩
                  have HX := SW.out
                  rw [HD0.out] at HX
                  rw [HTT.out, if_neg c2c, if_neg c1c, if_pos c0c]
                  exact HX
            · have c1c : ¬ (a < i ∧ i < mid) := by omega
              have c1a : ¬ (a : Int) < (i : Int) := by omega
              have c1d : decide ((a : Int) < (i : Int)) = false := decide_eq_false c1a
              by_cases c2p : mid < en2
              · by_cases c2q : en2 < b
                · have c2c : mid < en2 ∧ en2 < b := ⟨c2p, c2q⟩
                  have c2a : (mid : Int) < (en2 : Int) := by omega
                  have c2b : (en2 : Int) < (b : Int) := by omega
                  have hcc := fun W (S : SWK encO 5 w0 blk off dk1 W) => HI.out mid en2 b dk1 W hd1 S (by omega) (by omega) (by omega) (by omega)
                  have HCa : Hid _ := hcc
                  clear hcc
                  go_wp2_with fail
                  refine (HCa.out _ SW.out).mono ?_
                  rintro e v1 ⟨rfl, S2⟩
                  clear SW HCa
                  obtain ⟨dk2, hdk⟩ : ∃ x, x = symMerge (ltOf cf) f dk1 mid en2 b := ⟨_, rfl⟩
                  rw [← hdk] at S2
                  have hd2 : dk2.size = d0.size := by rw [hdk]; rw [size_symMerge]; exact hd1
                  have SW : Aside (SWK encO 5 w0 blk off dk2 v1) := S2
                  have HD1 : Hid (dk2 = symMerge (ltOf cf) f dk1 mid en2 b) := hdk
                  clear S2 hdk
                  go_wp2
                  go_end0
                  refine ⟨rfl, ?_⟩
                  have HX := SW.out
                  rw [HD1.out] at HX
                  rw [HD0.out] at HX
                  rw [HTT.out, if_pos c2c, if_neg c1c, if_pos c0c]
                  exact HX
                · have c2c : ¬ (mid < en2 ∧ en2 < b) := by omega
                  have c2a : (mid : Int) < (en2 : Int) := by omega
                  have c2b : ¬ (en2 : Int) < (b : Int) := by omega
                  go_wp2
                  go_end0
                  refine ⟨rfl, ?_⟩
                  have HX := SW.out
                  rw [HD0.out] at HX
                  rw [HTT.out, if_neg c2c, if_neg c1c, if_pos c0c]
                  exact HX
              · have c2c : ¬ (mid < en2 ∧ en2 < b) := by omega
                have c2a : ¬ (mid : Int) < (en2 : Int) := by omega
                have c2d : decide ((mid : Int) < (en2 : Int)) = false := decide_eq_false c2a
                go_wp2
                go_end0
                refine ⟨rfl, ?_⟩
                have HX := SW.out
                rw [HD0.out] at HX
                rw [HTT.out, if_neg c2c, if_neg c1c, if_pos c0c]
                exact HX
          · have c0c : ¬ (i < m ∧ m < en2) := by omega
            have c0a : (i : Int) < (m : Int) := by omega
            have c0b : ¬ (m : Int) < (en2 : Int) := by omega
            by_cases c1p : a < i
            · by_cases c1q : i < mid
              · have c1c : a < i ∧ i < mid := ⟨c1p, c1q⟩
                have c1a : (a : Int) < (i : Int) := by omega
                have c1b : (i : Int) < (mid : Int) := by omega
                have hcc := fun W (S : SWK encO 5 w0 blk off d W) => HI.out a i mid d W hd S (by omega) (by omega) (by omega) (by omega)
                have HCa : Hid _ := hcc
                clear hcc
                go_wp2_with fail
                refine (HCa.out _ SW.out).mono ?_
                rintro e v0 ⟨rfl, S2⟩
                clear SW HCa
                obtain ⟨dk1, hdk⟩ : ∃ x, x = symMerge (ltOf cf) f d a i mid := ⟨_, rfl⟩
                rw [← hdk] at S2
                have hd1 : dk1.size = d0.size := by rw [hdk]; rw [size_symMerge]; exact hd
                have SW : Aside (SWK encO 5 w0 blk off dk1 v0) := S2
                have HD0 : Hid (dk1 = symMerge (ltOf cf) f d a i mid) := hdk
                clear S2 hdk
                by_cases c2p : mid < en2
                · by_cases c2q : en2 < b
                  · have c2c : mid < en2 ∧ en2 < b := ⟨c2p, c2q⟩
                    have c2a : (mid : Int) < (en2 : Int) := by omega
                    have c2b : (en2 : Int) < (b : Int) := by omega
                    have hcc := fun W (S : SWK encO 5 w0 blk off dk1 W) => HI.out mid en2 b dk1 W hd1 S (by omega) (by omega) (by omega) (by omega)
                    have HCa : Hid _ := hcc
                    clear hcc
                    go_wp2_with fail
                    refine (HCa.out _ SW.out).mono ?_
                    rintro e v1 ⟨rfl, S2⟩
                    clear SW HCa
                    obtain ⟨dk2, hdk⟩ : ∃ x, x = symMerge (ltOf cf) f dk1 mid en2 b := ⟨_, rfl⟩
                    rw [← hdk] at S2
                    have hd2 : dk2.size = d0.size := by rw [hdk]; rw [size_symMerge]; exact hd1
                    have SW : Aside (SWK encO 5 w0 blk off dk2 v1) := S2
                    have HD1 : Hid (dk2 = symMerge (ltOf cf) f dk1 mid en2 b) := hdk
                    clear S2 hdk
                    go_wp2
                    go_end0
                    refine ⟨rfl, ?_⟩
                    have HX := SW.out
                    rw [HD1.out] at HX
                    rw [HD0.out] at HX
                    rw [HTT.out, if_pos c2c, if_pos c1c, if_neg c0c]
                    exact HX
                  · have c2c : ¬ (mid < en2 ∧ en2 < b) := by omega
                    have c2a : (mid : Int) < (en2 : Int) := by omega
                    have c2b : ¬ (en2 : Int) < (b : Int) := by omega
                    go_wp2
                    go_end0
                    refine ⟨rfl, ?_⟩
                    have HX := SW.out
                    rw [HD0.out] at HX
                    rw [HTT.out, if_neg c2c, if_pos c1c, if_neg c0c]
                    exact HX
                · have c2c : ¬ (mid < en2 ∧ en2 < b) := by omega
                  have c2a : ¬ (mid : Int) < (en2 : Int) := by omega
                  have c2d : decide ((mid : Int) < (en2 : Int)) = false := decide_eq_false c2a
                  go_wp2
                  go_end0
                  refine ⟨rfl, ?_⟩
                  have HX := SW.out
                  rw [HD0.out] at HX
                  rw [HTT.out, if_neg c2c, if_pos c1c, if_neg c0c]
                  exact HX
              · have c1c : ¬ (a < i ∧ i < mid) := by omega
                have c1a : (a : Int) < (i : Int) := by omega
                have c1b : ¬ (i : Int) < (mid : Int) := by omega
                by_cases c2p : mid < en2
                · by_cases c2q : en2 < b
                  · have c2c : mid < en2 ∧ en2 < b := ⟨c2p, c2q⟩
                    have c2a : (mid : Int) < (en2 : Int) := by omega
                    have c2b : (en2 : Int) < (b : Int) := by omega
                    have hcc := fun W (S : SWK encO 5 w0 blk off d W) => HI.out mid en2 b d W hd S (by omega) (by omega) (by omega) (by omega)
                    have HCa : Hid _ := hcc
                    clear hcc
                    go_wp2_with fail
                    refine (HCa.out _ SW.out).mono ?_
                    rintro e v0 ⟨rfl, S2⟩
                    clear SW HCa
                    obtain ⟨dk1, hdk⟩ : ∃ x, x = symMerge (ltOf cf) f d mid en2 b := ⟨_, rfl⟩
                    rw [← hdk] at S2
                    have hd1 : dk1.size = d0.size := by rw [hdk]; rw [size_symMerge]; exact hd
                    have SW : Aside (SWK encO 5 w0 blk off dk1 v0) := S2
                    have HD0 : Hid (dk1 = symMerge (ltOf cf) f d mid en2 b) := hdk
                    clear S2 hdk
                    go_wp2
                    go_end0
                    refine ⟨rfl, ?_⟩
                    have HX := SW.out
                    rw [HD0.out] at HX
                    rw [HTT.out, if_pos c2c, if_neg c1c, if_neg c0c]
                    exact HX
                  · have c2c : ¬ (mid < en2 ∧ en2 < b) := by omega
                    have c2a : (mid : Int) < (en2 : Int) := by omega
                    have c2b : ¬ (en2 : Int) < (b : Int) := by omega
                    go_wp2
                    go_end0
                    refine ⟨rfl, ?_⟩
                    have HX := SW.out
                    rw [HTT.out, if_neg c2c, if_neg c1c, if_neg c0c]
                    exact HX
                · have c2c : ¬ (mid < en2 ∧ en2 < b) := by omega
                  have c2a : ¬ (mid : Int) < (en2 : Int) := by omega
                  have c2d : decide ((mid : Int) < (en2 : Int)) = false := decide_eq_false c2a
                  go_wp2
                  go_end0
                  refine ⟨rfl, ?_⟩
                  have HX := SW.out
                  rw [HTT.out, if_neg c2c, if_neg c1c, if_neg c0c]
                  exact HX
            · have c1c : ¬ (a < i ∧ i < mid) := by omega
              have c1a : ¬ (a : Int) < (i : Int) := by omega
              have c1d : decide ((a : Int) < (i : Int)) = false := decide_eq_false c1a
              by_cases c2p : mid < en2
              · by_cases c2q : en2 < b
                · have c2c : mid < en2 ∧ en2 < b := ⟨c2p, c2q⟩
                  have c2a : (mid : Int) < (en2 : Int) := by omega
                  have c2b : (en2 : Int) < (b : Int) := by omega
                  have hcc := fun W (S : SWK encO 5 w0 blk off d W) => HI.out mid en2 b d W hd S (by omega) (by omega) (by omega) (by omega)
                  have HCa : Hid _ := hcc
                  clear hcc
                  go_wp2_with fail
                  refine (HCa.out _ SW.out).mono ?_
                  rintro e v0 ⟨rfl, S2⟩
                  clear SW HCa
                  obtain ⟨dk1, hdk⟩ : ∃ x, x = symMerge (ltOf cf) f d mid en2 b := ⟨_, rfl⟩
                  rw [← hdk] at S2
                  have hd1 : dk1.size = d0.size := by rw [hdk]; rw [size_symMerge]; exact hd
                  have SW : Aside (SWK encO 5 w0 blk off dk1 v0) := S2
                  have HD0 : Hid (dk1 = symMerge (ltOf cf) f d mid en2 b) := hdk
                  clear S2 hdk
                  go_wp2
                  go_end0
                  refine ⟨rfl, ?_⟩
                  have HX := SW.out
                  rw [HD0.out] at HX
                  rw [HTT.out, if_pos c2c, if_neg c1c, if_neg c0c]
                  exact HX
                · have c2c : ¬ (mid < en2 ∧ en2 < b) := by omega
                  have c2a : (mid : Int) < (en2 : Int) := by omega
                  have c2b : ¬ (en2 : Int) < (b : Int) := by omega
                  go_wp2
                  go_end0
                  refine ⟨rfl, ?_⟩
                  have HX := SW.out
                  rw [HTT.out, if_neg c2c, if_neg c1c, if_neg c0c]
                  exact HX
              · have c2c : ¬ (mid < en2 ∧ en2 < b) := by omega
                have c2a : ¬ (mid : Int) < (en2 : Int) := by omega
                have c2d : decide ((mid : Int) < (en2 : Int)) = false := decide_eq_false c2a
                go_wp2
                go_end0
                refine ⟨rfl, ?_⟩
                have HX := SW.out
                rw [HTT.out, if_neg c2c, if_neg c1c, if_neg c0c]
                exact HX
        · have c0c : ¬ (i < m ∧ m < en2) := by omega
          have c0a : ¬ (i : Int) < (m : Int) := by omega
          have c0d : decide ((i : Int) < (m : Int)) = false := decide_eq_false c0a
          by_cases c1p : a < i
          · by_cases c1q : i < mid
            · have c1c : a < i ∧ i < mid := ⟨c1p, c1q⟩
              have c1a : (a : Int) < (i : Int) := by omega
              have c1b : (i : Int) < (mid : Int) := by omega
              have hcc := fun W (S : SWK encO 5 w0 blk off d W) => HI.out a i mid d W hd S (by omega) (by omega) (by omega) (by omega)
              have HCa : Hid _ := hcc
              clear hcc
              go_wp2_with fail
              refine (HCa.out _ SW.out).mono ?_
              rintro e v0 ⟨rfl, S2⟩
              clear SW HCa
              obtain ⟨dk1, hdk⟩ : ∃ x, x = symMerge (ltOf cf) f d a i mid := ⟨_, rfl⟩
              rw [← hdk] at S2
              have hd1 : dk1.size = d0.size := by rw [hdk]; rw [size_symMerge]; exact hd
              have SW : Aside (SWK encO 5 w0 blk off dk1 v0) := S2
              have HD0 : Hid (dk1 = symMerge (ltOf cf) f d a i mid) := hdk
              clear S2 hdk
              by_cases c2p : mid < en2
              · by_cases c2q : en2 < b
                · have c2c : mid < en2 ∧ en2 < b := ⟨c2p, c2q⟩
                  have c2a : (mid : Int) < (en2 : Int) := by omega
                  have c2b : (en2 : Int) < (b : Int) := by omega
                  have hcc := fun W (S : SWK encO 5 w0 blk off dk1 W) => HI.out mid en2 b dk1 W hd1 S (by omega) (by omega) (by omega) (by omega)
                  have HCa : Hid _ := hcc
                  clear hcc
                  go_wp2_with fail
                  refine (HCa.out _ SW.out).mono ?_
                  rintro e v1 ⟨rfl, S2⟩
                  clear SW HCa
                  obtain ⟨dk2, hdk⟩ : ∃ x, x = symMerge (ltOf cf) f dk1 mid en2 b := ⟨_, rfl⟩
                  rw [← hdk] at S2
                  have hd2 : dk2.size = d0.size := by rw [hdk]; rw [size_symMerge]; exact hd1
                  have SW : Aside (SWK encO 5 w0 blk off dk2 v1) := S2
                  have HD1 : Hid (dk2 = symMerge (ltOf cf) f dk1 mid en2 b) := hdk
                  clear S2 hdk
                  go_wp2
                  go_end0
                  refine ⟨rfl, ?_⟩
                  have HX := SW.out
                  rw [HD1.out] at HX
                  rw [HD0.out] at HX
                  rw [HTT.out, if_pos c2c, if_pos c1c, if_neg c0c]
                  exact HX
                · have c2c : ¬ (mid < en2 ∧ en2 < b) := by omega
                  have c2a : (mid : Int) < (en2 : Int) := by omega
                  have c2b : ¬ (en2 : Int) < (b : Int) := by omega
                  go_wp2
                  go_end0
                  refine ⟨rfl, ?_⟩
                  have HX := SW.out
                  rw [HD0.out] at HX
                  rw [HTT.out, if_neg c2c, if_pos c1c, if_neg c0c]
                  exact HX
              · have c2c : ¬ (mid < en2 ∧ en2 < b) := by omega
                have c2a : ¬ (mid : Int) < (en2 : Int) := by omega
                have c2d : decide ((mid : Int) < (en2 : Int)) = false := decide_eq_false c2a
                go_wp2
                go_end0
                refine ⟨rfl, ?_⟩
                have HX := SW.out
                rw [HD0.out] at HX
                rw [HTT.out, if_neg c2c, if_pos c1c, if_neg c0c]
                exact HX
            · have c1c : ¬ (a < i ∧ i < mid) := by omega
              have c1a : (a : Int) < (i : Int) := by omega
              have c1b : ¬ (i : Int) < (mid : Int) := by omega
              by_cases c2p : mid < en2
              · by_cases c2q : en2 < b
                · have c2c : mid < en2 ∧ en2 < b := ⟨c2p, c2q⟩
                  have c2a : (mid : Int) < (en2 : Int) := by omega
                  have c2b : (en2 : Int) < (b : Int) := by omega
                  have hcc := fun W (S : SWK encO 5 w0 blk off d W) => HI.out mid en2 b d W hd S (by omega) (by omega) (by omega) (by omega)
                  have HCa : Hid _ := hcc
                  clear hcc
                  go_wp2_with fail
                  refine (HCa.out _ SW.out).mono ?_
                  rintro e v0 ⟨rfl, S2⟩
                  clear SW HCa
                  obtain ⟨dk1, hdk⟩ : ∃ x, x = symMerge (ltOf cf) f d mid en2 b := ⟨_, rfl⟩
                  rw [← hdk] at S2
                  have hd1 : dk1.size = d0.size := by rw [hdk]; rw [size_symMerge]; exact hd
                  have SW : Aside (SWK encO 5 w0 blk off dk1 v0) := S2
                  have HD0 : Hid (dk1 = symMerge (ltOf cf) f d mid en2 b) := hdk
                  clear S2 hdk
                  go_wp2
                  go_end0
                  refine ⟨rfl, ?_⟩
                  have HX := SW.out
                  rw [HD0.out] at HX
                  rw [HTT.out, if_pos c2c, if_neg c1c, if_neg c0c]
                  exact HX
                · have c2c : ¬ (mid < en2 ∧ en2 < b) := by omega
                  have c2a : (mid : Int) < (en2 : Int) := by omega
                  have c2b : ¬ (en2 : Int) < (b : Int) := by omega
                  go_wp2
                  go_end0
                  refine ⟨rfl, ?_⟩
                  have HX := SW.out
                  rw [HTT.out, if_neg c2c, if_neg c1c, if_neg c0c]
                  exact HX
              · have c2c : ¬ (mid < en2 ∧ en2 < b) := by omega
                have c2a : ¬ (mid : Int) < (en2 : Int) := by omega
                have c2d : decide ((mid : Int) < (en2 : Int)) = false := decide_eq_false c2a
                go_wp2
                go_end0
                refine ⟨rfl, ?_⟩
                have HX := SW.out
                rw [HTT.out, if_neg c2c, if_neg c1c, if_neg c0c]
                exact HX
          · have c1c : ¬ (a < i ∧ i < mid) := by omega
            have c1a : ¬ (a : Int) < (i : Int) := by omega
            have c1d : decide ((a : Int) < (i : Int)) = false := decide_eq_false c1a
            by_cases c2p : mid < en2
            · by_cases c2q : en2 < b
              · have c2c : mid < en2 ∧ en2 < b := ⟨c2p, c2q⟩
                have c2a : (mid : Int) < (en2 : Int) := by omega
                have c2b : (en2 : Int) < (b : Int) := by omega
                have hcc := fun W (S : SWK encO 5 w0 blk off d W) => HI.out mid en2 b d W hd S (by omega) (by omega) (by omega) (by omega)
                have HCa : Hid _ := hcc
                clear hcc
                go_wp2_with fail
                refine (HCa.out _ SW.out).mono ?_
                rintro e v0 ⟨rfl, S2⟩
                clear SW HCa
                obtain ⟨dk1, hdk⟩ : ∃ x, x = symMerge (ltOf cf) f d mid en2 b := ⟨_, rfl⟩
                rw [← hdk] at S2
                have hd1 : dk1.size = d0.size := by rw [hdk]; rw [size_symMerge]; exact hd
                have SW : Aside (SWK encO 5 w0 blk off dk1 v0) := S2
                have HD0 : Hid (dk1 = symMerge (ltOf cf) f d mid en2 b) := hdk
                clear S2 hdk
                go_wp2
                go_end0
                refine ⟨rfl, ?_⟩
                have HX := SW.out
                rw [HD0.out] at HX
                rw [HTT.out, if_pos c2c, if_neg c1c, if_neg c0c]
                exact HX
              · have c2c : ¬ (mid < en2 ∧ en2 < b) := by omega
                have c2a : (mid : Int) < (en2 : Int) := by omega
                have c2b : ¬ (en2 : Int) < (b : Int) := by omega
                go_wp2
                go_end0
                refine ⟨rfl, ?_⟩
                have HX := SW.out
                rw [HTT.out, if_neg c2c, if_neg c1c, if_neg c0c]
                exact HX
            · have c2c : ¬ (mid < en2 ∧ en2 < b) := by omega
              have c2a : ¬ (mid : Int) < (en2 : Int) := by omega
              have c2d : decide ((mid : Int) < (en2 : Int)) = false := decide_eq_false c2a
              go_wp2
              go_end0
              refine ⟨rfl, ?_⟩
              have HX := SW.out
              rw [HTT.out, if_neg c2c, if_neg c1c, if_neg c0c]
              exact HX
  · have hmz : ¬ (mid : Int) < (m : Int) := by omega
    have HS2 : Hid (startOf (ltOf cf) d a m b = bs (fun c => !ltOf cf d[n - 1 - c]! d[c]!) (b - a) (a) (m)) := by show _ = _; rw [HS.out]; simp only [if_neg hm]
    have b0 : a ≤ m := by have := HM.out; omega
    have b00 : m - (a) ≤ b - a := by omega
    clear HS hm
    go_enter Try.func24, Try.ntmps24
    clear hn
    go_wp2
    clear t1 t2 t3 t4
    go_loopg [20, 21, 23] (b - a) (fun g1 vi vj vh wr => ∃ (i j k : Nat), vi = .int .i64 i ∧ vj = .int .i64 j ∧ a ≤ i ∧ i ≤ j ∧ j ≤ m ∧ j - i ≤ k ∧ k ≤ g1 ∧ Aside (SWK encO 5 w0 blk off d wr) ∧ Hid (bs (fun c => !ltOf cf d[n - 1 - c]! d[c]!) k i j = bs (fun c => !ltOf cf d[n - 1 - c]! d[c]!) (b - a) (a) (m)))
    case atStart => exact ⟨a, m, b - a, by first | rfl | go_num, by first | rfl | go_num, by omega, by omega, by omega, by omega, Nat.le_refl _, S0, rfl⟩
    case round =>
      clear S0
      obtain ⟨i, j, k, rfl, rfl, hmi, hij, hjb, hk, hkg, S1, HQ⟩ := hrel
      by_cases hlt : i < j
      · have hltz : (i : Int) < (j : Int) := by omega
        obtain ⟨k, rfl⟩ : ∃ k', k = k' + 1 := ⟨k - 1, by omega⟩
        obtain ⟨q, hq⟩ : ∃ q, q = (i + j) / 2 := ⟨_, rfl⟩
        have eq : ((i : Int) + (j : Int)) / 2 = (q : Int) := by omega
        have bq1 : i ≤ q := by omega
        have bq2 : q < j := by omega
        obtain ⟨p, hp⟩ : ∃ p, p = n - 1 - q := ⟨_, rfl⟩
        have bp1 : p < d0.size := by have := HM.out; have := HN.out; omega
        have ep : (n : Int) - 1 - (q : Int) = (p : Int) := by have := HM.out; have := HN.out; omega
        have epw : IntKind.i64.wrap ((n : Int) - 1 - (q : Int)) = (p : Int) := by rw [ep, IntKind.wrap_i64]; omega
        have z1 : (q : Int) < (d0.size : Int) := by omega
        have z2 : (p : Int) < (d0.size : Int) := by omega
        have wq : IntKind.i64.wrap (q : Int) = (q : Int) := by rw [IntKind.wrap_i64]; omega
        have wp : IntKind.i64.wrap (p : Int) = (p : Int) := by rw [IntKind.wrap_i64]; omega
        have l1 := SWK.ldv S1.out HR.out (by omega) q (by omega)
        have l2 := SWK.ldv S1.out HR.out (by omega) p (by omega)
        have hcg := S1.out.cmp HCC.out hd d[p]! d[q]!
        have HB : Hid (bs (fun c => !ltOf cf d[n - 1 - c]! d[c]!) (k + 1) i j = if ltOf cf d[p]! d[q]! then bs (fun c => !ltOf cf d[n - 1 - c]! d[c]!) k i q else bs (fun c => !ltOf cf d[n - 1 - c]! d[c]!) k (q + 1) j) := by
          show _ = _
          rw [bs, if_pos hlt, hp, hq]
          cases ltOf cf d[n - 1 - (i + j) / 2]! d[(i + j) / 2]! <;> rfl
        have HL : Hid (ltOf cf d[p]! d[q]! = decide (cf d[p]! d[q]! < 0)) := rfl
        clear hq hp
        generalize cf d[p]! d[q]! = cc at hcg HL
        generalize encO d[q]! = c1 at l1 hcg
        generalize encO d[p]! = c2 at l2 hcg
        by_cases hlv : cc < 0
        · have hd1 : decide (cc < 0) = true := decide_eq_true hlv
          go_wp2_with fail
          go_quiet_grown (first | (go_at_fn g; refine Calls.grown_of (hcg _ _)))
          clear l1 l2 hcg
          have S3 : Aside (SWK encO 5 w0 blk off d (grow (wr.drewN nq) osq)) := S1.out.grown nq osq
          clear S1
          go_wp2
          go_roundg k
          case measure => omega
          case rel => exact ⟨i, q, k, rfl, rfl, by omega, by omega, by omega, by omega, Nat.le_refl _, S3, (show Hid _ from by show _ = _; rw [← HQ.out, HB.out, HL.out, if_pos (by simpa using hlv)])⟩
        · have hd1 : decide (cc < 0) = false := decide_eq_false hlv
          go_wp2_with fail
          go_quiet_grown (first | (go_at_fn g; refine Calls.grown_of (hcg _ _)))
          clear l1 l2 hcg
          have S3 : Aside (SWK encO 5 w0 blk off d (grow (wr.drewN nq) osq)) := S1.out.grown nq osq
          clear S1
          go_wp2
          go_roundg k
          case measure => omega
          case rel => exact ⟨q + 1, j, k, by go_num, rfl, by omega, by omega, by omega, by omega, Nat.le_refl _, S3, (show Hid _ from by show _ = _; rw [← HQ.out, HB.out, HL.out, if_neg (by simpa using hlv)])⟩
      · have hltz : ¬ (i : Int) < (j : Int) := by omega
        obtain rfl : i = j := by omega
        have HI2 : Hid (startOf (ltOf cf) d a m b = i) := by
          show _ = _
          rw [HS2.out, ← HQ.out]
          cases k with
          | zero => rfl
          | succ k => rw [bs, if_neg (by omega)]
        have HT := HF.out i HI2.out
        clear HQ hk hlt HS2 HF HI2 hkg hij
        obtain ⟨en2, hen2⟩ : ∃ e, e = n - i := ⟨_, rfl⟩
        rw [← hen2] at HT
        have be1 : en2 ≤ b := by have := HM.out; have := HN.out; omega
        have be2 : mid ≤ en2 := by have := HM.out; have := HN.out; omega
        have ee : (n : Int) - (i : Int) = (en2 : Int) := by have := HM.out; have := HN.out; omega
        have eew : IntKind.i64.wrap ((n : Int) - (i : Int)) = (en2 : Int) := by rw [ee, IntKind.wrap_i64]; omega
        have HE : Hid (en2 = n - i) := hen2
        clear hen2
        have HTT : Hid _ := HT
        clear HT
        have SW : Aside (SWK encO 5 w0 blk off d wr) := S1
        clear S1
        by_cases c0p : i < m
        · by_cases c0q : m < en2
          · have c0c : i < m ∧ m < en2 := ⟨c0p, c0q⟩
            have c0a : (i : Int) < (m : Int) := by omega
            have c0b : (m : Int) < (en2 : Int) := by omega
            have hcc := fun W (S : SWK encO 5 w0 blk off d W) => rotate_calls g cb blk off cap i m en2 d0 d w0 W HR.out (by omega) S (by omega) (by omega) (by omega) (by omega)
            rw [hd] at hcc
            have HCa : Hid _ := hcc
            clear hcc
            go_wp2_with fail
            refine (HCa.out _ SW.out).mono ?_
            rintro e v0 ⟨rfl, S2⟩
            clear SW HCa
            obtain ⟨dk1, hdk⟩ : ∃ x, x = rotate d i m en2 := ⟨_, rfl⟩
            rw [← hdk] at S2
            have hd1 : dk1.size = d0.size := by rw [hdk]; rw [size_rotate]; exact hd
            have SW : Aside (SWK encO 5 w0 blk off dk1 v0) := S2
            have HD0 : Hid (dk1 = rotate d i m en2) := hdk
            clear S2 hdk
            by_cases c1p : a < i
            · by_cases c1q : i < mid
              · have c1c : a < i ∧ i < mid := ⟨c1p, c1q⟩
                have c1a : (a : Int) < (i : Int) := by omega
                have c1b : (i : Int) < (mid : Int) := by omega
                have hcc := fun W (S : SWK encO 5 w0 blk off dk1 W) => HI.out a i mid dk1 W hd1 S (by omega) (by omega) (by omega) (by omega)
                have HCa : Hid _ := hcc
                clear hcc
                go_wp2_with fail
                refine (HCa.out _ SW.out).mono ?_
                rintro e v1 ⟨rfl, S2⟩
                clear SW HCa
                obtain ⟨dk2, hdk⟩ : ∃ x, x = symMerge (ltOf cf) f dk1 a i mid := ⟨_, rfl⟩
                rw [← hdk] at S2
                have hd2 : dk2.size = d0.size := by rw [hdk]; rw [size_symMerge]; exact hd1
                have SW : Aside (SWK encO 5 w0 blk off dk2 v1) := S2
                have HD1 : Hid (dk2 = symMerge (ltOf cf) f dk1 a i mid) := hdk
                clear S2 hdk
                by_cases c2p : mid < en2
                · by_cases c2q : en2 < b
                  · have c2c : mid < en2 ∧ en2 < b := ⟨c2p, c2q⟩
                    have c2a : (mid : Int) < (en2 : Int) := by omega
                    have c2b : (en2 : Int) < (b : Int) := by omega
                    have hcc := fun W (S : SWK encO 5 w0 blk off dk2 W) => HI.out mid en2 b dk2 W hd2 S (by omega) (by omega) (by omega) (by omega)
                    have HCa : Hid _ := hcc
                    clear hcc
                    go_wp2_with fail
                    refine (HCa.out _ SW.out).mono ?_
                    rintro e v2 ⟨rfl, S2⟩
                    clear SW HCa
                    obtain ⟨dk3, hdk⟩ : ∃ x, x = symMerge (ltOf cf) f dk2 mid en2 b := ⟨_, rfl⟩
                    rw [← hdk] at S2
                    have hd3 : dk3.size = d0.size := by rw [hdk]; rw [size_symMerge]; exact hd2
                    have SW : Aside (SWK encO 5 w0 blk off dk3 v2) := S2
                    have HD2 : Hid (dk3 = symMerge (ltOf cf) f dk2 mid en2 b) := hdk
                    clear S2 hdk
                    go_wp2
                    go_end0
                    refine ⟨rfl, ?_⟩
                    have HX := SW.out
                    rw [HD2.out] at HX
                    rw [HD1.out] at HX
                    rw [HD0.out] at HX
                    rw [HTT.out, if_pos c2c, if_pos c1c, if_pos c0c]
                    exact HX
                  · have c2c : ¬ (mid < en2 ∧ en2 < b) := by omega
                    have c2a : (mid : Int) < (en2 : Int) := by omega
                    have c2b : ¬ (en2 : Int) < (b : Int) := by omega
                    go_wp2
                    go_end0
                    refine ⟨rfl, ?_⟩
                    have HX := SW.out
                    rw [HD1.out] at HX
                    rw [HD0.out] at HX
                    rw [HTT.out, if_neg c2c, if_pos c1c, if_pos c0c]
                    exact HX
                · have c2c : ¬ (mid < en2 ∧ en2 < b) := by omega
                  have c2a : ¬ (mid : Int) < (en2 : Int) := by omega
                  have c2d : decide ((mid : Int) < (en2 : Int)) = false := decide_eq_false c2a
                  go_wp2
                  go_end0
                  refine ⟨rfl, ?_⟩
                  have HX := SW.out
                  rw [HD1.out] at HX
                  rw [HD0.out] at HX
                  rw [HTT.out, if_neg c2c, if_pos c1c, if_pos c0c]
                  exact HX
              · have c1c : ¬ (a < i ∧ i < mid) := by omega
                have c1a : (a : Int) < (i : Int) := by omega
                have c1b : ¬ (i : Int) < (mid : Int) := by omega
                by_cases c2p : mid < en2
                · by_cases c2q : en2 < b
                  · have c2c : mid < en2 ∧ en2 < b := ⟨c2p, c2q⟩
                    have c2a : (mid : Int) < (en2 : Int) := by omega
                    have c2b : (en2 : Int) < (b : Int) := by omega
                    have hcc := fun W (S : SWK encO 5 w0 blk off dk1 W) => HI.out mid en2 b dk1 W hd1 S (by omega) (by omega) (by omega) (by omega)
                    have HCa : Hid _ := hcc
                    clear hcc
                    go_wp2_with fail
                    refine (HCa.out _ SW.out).mono ?_
                    rintro e v1 ⟨rfl, S2⟩
                    clear SW HCa
                    obtain ⟨dk2, hdk⟩ : ∃ x, x = symMerge (ltOf cf) f dk1 mid en2 b := ⟨_, rfl⟩
                    rw [← hdk] at S2
                    have hd2 : dk2.size = d0.size := by rw [hdk]; rw [size_symMerge]; exact hd1
                    have SW : Aside (SWK encO 5 w0 blk off dk2 v1) := S2
                    have HD1 : Hid (dk2 = symMerge (ltOf cf) f dk1 mid en2 b) := hdk
                    clear S2 hdk
                    go_wp2
                    go_end0
                    refine ⟨rfl, ?_⟩
                    have HX := SW.out
                    rw [HD1.out] at HX
                    rw [HD0.out] at HX
                    rw [HTT.out, if_pos c2c, if_neg c1c, if_pos c0c]
                    exact HX
                  · have c2c : ¬ (mid < en2 ∧ en2 < b) := by omega
                    have c2a : (mid : Int) < (en2 : Int) := by omega
                    have c2b : ¬ (en2 : Int) < (b : Int) := by omega
                    go_wp2
                    go_end0
                    refine ⟨rfl, ?_⟩
                    have HX := SW.out
                    rw [HD0.out] at HX
                    rw [HTT.out, if_neg c2c, if_neg c1c, if_pos c0c]
                    exact HX
                · have c2c : ¬ (mid < en2 ∧ en2 < b) := by omega
                  have c2a : ¬ (mid : Int) < (en2 : Int) := by omega
                  have c2d : decide ((mid : Int) < (en2 : Int)) = false := decide_eq_false c2a
                  go_wp2
                  go_end0
                  refine ⟨rfl, ?_⟩
                  have HX := SW.out
                  rw [HD0.out] at HX
                  rw [HTT.out, if_neg c2c, if_neg c1c, if_pos c0c]
                  exact HX
            · have c1c : ¬ (a < i ∧ i < mid) := by omega
              have c1a : ¬ (a : Int) < (i : Int) := by omega
              have c1d : decide ((a : Int) < (i : Int)) = false := decide_eq_false c1a
              by_cases c2p : mid < en2
              · by_cases c2q : en2 < b
                · have c2c : mid < en2 ∧ en2 < b := ⟨c2p, c2q⟩
                  have c2a : (mid : Int) < (en2 : Int) := by omega
                  have c2b : (en2 : Int) < (b : Int) := by omega
                  have hcc := fun W (S : SWK encO 5 w0 blk off dk1 W) => HI.out mid en2 b dk1 W hd1 S (by omega) (by omega) (by omega) (by omega)
                  have HCa : Hid _ := hcc
                  clear hcc
                  go_wp2_with fail
                  refine (HCa.out _ SW.out).mono ?_
                  rintro e v1 ⟨rfl, S2⟩
                  clear SW HCa
                  obtain ⟨dk2, hdk⟩ : ∃ x, x = symMerge (ltOf cf) f dk1 mid en2 b := ⟨_, rfl⟩
                  rw [← hdk] at S2
                  have hd2 : dk2.size = d0.size := by rw [hdk]; rw [size_symMerge]; exact hd1
                  have SW : Aside (SWK encO 5 w0 blk off dk2 v1) := S2
                  have HD1 : Hid (dk2 = symMerge (ltOf cf) f dk1 mid en2 b) := hdk
                  clear S2 hdk
                  go_wp2
                  go_end0
                  refine ⟨rfl, ?_⟩
                  have HX := SW.out
                  rw [HD1.out] at HX
                  rw [HD0.out] at HX
                  rw [HTT.out, if_pos c2c, if_neg c1c, if_pos c0c]
                  exact HX
                · have c2c : ¬ (mid < en2 ∧ en2 < b) := by omega
                  have c2a : (mid : Int) < (en2 : Int) := by omega
                  have c2b : ¬ (en2 : Int) < (b : Int) := by omega
                  go_wp2
                  go_end0
                  refine ⟨rfl, ?_⟩
                  have HX := SW.out
                  rw [HD0.out] at HX
                  rw [HTT.out, if_neg c2c, if_neg c1c, if_pos c0c]
                  exact HX
              · have c2c : ¬ (mid < en2 ∧ en2 < b) := by omega
                have c2a : ¬ (mid : Int) < (en2 : Int) := by omega
                have c2d : decide ((mid : Int) < (en2 : Int)) = false := decide_eq_false c2a
                go_wp2
                go_end0
                refine ⟨rfl, ?_⟩
                have HX := SW.out
                rw [HD0.out] at HX
                rw [HTT.out, if_neg c2c, if_neg c1c, if_pos c0c]
                exact HX
          · have c0c : ¬ (i < m ∧ m < en2) := by omega
            have c0a : (i : Int) < (m : Int) := by omega
            have c0b : ¬ (m : Int) < (en2 : Int) := by omega
            by_cases c1p : a < i
            · by_cases c1q : i < mid
              · have c1c : a < i ∧ i < mid := ⟨c1p, c1q⟩
                have c1a : (a : Int) < (i : Int) := by omega
                have c1b : (i : Int) < (mid : Int) := by omega
                have hcc := fun W (S : SWK encO 5 w0 blk off d W) => HI.out a i mid d W hd S (by omega) (by omega) (by omega) (by omega)
                have HCa : Hid _ := hcc
                clear hcc
                go_wp2_with fail
                refine (HCa.out _ SW.out).mono ?_
                rintro e v0 ⟨rfl, S2⟩
                clear SW HCa
                obtain ⟨dk1, hdk⟩ : ∃ x, x = symMerge (ltOf cf) f d a i mid := ⟨_, rfl⟩
                rw [← hdk] at S2
                have hd1 : dk1.size = d0.size := by rw [hdk]; rw [size_symMerge]; exact hd
                have SW : Aside (SWK encO 5 w0 blk off dk1 v0) := S2
                have HD0 : Hid (dk1 = symMerge (ltOf cf) f d a i mid) := hdk
                clear S2 hdk
                by_cases c2p : mid < en2
                · by_cases c2q : en2 < b
                  · have c2c : mid < en2 ∧ en2 < b := ⟨c2p, c2q⟩
                    have c2a : (mid : Int) < (en2 : Int) := by omega
                    have c2b : (en2 : Int) < (b : Int) := by omega
                    have hcc := fun W (S : SWK encO 5 w0 blk off dk1 W) => HI.out mid en2 b dk1 W hd1 S (by omega) (by omega) (by omega) (by omega)
                    have HCa : Hid _ := hcc
                    clear hcc
                    go_wp2_with fail
                    refine (HCa.out _ SW.out).mono ?_
                    rintro e v1 ⟨rfl, S2⟩
                    clear SW HCa
                    obtain ⟨dk2, hdk⟩ : ∃ x, x = symMerge (ltOf cf) f dk1 mid en2 b := ⟨_, rfl⟩
                    rw [← hdk] at S2
                    have hd2 : dk2.size = d0.size := by rw [hdk]; rw [size_symMerge]; exact hd1
                    have SW : Aside (SWK encO 5 w0 blk off dk2 v1) := S2
                    have HD1 : Hid (dk2 = symMerge (ltOf cf) f dk1 mid en2 b) := hdk
                    clear S2 hdk
                    go_wp2
                    go_end0
                    refine ⟨rfl, ?_⟩
                    have HX := SW.out
                    rw [HD1.out] at HX
                    rw [HD0.out] at HX
                    rw [HTT.out, if_pos c2c, if_pos c1c, if_neg c0c]
                    exact HX
                  · have c2c : ¬ (mid < en2 ∧ en2 < b) := by omega
                    have c2a : (mid : Int) < (en2 : Int) := by omega
                    have c2b : ¬ (en2 : Int) < (b : Int) := by omega
                    go_wp2
                    go_end0
                    refine ⟨rfl, ?_⟩
                    have HX := SW.out
                    rw [HD0.out] at HX
                    rw [HTT.out, if_neg c2c, if_pos c1c, if_neg c0c]
                    exact HX
                · have c2c : ¬ (mid < en2 ∧ en2 < b) := by omega
                  have c2a : ¬ (mid : Int) < (en2 : Int) := by omega
                  have c2d : decide ((mid : Int) < (en2 : Int)) = false := decide_eq_false c2a
                  go_wp2
                  go_end0
                  refine ⟨rfl, ?_⟩
                  have HX := SW.out
                  rw [HD0.out] at HX
                  rw [HTT.out, if_neg c2c, if_pos c1c, if_neg c0c]
                  exact HX
              · have c1c : ¬ (a < i ∧ i < mid) := by omega
                have c1a : (a : Int) < (i : Int) := by omega
                have c1b : ¬ (i : Int) < (mid : Int) := by omega
                by_cases c2p : mid < en2
                · by_cases c2q : en2 < b
                  · have c2c : mid < en2 ∧ en2 < b := ⟨c2p, c2q⟩
                    have c2a : (mid : Int) < (en2 : Int) := by omega
                    have c2b : (en2 : Int) < (b : Int) := by omega
                    have hcc := fun W (S : SWK encO 5 w0 blk off d W) => HI.out mid en2 b d W hd S (by omega) (by omega) (by omega) (by omega)
                    have HCa : Hid _ := hcc
                    clear hcc
                    go_wp2_with fail
                    refine (HCa.out _ SW.out).mono ?_
                    rintro e v0 ⟨rfl, S2⟩
                    clear SW HCa
                    obtain ⟨dk1, hdk⟩ : ∃ x, x = symMerge (ltOf cf) f d mid en2 b := ⟨_, rfl⟩
                    rw [← hdk] at S2
                    have hd1 : dk1.size = d0.size := by rw [hdk]; rw [size_symMerge]; exact hd
                    have SW : Aside (SWK encO 5 w0 blk off dk1 v0) := S2
                    have HD0 : Hid (dk1 = symMerge (ltOf cf) f d mid en2 b) := hdk
                    clear S2 hdk
                    go_wp2
                    go_end0
                    refine ⟨rfl, ?_⟩
                    have HX := SW.out
                    rw [HD0.out] at HX
                    rw [HTT.out, if_pos c2c, if_neg c1c, if_neg c0c]
                    exact HX
                  · have c2c : ¬ (mid < en2 ∧ en2 < b) := by omega
                    have c2a : (mid : Int) < (en2 : Int) := by omega
                    have c2b : ¬ (en2 : Int) < (b : Int) := by omega
                    go_wp2
                    go_end0
                    refine ⟨rfl, ?_⟩
                    have HX := SW.out
                    rw [HTT.out, if_neg c2c, if_neg c1c, if_neg c0c]
                    exact HX
                · have c2c : ¬ (mid < en2 ∧ en2 < b) := by omega
                  have c2a : ¬ (mid : Int) < (en2 : Int) := by omega
                  have c2d : decide ((mid : Int) < (en2 : Int)) = false := decide_eq_false c2a
                  go_wp2
                  go_end0
                  refine ⟨rfl, ?_⟩
                  have HX := SW.out
                  rw [HTT.out, if_neg c2c, if_neg c1c, if_neg c0c]
                  exact HX
            · have c1c : ¬ (a < i ∧ i < mid) := by omega
              have c1a : ¬ (a : Int) < (i : Int) := by omega
              have c1d : decide ((a : Int) < (i : Int)) = false := decide_eq_false c1a
              by_cases c2p : mid < en2
              · by_cases c2q : en2 < b
                · have c2c : mid < en2 ∧ en2 < b := ⟨c2p, c2q⟩
                  have c2a : (mid : Int) < (en2 : Int) := by omega
                  have c2b : (en2 : Int) < (b : Int) := by omega
                  have hcc := fun W (S : SWK encO 5 w0 blk off d W) => HI.out mid en2 b d W hd S (by omega) (by omega) (by omega) (by omega)
                  have HCa : Hid _ := hcc
                  clear hcc
                  go_wp2_with fail
                  refine (HCa.out _ SW.out).mono ?_
                  rintro e v0 ⟨rfl, S2⟩
                  clear SW HCa
                  obtain ⟨dk1, hdk⟩ : ∃ x, x = symMerge (ltOf cf) f d mid en2 b := ⟨_, rfl⟩
                  rw [← hdk] at S2
                  have hd1 : dk1.size = d0.size := by rw [hdk]; rw [size_symMerge]; exact hd
                  have SW : Aside (SWK encO 5 w0 blk off dk1 v0) := S2
                  have HD0 : Hid (dk1 = symMerge (ltOf cf) f d mid en2 b) := hdk
                  clear S2 hdk
                  go_wp2
                  go_end0
                  refine ⟨rfl, ?_⟩
                  have HX := SW.out
                  rw [HD0.out] at HX
                  rw [HTT.out, if_pos c2c, if_neg c1c, if_neg c0c]
                  exact HX
                · have c2c : ¬ (mid < en2 ∧ en2 < b) := by omega
                  have c2a : (mid : Int) < (en2 : Int) := by omega
                  have c2b : ¬ (en2 : Int) < (b : Int) := by omega
                  go_wp2
                  go_end0
                  refine ⟨rfl, ?_⟩
                  have HX := SW.out
                  rw [HTT.out, if_neg c2c, if_neg c1c, if_neg c0c]
                  exact HX
              · have c2c : ¬ (mid < en2 ∧ en2 < b) := by omega
                have c2a : ¬ (mid : Int) < (en2 : Int) := by omega
                have c2d : decide ((mid : Int) < (en2 : Int)) = false := decide_eq_false c2a
                go_wp2
                go_end0
                refine ⟨rfl, ?_⟩
                have HX := SW.out
                rw [HTT.out, if_neg c2c, if_neg c1c, if_neg c0c]
                exact HX
        · have c0c : ¬ (i < m ∧ m < en2) := by omega
          have c0a : ¬ (i : Int) < (m : Int) := by omega
          have c0d : decide ((i : Int) < (m : Int)) = false := decide_eq_false c0a
          by_cases c1p : a < i
          · by_cases c1q : i < mid
            · have c1c : a < i ∧ i < mid := ⟨c1p, c1q⟩
              have c1a : (a : Int) < (i : Int) := by omega
              have c1b : (i : Int) < (mid : Int) := by omega
              have hcc := fun W (S : SWK encO 5 w0 blk off d W) => HI.out a i mid d W hd S (by omega) (by omega) (by omega) (by omega)
              have HCa : Hid _ := hcc
              clear hcc
              go_wp2_with fail
              refine (HCa.out _ SW.out).mono ?_
              rintro e v0 ⟨rfl, S2⟩
              clear SW HCa
              obtain ⟨dk1, hdk⟩ : ∃ x, x = symMerge (ltOf cf) f d a i mid := ⟨_, rfl⟩
              rw [← hdk] at S2
              have hd1 : dk1.size = d0.size := by rw [hdk]; rw [size_symMerge]; exact hd
              have SW : Aside (SWK encO 5 w0 blk off dk1 v0) := S2
              have HD0 : Hid (dk1 = symMerge (ltOf cf) f d a i mid) := hdk
              clear S2 hdk
              by_cases c2p : mid < en2
              · by_cases c2q : en2 < b
                · have c2c : mid < en2 ∧ en2 < b := ⟨c2p, c2q⟩
                  have c2a : (mid : Int) < (en2 : Int) := by omega
                  have c2b : (en2 : Int) < (b : Int) := by omega
                  have hcc := fun W (S : SWK encO 5 w0 blk off dk1 W) => HI.out mid en2 b dk1 W hd1 S (by omega) (by omega) (by omega) (by omega)
                  have HCa : Hid _ := hcc
                  clear hcc
                  go_wp2_with fail
                  refine (HCa.out _ SW.out).mono ?_
                  rintro e v1 ⟨rfl, S2⟩
                  clear SW HCa
                  obtain ⟨dk2, hdk⟩ : ∃ x, x = symMerge (ltOf cf) f dk1 mid en2 b := ⟨_, rfl⟩
                  rw [← hdk] at S2
                  have hd2 : dk2.size = d0.size := by rw [hdk]; rw [size_symMerge]; exact hd1
                  have SW : Aside (SWK encO 5 w0 blk off dk2 v1) := S2
                  have HD1 : Hid (dk2 = symMerge (ltOf cf) f dk1 mid en2 b) := hdk
                  clear S2 hdk
                  go_wp2
                  go_end0
                  refine ⟨rfl, ?_⟩
                  have HX := SW.out
                  rw [HD1.out] at HX
                  rw [HD0.out] at HX
                  rw [HTT.out, if_pos c2c, if_pos c1c, if_neg c0c]
                  exact HX
                · have c2c : ¬ (mid < en2 ∧ en2 < b) := by omega
                  have c2a : (mid : Int) < (en2 : Int) := by omega
                  have c2b : ¬ (en2 : Int) < (b : Int) := by omega
                  go_wp2
                  go_end0
                  refine ⟨rfl, ?_⟩
                  have HX := SW.out
                  rw [HD0.out] at HX
                  rw [HTT.out, if_neg c2c, if_pos c1c, if_neg c0c]
                  exact HX
              · have c2c : ¬ (mid < en2 ∧ en2 < b) := by omega
                have c2a : ¬ (mid : Int) < (en2 : Int) := by omega
                have c2d : decide ((mid : Int) < (en2 : Int)) = false := decide_eq_false c2a
                go_wp2
                go_end0
                refine ⟨rfl, ?_⟩
                have HX := SW.out
                rw [HD0.out] at HX
                rw [HTT.out, if_neg c2c, if_pos c1c, if_neg c0c]
                exact HX
            · have c1c : ¬ (a < i ∧ i < mid) := by omega
              have c1a : (a : Int) < (i : Int) := by omega
              have c1b : ¬ (i : Int) < (mid : Int) := by omega
              by_cases c2p : mid < en2
              · by_cases c2q : en2 < b
                · have c2c : mid < en2 ∧ en2 < b := ⟨c2p, c2q⟩
                  have c2a : (mid : Int) < (en2 : Int) := by omega
                  have c2b : (en2 : Int) < (b : Int) := by omega
                  have hcc := fun W (S : SWK encO 5 w0 blk off d W) => HI.out mid en2 b d W hd S (by omega) (by omega) (by omega) (by omega)
                  have HCa : Hid _ := hcc
                  clear hcc
                  go_wp2_with fail
                  refine (HCa.out _ SW.out).mono ?_
                  rintro e v0 ⟨rfl, S2⟩
                  clear SW HCa
                  obtain ⟨dk1, hdk⟩ : ∃ x, x = symMerge (ltOf cf) f d mid en2 b := ⟨_, rfl⟩
                  rw [← hdk] at S2
                  have hd1 : dk1.size = d0.size := by rw [hdk]; rw [size_symMerge]; exact hd
                  have SW : Aside (SWK encO 5 w0 blk off dk1 v0) := S2
                  have HD0 : Hid (dk1 = symMerge (ltOf cf) f d mid en2 b) := hdk
                  clear S2 hdk
                  go_wp2
                  go_end0
                  refine ⟨rfl, ?_⟩
                  have HX := SW.out
                  rw [HD0.out] at HX
                  rw [HTT.out, if_pos c2c, if_neg c1c, if_neg c0c]
                  exact HX
                · have c2c : ¬ (mid < en2 ∧ en2 < b) := by omega
                  have c2a : (mid : Int) < (en2 : Int) := by omega
                  have c2b : ¬ (en2 : Int) < (b : Int) := by omega
                  go_wp2
                  go_end0
                  refine ⟨rfl, ?_⟩
                  have HX := SW.out
                  rw [HTT.out, if_neg c2c, if_neg c1c, if_neg c0c]
                  exact HX
              · have c2c : ¬ (mid < en2 ∧ en2 < b) := by omega
                have c2a : ¬ (mid : Int) < (en2 : Int) := by omega
                have c2d : decide ((mid : Int) < (en2 : Int)) = false := decide_eq_false c2a
                go_wp2
                go_end0
                refine ⟨rfl, ?_⟩
                have HX := SW.out
                rw [HTT.out, if_neg c2c, if_neg c1c, if_neg c0c]
                exact HX
          · have c1c : ¬ (a < i ∧ i < mid) := by omega
            have c1a : ¬ (a : Int) < (i : Int) := by omega
            have c1d : decide ((a : Int) < (i : Int)) = false := decide_eq_false c1a
            by_cases c2p : mid < en2
            · by_cases c2q : en2 < b
              · have c2c : mid < en2 ∧ en2 < b := ⟨c2p, c2q⟩
                have c2a : (mid : Int) < (en2 : Int) := by omega
                have c2b : (en2 : Int) < (b : Int) := by omega
                have hcc := fun W (S : SWK encO 5 w0 blk off d W) => HI.out mid en2 b d W hd S (by omega) (by omega) (by omega) (by omega)
                have HCa : Hid _ := hcc
                clear hcc
                go_wp2_with fail
                refine (HCa.out _ SW.out).mono ?_
                rintro e v0 ⟨rfl, S2⟩
                clear SW HCa
                obtain ⟨dk1, hdk⟩ : ∃ x, x = symMerge (ltOf cf) f d mid en2 b := ⟨_, rfl⟩
                rw [← hdk] at S2
                have hd1 : dk1.size = d0.size := by rw [hdk]; rw [size_symMerge]; exact hd
                have SW : Aside (SWK encO 5 w0 blk off dk1 v0) := S2
                have HD0 : Hid (dk1 = symMerge (ltOf cf) f d mid en2 b) := hdk
                clear S2 hdk
                go_wp2
                go_end0
                refine ⟨rfl, ?_⟩
                have HX := SW.out
                rw [HD0.out] at HX
                rw [HTT.out, if_pos c2c, if_neg c1c, if_neg c0c]
                exact HX
              · have c2c : ¬ (mid < en2 ∧ en2 < b) := by omega
                have c2a : (mid : Int) < (en2 : Int) := by omega
                have c2b : ¬ (en2 : Int) < (b : Int) := by omega
                go_wp2
                go_end0
                refine ⟨rfl, ?_⟩
                have HX := SW.out
                rw [HTT.out, if_neg c2c, if_neg c1c, if_neg c0c]
                exact HX
            · have c2c : ¬ (mid < en2 ∧ en2 < b) := by omega
              have c2a : ¬ (mid : Int) < (en2 : Int) := by omega
              have c2d : decide ((mid : Int) < (en2 : Int)) = false := decide_eq_false c2a
              go_wp2
              go_end0
              refine ⟨rfl, ?_⟩
              have HX := SW.out
              rw [HTT.out, if_neg c2c, if_neg c1c, if_neg c0c]
              exact HX

set_option maxRecDepth 100000 in
theorem symMerge_calls (cf : S28 → S28 → Int) (g : Nat) (cb : Array Value) (blk off cap : Nat) (d0 : Array S28) (w0 : World)
    (eg : ∀ args w, (callFunc g args).run Try.prog w = .ok (.enter g args) w) (HC : CmpLays Try.prog g cb encO 5 cf blk off d0.size w0)
    (R : RowK encO 5 w0 blk off d0) (hsz : d0.size < 4611686018427387904) : ∀ f, SymSaid cf g cb blk off cap d0 w0 f
  | 0 => fun a m b d w _ _ ham hmb _ hf => absurd hf (by omega)
  | f + 1 => fun a m b d w hd S ham hmb hb hf => by
    have IH := symMerge_calls cf g cb blk off cap d0 w0 eg HC R hsz f
    by_cases g1 : m - a = 1
    · have h := symMerge_one cf g cb blk off cap a m b d0 d w0 w eg (by rw [hd]; exact HC) R hd.symm S ham hmb (by omega) (by omega) g1
      rw [hd] at h
      rw [symMerge, if_pos g1]
      exact h
    · by_cases g2 : b - m = 1
      · have h := symMerge_two cf g cb blk off cap a m b d0 d w0 w eg (by rw [hd]; exact HC) R hd.symm S ham hmb (by omega) (by omega) g1 g2
        rw [hd] at h
        rw [symMerge, if_neg g1, if_pos g2]
        exact h
      · exact symMerge_step cf g cb blk off cap d0 w0 eg HC R hsz f IH a m b d w hd S ham hmb hb hf g1 g2
end Go.Proofs.Ytgffjhbmggmcoaa.PF
