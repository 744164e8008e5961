/- Texts of this claim, put together: GAsmB, GAsm, PF94. -/
import Derived.Test.YtpjbfpheenamiaaDoorB12
import Derived.Test.YtpjbfpheenamiaaDoorB13
import Derived.Test.YtpjbfpheenamiaaDoorB14
import Derived.Test.YtpjbfpheenamiaaDoorB1
/- listing.Assemble's ways, second half. -/
namespace Go.Proofs.YtpjbfpheenamiaaDoor.PF
open Go.RowKit Go.WideMaps Go.Maps Go.Proofs.YtpjbfpheenamiaaDoorW.PrintWords Go.Proofs.YtpjbfpheenamiaaDoorW.PrintLast Go.Proofs.YtpjbfpheenamiaaDoorW.PrintMore
set_option linter.unusedVariables false
set_option linter.unusedSimpArgs false
set_option maxHeartbeats 4000000 in
set_option maxRecDepth 100000 in
theorem asm_fno (a0 : ByteArray) (hs0 : a0.size ≤ 140737488355328) (h0 : bookAt 512 a0 = none) (t4 : ByteArray) (n4 : Int) (hb4 : listing_bare.f 9 a0 4 ⟨#[119]⟩ = some (t4, n4, true)) (hs4 : t4.size ≤ 140737488355328) (h4 : bookAt 512 t4 = none) (t2 : ByteArray) (n2 : Int) (hb2 : listing_bare.f 9 a0 2 ⟨#[98]⟩ = some (t2, n2, false)) (w : World) : Calls Tryd.prog 15 #[.string a0] w (AsmPost w [] 6) := by
  have hu46 := Tryd.underlying46
  have Z0 := Aside0.mk hs0
  clear hs0
  have H0 := Aside0.mk h0
  clear h0
  have B4 := Aside0.mk hb4
  clear hb4
  have Z4 := Aside0.mk hs4
  clear hs4
  have H4 := Aside0.mk h4
  clear h4
  have B2 := Aside0.mk hb2
  clear hb2
  go_enter Tryd.func15, Tryd.ntmps15
  go_wp2_with (first
    | (go_at_call 33; refine (book_calls _).mono ?_; rintro e w1 ⟨rfl, ho, hb⟩; have OW1 := Aside0.mk ho; have BW1 := Aside0.mk hb; clear ho hb)
    | ((with_reducible refine gate_dst (N := 24) rfl ?_); refine lookup_none rfl _ _ rfl _ rfl OW1.out a0 rfl Z0.out H0.out ?_)
    | (go_at_call 34; (with_reducible refine (listing_bare.calls 9 a0 4 ⟨#[119]⟩ _ _ _ _ B4.out).mono ?_); rintro e w2 ⟨rfl, hb⟩; have OW2 := Aside0.mk (ownsMap_below OW1.out hb); have BW2 := Aside0.mk (BW1.out.trans (hb.mono BW1.out.size)); clear hb)
    | ((with_reducible refine gate_dst (N := 56) rfl ?_); refine lookup_none rfl _ _ rfl _ rfl OW2.out t4 rfl Z4.out H4.out ?_)
    | (go_at_call 34; (with_reducible refine (listing_bare.calls 9 a0 2 ⟨#[98]⟩ _ _ _ _ B2.out).mono ?_); rintro e w3 ⟨rfl, hb⟩; have OW3 := Aside0.mk (ownsMap_below OW2.out hb); have BW3 := Aside0.mk (BW2.out.trans (hb.mono BW2.out.size)); clear hb))
  go_ret2
  exact ⟨_, rfl, Kd.R_nil _ _ _ _ _, BW3.out⟩
set_option maxHeartbeats 4000000 in
set_option maxRecDepth 100000 in
theorem asm_fdb (a0 : ByteArray) (hs0 : a0.size ≤ 140737488355328) (h0 : bookAt 512 a0 = none) (t4 : ByteArray) (n4 : Int) (hb4 : listing_bare.f 9 a0 4 ⟨#[119]⟩ = some (t4, n4, true)) (hs4 : t4.size ≤ 140737488355328) (h4 : bookAt 512 t4 = none) (t2 : ByteArray) (n2 : Int) (hb2 : listing_bare.f 9 a0 2 ⟨#[98]⟩ = some (t2, n2, true)) (hd : t2.toList = ([68, 66, 32, 98] : List UInt8)) (w : World) : Calls Tryd.prog 15 #[.string a0] w (AsmPost w [n2 % 256] 0) := by
  have hu46 := Tryd.underlying46
  have Z0 := Aside0.mk hs0
  clear hs0
  have H0 := Aside0.mk h0
  clear h0
  have B4 := Aside0.mk hb4
  clear hb4
  have Z4 := Aside0.mk hs4
  clear hs4
  have H4 := Aside0.mk h4
  clear h4
  have B2 := Aside0.mk hb2
  clear hb2
  have d1 : (t2.toList == ([68, 66, 32, 98] : List UInt8)) = true := beq_iff_eq.mpr hd
  have d2 : (t2.toList != ([68, 66, 32, 98] : List UInt8)) = false := bne_eq_false_iff_eq.mpr hd
  clear hd
  go_enter Tryd.func15, Tryd.ntmps15
  go_wp2_with (first
    | (go_at_call 33; refine (book_calls _).mono ?_; rintro e w1 ⟨rfl, ho, hb⟩; have OW1 := Aside0.mk ho; have BW1 := Aside0.mk hb; clear ho hb)
    | ((with_reducible refine gate_dst (N := 24) rfl ?_); refine lookup_none rfl _ _ rfl _ rfl OW1.out a0 rfl Z0.out H0.out ?_)
    | (go_at_call 34; (with_reducible refine (listing_bare.calls 9 a0 4 ⟨#[119]⟩ _ _ _ _ B4.out).mono ?_); rintro e w2 ⟨rfl, hb⟩; have OW2 := Aside0.mk (ownsMap_below OW1.out hb); have BW2 := Aside0.mk (BW1.out.trans (hb.mono BW1.out.size)); clear hb)
    | ((with_reducible refine gate_dst (N := 56) rfl ?_); refine lookup_none rfl _ _ rfl _ rfl OW2.out t4 rfl Z4.out H4.out ?_)
    | (go_at_call 34; (with_reducible refine (listing_bare.calls 9 a0 2 ⟨#[98]⟩ _ _ _ _ B2.out).mono ?_); rintro e w3 ⟨rfl, hb⟩; have OW3 := Aside0.mk (ownsMap_below OW2.out hb); have BW3 := Aside0.mk (BW2.out.trans (hb.mono BW2.out.size)); clear hb)
    | ((with_reducible refine gate_dst (N := 86) rfl ?_); refine Kd.R_lit (Kd.int .u8) _ 5 ?hg (N := 86) ?hd (xs := ([n2 % 256] : List Int)) (inner := [.int .u8 (n2 % 256)]) (ok := fun _ => True) (okp := fun _ => True) ?hr ?hp (fun _ hk => hk) trivial (Below.refl _ _) (Nat.le_refl _) (by simp) ?_; (case hd => rfl); (case hg => rfl); (case hr => first | (go_simp; done) | (go_simp; rfl)); (case hp => exact (Reps.one (show Kd.M (Kd.int .u8) _ _ _ (n2 % 256) [.int .u8 (n2 % 256)] from rfl) (Reps.none _ _))); intro vR wR hoR hbR hgR hnR; have RR := Aside0.mk (Kd.R_lower hoR BW3.out.size); have BR := Aside0.mk (BW3.out.trans (hbR.mono BW3.out.size)); clear hgR hnR hoR hbR))
  go_ret2
  exact ⟨_, rfl, Kd.R_mono RR.out (fun _ hk => trivial), BR.out⟩
set_option maxHeartbeats 4000000 in
set_option maxRecDepth 100000 in
theorem asm_fbyte (a0 : ByteArray) (hs0 : a0.size ≤ 140737488355328) (h0 : bookAt 512 a0 = none) (t4 : ByteArray) (n4 : Int) (hb4 : listing_bare.f 9 a0 4 ⟨#[119]⟩ = some (t4, n4, true)) (hs4 : t4.size ≤ 140737488355328) (h4 : bookAt 512 t4 = none) (t2 : ByteArray) (n2 : Int) (hb2 : listing_bare.f 9 a0 2 ⟨#[98]⟩ = some (t2, n2, true)) (hs2 : t2.size ≤ 140737488355328) (hd : ¬ t2.toList = ([68, 66, 32, 98] : List UInt8)) (op2 : Int) (h2 : bookAt 512 t2 = some op2) (g2 : op2 < 256) (w : World) : Calls Tryd.prog 15 #[.string a0] w (AsmPost w [op2 % 256, n2 % 256] 0) := by
  have hu46 := Tryd.underlying46
  have Z0 := Aside0.mk hs0
  clear hs0
  have H0 := Aside0.mk h0
  clear h0
  have B4 := Aside0.mk hb4
  clear hb4
  have Z4 := Aside0.mk hs4
  clear hs4
  have H4 := Aside0.mk h4
  clear h4
  have B2 := Aside0.mk hb2
  clear hb2
  have Z2 := Aside0.mk hs2
  clear hs2
  have d1 : (t2.toList == ([68, 66, 32, 98] : List UInt8)) = false := beq_eq_false_iff_ne.mpr hd
  have d2 : (t2.toList != ([68, 66, 32, 98] : List UInt8)) = true := bne_iff_ne.mpr hd
  have d3 := Aside0.mk hd
  clear hd
  have H2 := Aside0.mk h2
  clear h2
  have e2 : decide (op2 < 256) = true := decide_eq_true g2
  go_enter Tryd.func15, Tryd.ntmps15
  go_wp2_with (first
    | (go_at_call 33; refine (book_calls _).mono ?_; rintro e w1 ⟨rfl, ho, hb⟩; have OW1 := Aside0.mk ho; have BW1 := Aside0.mk hb; clear ho hb)
    | ((with_reducible refine gate_dst (N := 24) rfl ?_); refine lookup_none rfl _ _ rfl _ rfl OW1.out a0 rfl Z0.out H0.out ?_)
    | (go_at_call 34; (with_reducible refine (listing_bare.calls 9 a0 4 ⟨#[119]⟩ _ _ _ _ B4.out).mono ?_); rintro e w2 ⟨rfl, hb⟩; have OW2 := Aside0.mk (ownsMap_below OW1.out hb); have BW2 := Aside0.mk (BW1.out.trans (hb.mono BW1.out.size)); clear hb)
    | ((with_reducible refine gate_dst (N := 56) rfl ?_); refine lookup_none rfl _ _ rfl _ rfl OW2.out t4 rfl Z4.out H4.out ?_)
    | (go_at_call 34; (with_reducible refine (listing_bare.calls 9 a0 2 ⟨#[98]⟩ _ _ _ _ B2.out).mono ?_); rintro e w3 ⟨rfl, hb⟩; have OW3 := Aside0.mk (ownsMap_below OW2.out hb); have BW3 := Aside0.mk (BW2.out.trans (hb.mono BW2.out.size)); clear hb)
    | ((with_reducible refine gate_dst (N := 90) rfl ?_); refine lookup_some rfl _ _ rfl _ rfl OW3.out t2 rfl Z2.out op2 H2.out ?_)
    | ((with_reducible refine gate_dst (N := 102) rfl ?_); refine Kd.R_lit (Kd.int .u8) _ 5 ?hg (N := 102) ?hd (xs := ([op2 % 256, n2 % 256] : List Int)) (inner := [.int .u8 (op2 % 256), .int .u8 (n2 % 256)]) (ok := fun _ => True) (okp := fun _ => True) ?hr ?hp (fun _ hk => hk) trivial (Below.refl _ _) (Nat.le_refl _) (by simp) ?_; (case hd => rfl); (case hg => rfl); (case hr => first | (go_simp; done) | (go_simp; rfl)); (case hp => exact (Reps.one (show Kd.M (Kd.int .u8) _ _ _ (op2 % 256) [.int .u8 (op2 % 256)] from rfl) (Reps.one (show Kd.M (Kd.int .u8) _ _ _ (n2 % 256) [.int .u8 (n2 % 256)] from rfl) (Reps.none _ _)))); intro vR wR hoR hbR hgR hnR; have RR := Aside0.mk (Kd.R_lower hoR BW3.out.size); have BR := Aside0.mk (BW3.out.trans (hbR.mono BW3.out.size)); clear hgR hnR hoR hbR))
  go_ret2
  exact ⟨_, rfl, Kd.R_mono RR.out (fun _ hk => trivial), BR.out⟩
set_option maxHeartbeats 4000000 in
set_option maxRecDepth 100000 in
theorem asm_fhigh (a0 : ByteArray) (hs0 : a0.size ≤ 140737488355328) (h0 : bookAt 512 a0 = none) (t4 : ByteArray) (n4 : Int) (hb4 : listing_bare.f 9 a0 4 ⟨#[119]⟩ = some (t4, n4, true)) (hs4 : t4.size ≤ 140737488355328) (h4 : bookAt 512 t4 = none) (t2 : ByteArray) (n2 : Int) (hb2 : listing_bare.f 9 a0 2 ⟨#[98]⟩ = some (t2, n2, true)) (hs2 : t2.size ≤ 140737488355328) (hd : ¬ t2.toList = ([68, 66, 32, 98] : List UInt8)) (op2 : Int) (h2 : bookAt 512 t2 = some op2) (g2 : 256 ≤ op2) (w : World) : Calls Tryd.prog 15 #[.string a0] w (AsmPost w [] 6) := by
  have hu46 := Tryd.underlying46
  have Z0 := Aside0.mk hs0
  clear hs0
  have H0 := Aside0.mk h0
  clear h0
  have B4 := Aside0.mk hb4
  clear hb4
  have Z4 := Aside0.mk hs4
  clear hs4
  have H4 := Aside0.mk h4
  clear h4
  have B2 := Aside0.mk hb2
  clear hb2
  have Z2 := Aside0.mk hs2
  clear hs2
  have d1 : (t2.toList == ([68, 66, 32, 98] : List UInt8)) = false := beq_eq_false_iff_ne.mpr hd
  have d2 : (t2.toList != ([68, 66, 32, 98] : List UInt8)) = true := bne_iff_ne.mpr hd
  have d3 := Aside0.mk hd
  clear hd
  have H2 := Aside0.mk h2
  clear h2
  have e2 : decide (op2 < 256) = false := decide_eq_false (by omega)
  go_enter Tryd.func15, Tryd.ntmps15
  go_wp2_with (first
    | (go_at_call 33; refine (book_calls _).mono ?_; rintro e w1 ⟨rfl, ho, hb⟩; have OW1 := Aside0.mk ho; have BW1 := Aside0.mk hb; clear ho hb)
    | ((with_reducible refine gate_dst (N := 24) rfl ?_); refine lookup_none rfl _ _ rfl _ rfl OW1.out a0 rfl Z0.out H0.out ?_)
    | (go_at_call 34; (with_reducible refine (listing_bare.calls 9 a0 4 ⟨#[119]⟩ _ _ _ _ B4.out).mono ?_); rintro e w2 ⟨rfl, hb⟩; have OW2 := Aside0.mk (ownsMap_below OW1.out hb); have BW2 := Aside0.mk (BW1.out.trans (hb.mono BW1.out.size)); clear hb)
    | ((with_reducible refine gate_dst (N := 56) rfl ?_); refine lookup_none rfl _ _ rfl _ rfl OW2.out t4 rfl Z4.out H4.out ?_)
    | (go_at_call 34; (with_reducible refine (listing_bare.calls 9 a0 2 ⟨#[98]⟩ _ _ _ _ B2.out).mono ?_); rintro e w3 ⟨rfl, hb⟩; have OW3 := Aside0.mk (ownsMap_below OW2.out hb); have BW3 := Aside0.mk (BW2.out.trans (hb.mono BW2.out.size)); clear hb)
    | ((with_reducible refine gate_dst (N := 90) rfl ?_); refine lookup_some rfl _ _ rfl _ rfl OW3.out t2 rfl Z2.out op2 H2.out ?_))
  go_ret2
  exact ⟨_, rfl, Kd.R_nil _ _ _ _ _, BW3.out⟩
set_option maxHeartbeats 4000000 in
set_option maxRecDepth 100000 in
theorem asm_fnone (a0 : ByteArray) (hs0 : a0.size ≤ 140737488355328) (h0 : bookAt 512 a0 = none) (t4 : ByteArray) (n4 : Int) (hb4 : listing_bare.f 9 a0 4 ⟨#[119]⟩ = some (t4, n4, true)) (hs4 : t4.size ≤ 140737488355328) (h4 : bookAt 512 t4 = none) (t2 : ByteArray) (n2 : Int) (hb2 : listing_bare.f 9 a0 2 ⟨#[98]⟩ = some (t2, n2, true)) (hs2 : t2.size ≤ 140737488355328) (hd : ¬ t2.toList = ([68, 66, 32, 98] : List UInt8)) (h2 : bookAt 512 t2 = none) (w : World) : Calls Tryd.prog 15 #[.string a0] w (AsmPost w [] 6) := by
  have hu46 := Tryd.underlying46
  have Z0 := Aside0.mk hs0
  clear hs0
  have H0 := Aside0.mk h0
  clear h0
  have B4 := Aside0.mk hb4
  clear hb4
  have Z4 := Aside0.mk hs4
  clear hs4
  have H4 := Aside0.mk h4
  clear h4
  have B2 := Aside0.mk hb2
  clear hb2
  have Z2 := Aside0.mk hs2
  clear hs2
  have d1 : (t2.toList == ([68, 66, 32, 98] : List UInt8)) = false := beq_eq_false_iff_ne.mpr hd
  have d2 : (t2.toList != ([68, 66, 32, 98] : List UInt8)) = true := bne_iff_ne.mpr hd
  have d3 := Aside0.mk hd
  clear hd
  have H2 := Aside0.mk h2
  clear h2
  go_enter Tryd.func15, Tryd.ntmps15
  go_wp2_with (first
    | (go_at_call 33; refine (book_calls _).mono ?_; rintro e w1 ⟨rfl, ho, hb⟩; have OW1 := Aside0.mk ho; have BW1 := Aside0.mk hb; clear ho hb)
    | ((with_reducible refine gate_dst (N := 24) rfl ?_); refine lookup_none rfl _ _ rfl _ rfl OW1.out a0 rfl Z0.out H0.out ?_)
    | (go_at_call 34; (with_reducible refine (listing_bare.calls 9 a0 4 ⟨#[119]⟩ _ _ _ _ B4.out).mono ?_); rintro e w2 ⟨rfl, hb⟩; have OW2 := Aside0.mk (ownsMap_below OW1.out hb); have BW2 := Aside0.mk (BW1.out.trans (hb.mono BW1.out.size)); clear hb)
    | ((with_reducible refine gate_dst (N := 56) rfl ?_); refine lookup_none rfl _ _ rfl _ rfl OW2.out t4 rfl Z4.out H4.out ?_)
    | (go_at_call 34; (with_reducible refine (listing_bare.calls 9 a0 2 ⟨#[98]⟩ _ _ _ _ B2.out).mono ?_); rintro e w3 ⟨rfl, hb⟩; have OW3 := Aside0.mk (ownsMap_below OW2.out hb); have BW3 := Aside0.mk (BW2.out.trans (hb.mono BW2.out.size)); clear hb)
    | ((with_reducible refine gate_dst (N := 90) rfl ?_); refine lookup_none rfl _ _ rfl _ rfl OW3.out t2 rfl Z2.out H2.out ?_))
  go_ret2
  exact ⟨_, rfl, Kd.R_nil _ _ _ _ _, BW3.out⟩
set_option maxHeartbeats 4000000 in
set_option maxRecDepth 100000 in
theorem asm_hno (a0 : ByteArray) (hs0 : a0.size ≤ 140737488355328) (h0 : bookAt 512 a0 = none) (t4 : ByteArray) (n4 : Int) (hb4 : listing_bare.f 9 a0 4 ⟨#[119]⟩ = some (t4, n4, true)) (hs4 : t4.size ≤ 140737488355328) (op4 : Int) (h4 : bookAt 512 t4 = some op4) (g4 : 256 ≤ op4) (t2 : ByteArray) (n2 : Int) (hb2 : listing_bare.f 9 a0 2 ⟨#[98]⟩ = some (t2, n2, false)) (w : World) : Calls Tryd.prog 15 #[.string a0] w (AsmPost w [] 6) := by
  have hu46 := Tryd.underlying46
  have Z0 := Aside0.mk hs0
  clear hs0
  have H0 := Aside0.mk h0
  clear h0
  have B4 := Aside0.mk hb4
  clear hb4
  have Z4 := Aside0.mk hs4
  clear hs4
  have H4 := Aside0.mk h4
  clear h4
  have e4 : decide (op4 < 256) = false := decide_eq_false (by omega)
  have B2 := Aside0.mk hb2
  clear hb2
  go_enter Tryd.func15, Tryd.ntmps15
  go_wp2_with (first
    | (go_at_call 33; refine (book_calls _).mono ?_; rintro e w1 ⟨rfl, ho, hb⟩; have OW1 := Aside0.mk ho; have BW1 := Aside0.mk hb; clear ho hb)
    | ((with_reducible refine gate_dst (N := 24) rfl ?_); refine lookup_none rfl _ _ rfl _ rfl OW1.out a0 rfl Z0.out H0.out ?_)
    | (go_at_call 34; (with_reducible refine (listing_bare.calls 9 a0 4 ⟨#[119]⟩ _ _ _ _ B4.out).mono ?_); rintro e w2 ⟨rfl, hb⟩; have OW2 := Aside0.mk (ownsMap_below OW1.out hb); have BW2 := Aside0.mk (BW1.out.trans (hb.mono BW1.out.size)); clear hb)
    | ((with_reducible refine gate_dst (N := 56) rfl ?_); refine lookup_some rfl _ _ rfl _ rfl OW2.out t4 rfl Z4.out op4 H4.out ?_)
    | (go_at_call 34; (with_reducible refine (listing_bare.calls 9 a0 2 ⟨#[98]⟩ _ _ _ _ B2.out).mono ?_); rintro e w3 ⟨rfl, hb⟩; have OW3 := Aside0.mk (ownsMap_below OW2.out hb); have BW3 := Aside0.mk (BW2.out.trans (hb.mono BW2.out.size)); clear hb))
  go_ret2
  exact ⟨_, rfl, Kd.R_nil _ _ _ _ _, BW3.out⟩
set_option maxHeartbeats 4000000 in
set_option maxRecDepth 100000 in
theorem asm_hdb (a0 : ByteArray) (hs0 : a0.size ≤ 140737488355328) (h0 : bookAt 512 a0 = none) (t4 : ByteArray) (n4 : Int) (hb4 : listing_bare.f 9 a0 4 ⟨#[119]⟩ = some (t4, n4, true)) (hs4 : t4.size ≤ 140737488355328) (op4 : Int) (h4 : bookAt 512 t4 = some op4) (g4 : 256 ≤ op4) (t2 : ByteArray) (n2 : Int) (hb2 : listing_bare.f 9 a0 2 ⟨#[98]⟩ = some (t2, n2, true)) (hd : t2.toList = ([68, 66, 32, 98] : List UInt8)) (w : World) : Calls Tryd.prog 15 #[.string a0] w (AsmPost w [n2 % 256] 0) := by
  have hu46 := Tryd.underlying46
  have Z0 := Aside0.mk hs0
  clear hs0
  have H0 := Aside0.mk h0
  clear h0
  have B4 := Aside0.mk hb4
  clear hb4
  have Z4 := Aside0.mk hs4
  clear hs4
  have H4 := Aside0.mk h4
  clear h4
  have e4 : decide (op4 < 256) = false := decide_eq_false (by omega)
  have B2 := Aside0.mk hb2
  clear hb2
  have d1 : (t2.toList == ([68, 66, 32, 98] : List UInt8)) = true := beq_iff_eq.mpr hd
  have d2 : (t2.toList != ([68, 66, 32, 98] : List UInt8)) = false := bne_eq_false_iff_eq.mpr hd
  clear hd
  go_enter Tryd.func15, Tryd.ntmps15
  go_wp2_with (first
    | (go_at_call 33; refine (book_calls _).mono ?_; rintro e w1 ⟨rfl, ho, hb⟩; have OW1 := Aside0.mk ho; have BW1 := Aside0.mk hb; clear ho hb)
    | ((with_reducible refine gate_dst (N := 24) rfl ?_); refine lookup_none rfl _ _ rfl _ rfl OW1.out a0 rfl Z0.out H0.out ?_)
    | (go_at_call 34; (with_reducible refine (listing_bare.calls 9 a0 4 ⟨#[119]⟩ _ _ _ _ B4.out).mono ?_); rintro e w2 ⟨rfl, hb⟩; have OW2 := Aside0.mk (ownsMap_below OW1.out hb); have BW2 := Aside0.mk (BW1.out.trans (hb.mono BW1.out.size)); clear hb)
    | ((with_reducible refine gate_dst (N := 56) rfl ?_); refine lookup_some rfl _ _ rfl _ rfl OW2.out t4 rfl Z4.out op4 H4.out ?_)
    | (go_at_call 34; (with_reducible refine (listing_bare.calls 9 a0 2 ⟨#[98]⟩ _ _ _ _ B2.out).mono ?_); rintro e w3 ⟨rfl, hb⟩; have OW3 := Aside0.mk (ownsMap_below OW2.out hb); have BW3 := Aside0.mk (BW2.out.trans (hb.mono BW2.out.size)); clear hb)
    | ((with_reducible refine gate_dst (N := 86) rfl ?_); refine Kd.R_lit (Kd.int .u8) _ 5 ?hg (N := 86) ?hd (xs := ([n2 % 256] : List Int)) (inner := [.int .u8 (n2 % 256)]) (ok := fun _ => True) (okp := fun _ => True) ?hr ?hp (fun _ hk => hk) trivial (Below.refl _ _) (Nat.le_refl _) (by simp) ?_; (case hd => rfl); (case hg => rfl); (case hr => first | (go_simp; done) | (go_simp; rfl)); (case hp => exact (Reps.one (show Kd.M (Kd.int .u8) _ _ _ (n2 % 256) [.int .u8 (n2 % 256)] from rfl) (Reps.none _ _))); intro vR wR hoR hbR hgR hnR; have RR := Aside0.mk (Kd.R_lower hoR BW3.out.size); have BR := Aside0.mk (BW3.out.trans (hbR.mono BW3.out.size)); clear hgR hnR hoR hbR))
  go_ret2
  exact ⟨_, rfl, Kd.R_mono RR.out (fun _ hk => trivial), BR.out⟩
set_option maxHeartbeats 4000000 in
set_option maxRecDepth 100000 in
theorem asm_hbyte (a0 : ByteArray) (hs0 : a0.size ≤ 140737488355328) (h0 : bookAt 512 a0 = none) (t4 : ByteArray) (n4 : Int) (hb4 : listing_bare.f 9 a0 4 ⟨#[119]⟩ = some (t4, n4, true)) (hs4 : t4.size ≤ 140737488355328) (op4 : Int) (h4 : bookAt 512 t4 = some op4) (g4 : 256 ≤ op4) (t2 : ByteArray) (n2 : Int) (hb2 : listing_bare.f 9 a0 2 ⟨#[98]⟩ = some (t2, n2, true)) (hs2 : t2.size ≤ 140737488355328) (hd : ¬ t2.toList = ([68, 66, 32, 98] : List UInt8)) (op2 : Int) (h2 : bookAt 512 t2 = some op2) (g2 : op2 < 256) (w : World) : Calls Tryd.prog 15 #[.string a0] w (AsmPost w [op2 % 256, n2 % 256] 0) := by
  have hu46 := Tryd.underlying46
  have Z0 := Aside0.mk hs0
  clear hs0
  have H0 := Aside0.mk h0
  clear h0
  have B4 := Aside0.mk hb4
  clear hb4
  have Z4 := Aside0.mk hs4
  clear hs4
  have H4 := Aside0.mk h4
  clear h4
  have e4 : decide (op4 < 256) = false := decide_eq_false (by omega)
  have B2 := Aside0.mk hb2
  clear hb2
  have Z2 := Aside0.mk hs2
  clear hs2
  have d1 : (t2.toList == ([68, 66, 32, 98] : List UInt8)) = false := beq_eq_false_iff_ne.mpr hd
  have d2 : (t2.toList != ([68, 66, 32, 98] : List UInt8)) = true := bne_iff_ne.mpr hd
  have d3 := Aside0.mk hd
  clear hd
  have H2 := Aside0.mk h2
  clear h2
  have e2 : decide (op2 < 256) = true := decide_eq_true g2
  go_enter Tryd.func15, Tryd.ntmps15
  go_wp2_with (first
    | (go_at_call 33; refine (book_calls _).mono ?_; rintro e w1 ⟨rfl, ho, hb⟩; have OW1 := Aside0.mk ho; have BW1 := Aside0.mk hb; clear ho hb)
    | ((with_reducible refine gate_dst (N := 24) rfl ?_); refine lookup_none rfl _ _ rfl _ rfl OW1.out a0 rfl Z0.out H0.out ?_)
    | (go_at_call 34; (with_reducible refine (listing_bare.calls 9 a0 4 ⟨#[119]⟩ _ _ _ _ B4.out).mono ?_); rintro e w2 ⟨rfl, hb⟩; have OW2 := Aside0.mk (ownsMap_below OW1.out hb); have BW2 := Aside0.mk (BW1.out.trans (hb.mono BW1.out.size)); clear hb)
    | ((with_reducible refine gate_dst (N := 56) rfl ?_); refine lookup_some rfl _ _ rfl _ rfl OW2.out t4 rfl Z4.out op4 H4.out ?_)
    | (go_at_call 34; (with_reducible refine (listing_bare.calls 9 a0 2 ⟨#[98]⟩ _ _ _ _ B2.out).mono ?_); rintro e w3 ⟨rfl, hb⟩; have OW3 := Aside0.mk (ownsMap_below OW2.out hb); have BW3 := Aside0.mk (BW2.out.trans (hb.mono BW2.out.size)); clear hb)
    | ((with_reducible refine gate_dst (N := 90) rfl ?_); refine lookup_some rfl _ _ rfl _ rfl OW3.out t2 rfl Z2.out op2 H2.out ?_)
    | ((with_reducible refine gate_dst (N := 102) rfl ?_); refine Kd.R_lit (Kd.int .u8) _ 5 ?hg (N := 102) ?hd (xs := ([op2 % 256, n2 % 256] : List Int)) (inner := [.int .u8 (op2 % 256), .int .u8 (n2 % 256)]) (ok := fun _ => True) (okp := fun _ => True) ?hr ?hp (fun _ hk => hk) trivial (Below.refl _ _) (Nat.le_refl _) (by simp) ?_; (case hd => rfl); (case hg => rfl); (case hr => first | (go_simp; done) | (go_simp; rfl)); (case hp => exact (Reps.one (show Kd.M (Kd.int .u8) _ _ _ (op2 % 256) [.int .u8 (op2 % 256)] from rfl) (Reps.one (show Kd.M (Kd.int .u8) _ _ _ (n2 % 256) [.int .u8 (n2 % 256)] from rfl) (Reps.none _ _)))); intro vR wR hoR hbR hgR hnR; have RR := Aside0.mk (Kd.R_lower hoR BW3.out.size); have BR := Aside0.mk (BW3.out.trans (hbR.mono BW3.out.size)); clear hgR hnR hoR hbR))
  go_ret2
  exact ⟨_, rfl, Kd.R_mono RR.out (fun _ hk => trivial), BR.out⟩
set_option maxHeartbeats 4000000 in
set_option maxRecDepth 100000 in
theorem asm_hhigh (a0 : ByteArray) (hs0 : a0.size ≤ 140737488355328) (h0 : bookAt 512 a0 = none) (t4 : ByteArray) (n4 : Int) (hb4 : listing_bare.f 9 a0 4 ⟨#[119]⟩ = some (t4, n4, true)) (hs4 : t4.size ≤ 140737488355328) (op4 : Int) (h4 : bookAt 512 t4 = some op4) (g4 : 256 ≤ op4) (t2 : ByteArray) (n2 : Int) (hb2 : listing_bare.f 9 a0 2 ⟨#[98]⟩ = some (t2, n2, true)) (hs2 : t2.size ≤ 140737488355328) (hd : ¬ t2.toList = ([68, 66, 32, 98] : List UInt8)) (op2 : Int) (h2 : bookAt 512 t2 = some op2) (g2 : 256 ≤ op2) (w : World) : Calls Tryd.prog 15 #[.string a0] w (AsmPost w [] 6) := by
  have hu46 := Tryd.underlying46
  have Z0 := Aside0.mk hs0
  clear hs0
  have H0 := Aside0.mk h0
  clear h0
  have B4 := Aside0.mk hb4
  clear hb4
  have Z4 := Aside0.mk hs4
  clear hs4
  have H4 := Aside0.mk h4
  clear h4
  have e4 : decide (op4 < 256) = false := decide_eq_false (by omega)
  have B2 := Aside0.mk hb2
  clear hb2
  have Z2 := Aside0.mk hs2
  clear hs2
  have d1 : (t2.toList == ([68, 66, 32, 98] : List UInt8)) = false := beq_eq_false_iff_ne.mpr hd
  have d2 : (t2.toList != ([68, 66, 32, 98] : List UInt8)) = true := bne_iff_ne.mpr hd
  have d3 := Aside0.mk hd
  clear hd
  have H2 := Aside0.mk h2
  clear h2
  have e2 : decide (op2 < 256) = false := decide_eq_false (by omega)
  go_enter Tryd.func15, Tryd.ntmps15
  go_wp2_with (first
    | (go_at_call 33; refine (book_calls _).mono ?_; rintro e w1 ⟨rfl, ho, hb⟩; have OW1 := Aside0.mk ho; have BW1 := Aside0.mk hb; clear ho hb)
    | ((with_reducible refine gate_dst (N := 24) rfl ?_); refine lookup_none rfl _ _ rfl _ rfl OW1.out a0 rfl Z0.out H0.out ?_)
    | (go_at_call 34; (with_reducible refine (listing_bare.calls 9 a0 4 ⟨#[119]⟩ _ _ _ _ B4.out).mono ?_); rintro e w2 ⟨rfl, hb⟩; have OW2 := Aside0.mk (ownsMap_below OW1.out hb); have BW2 := Aside0.mk (BW1.out.trans (hb.mono BW1.out.size)); clear hb)
    | ((with_reducible refine gate_dst (N := 56) rfl ?_); refine lookup_some rfl _ _ rfl _ rfl OW2.out t4 rfl Z4.out op4 H4.out ?_)
    | (go_at_call 34; (with_reducible refine (listing_bare.calls 9 a0 2 ⟨#[98]⟩ _ _ _ _ B2.out).mono ?_); rintro e w3 ⟨rfl, hb⟩; have OW3 := Aside0.mk (ownsMap_below OW2.out hb); have BW3 := Aside0.mk (BW2.out.trans (hb.mono BW2.out.size)); clear hb)
    | ((with_reducible refine gate_dst (N := 90) rfl ?_); refine lookup_some rfl _ _ rfl _ rfl OW3.out t2 rfl Z2.out op2 H2.out ?_))
  go_ret2
  exact ⟨_, rfl, Kd.R_nil _ _ _ _ _, BW3.out⟩
set_option maxHeartbeats 4000000 in
set_option maxRecDepth 100000 in
theorem asm_hnone (a0 : ByteArray) (hs0 : a0.size ≤ 140737488355328) (h0 : bookAt 512 a0 = none) (t4 : ByteArray) (n4 : Int) (hb4 : listing_bare.f 9 a0 4 ⟨#[119]⟩ = some (t4, n4, true)) (hs4 : t4.size ≤ 140737488355328) (op4 : Int) (h4 : bookAt 512 t4 = some op4) (g4 : 256 ≤ op4) (t2 : ByteArray) (n2 : Int) (hb2 : listing_bare.f 9 a0 2 ⟨#[98]⟩ = some (t2, n2, true)) (hs2 : t2.size ≤ 140737488355328) (hd : ¬ t2.toList = ([68, 66, 32, 98] : List UInt8)) (h2 : bookAt 512 t2 = none) (w : World) : Calls Tryd.prog 15 #[.string a0] w (AsmPost w [] 6) := by
  have hu46 := Tryd.underlying46
  have Z0 := Aside0.mk hs0
  clear hs0
  have H0 := Aside0.mk h0
  clear h0
  have B4 := Aside0.mk hb4
  clear hb4
  have Z4 := Aside0.mk hs4
  clear hs4
  have H4 := Aside0.mk h4
  clear h4
  have e4 : decide (op4 < 256) = false := decide_eq_false (by omega)
  have B2 := Aside0.mk hb2
  clear hb2
  have Z2 := Aside0.mk hs2
  clear hs2
  have d1 : (t2.toList == ([68, 66, 32, 98] : List UInt8)) = false := beq_eq_false_iff_ne.mpr hd
  have d2 : (t2.toList != ([68, 66, 32, 98] : List UInt8)) = true := bne_iff_ne.mpr hd
  have d3 := Aside0.mk hd
  clear hd
  have H2 := Aside0.mk h2
  clear h2
  go_enter Tryd.func15, Tryd.ntmps15
  go_wp2_with (first
    | (go_at_call 33; refine (book_calls _).mono ?_; rintro e w1 ⟨rfl, ho, hb⟩; have OW1 := Aside0.mk ho; have BW1 := Aside0.mk hb; clear ho hb)
    | ((with_reducible refine gate_dst (N := 24) rfl ?_); refine lookup_none rfl _ _ rfl _ rfl OW1.out a0 rfl Z0.out H0.out ?_)
    | (go_at_call 34; (with_reducible refine (listing_bare.calls 9 a0 4 ⟨#[119]⟩ _ _ _ _ B4.out).mono ?_); rintro e w2 ⟨rfl, hb⟩; have OW2 := Aside0.mk (ownsMap_below OW1.out hb); have BW2 := Aside0.mk (BW1.out.trans (hb.mono BW1.out.size)); clear hb)
    | ((with_reducible refine gate_dst (N := 56) rfl ?_); refine lookup_some rfl _ _ rfl _ rfl OW2.out t4 rfl Z4.out op4 H4.out ?_)
    | (go_at_call 34; (with_reducible refine (listing_bare.calls 9 a0 2 ⟨#[98]⟩ _ _ _ _ B2.out).mono ?_); rintro e w3 ⟨rfl, hb⟩; have OW3 := Aside0.mk (ownsMap_below OW2.out hb); have BW3 := Aside0.mk (BW2.out.trans (hb.mono BW2.out.size)); clear hb)
    | ((with_reducible refine gate_dst (N := 90) rfl ?_); refine lookup_none rfl _ _ rfl _ rfl OW3.out t2 rfl Z2.out H2.out ?_))
  go_ret2
  exact ⟨_, rfl, Kd.R_nil _ _ _ _ _, BW3.out⟩
end Go.Proofs.YtpjbfpheenamiaaDoor.PF
/- The contract of listing.Assemble: the bytes, or what is wrong; condition: the text takes no more than 2^47 bytes. -/
namespace Go.Proofs.YtpjbfpheenamiaaDoor.PF
open Go.RowKit Go.WideMaps Go.Maps Go.Proofs.YtpjbfpheenamiaaDoorW.PrintWords Go.Proofs.YtpjbfpheenamiaaDoorW.PrintLast Go.Proofs.YtpjbfpheenamiaaDoorW.PrintMore
set_option linter.unusedVariables false
set_option linter.unusedSimpArgs false
/-- The opcode below 256 whose line in the book is the text, if there is a text. -/
def asmLow (t : ByteArray) (ok : Bool) : Option (Option Int) :=
  if ok = true then (if t.size ≤ 140737488355328 then some (match bookAt 512 t with | some op => if op < 256 then some op else none | none => none) else none) else some none
def listing_Assemble.f (a0 : ByteArray) : Option (List Int × Int) :=
  if a0.size ≤ 140737488355328 then
    match bookAt 512 a0 with
    | some op => (listing_form.f 9 (op % 256) (decide (255 < op))).bind fun bt => if 255 < op then some ([203, op % 256], 0) else if bt.2.2.2.1 = 1 then some ([op], 0) else some ([], 6)
    | none => (listing_bare.f 9 a0 4 ⟨#[119]⟩).bind fun b4 => (asmLow b4.1 b4.2.2).bind fun o4 => match o4 with
      | some op4 => some ([op4 % 256, b4.2.1 % 256, b4.2.1 / 256 % 256], 0)
      | none => (listing_bare.f 9 a0 2 ⟨#[98]⟩).bind fun b2 => if b2.2.2 = true then (if b2.1.toList = ([68, 66, 32, 98] : List UInt8) then some ([b2.2.1 % 256], 0) else (asmLow b2.1 true).bind fun o2 => match o2 with
        | some op2 => some ([op2 % 256, b2.2.1 % 256], 0)
        | none => some ([], 6)) else some ([], 6)
  else none
theorem asmLow_some {t : ByteArray} {ok : Bool} {op : Int} (h : asmLow t ok = some (some op)) : ok = true ∧ t.size ≤ 140737488355328 ∧ bookAt 512 t = some op ∧ op < 256 := by
  unfold asmLow at h
  split at h
  case isFalse => cases h
  case isTrue h1 =>
    split at h
    case isFalse => cases h
    case isTrue h2 =>
      cases hb : bookAt 512 t with
      | none => rw [hb] at h; cases h
      | some o =>
        rw [hb] at h
        by_cases hl : o < 256
        · simp only [if_pos hl] at h
          cases h
          exact ⟨h1, h2, rfl, hl⟩
        · simp only [if_neg hl] at h
          cases h
theorem asmLow_none {t : ByteArray} {ok : Bool} (h : asmLow t ok = some none) : ok = false ∨ (ok = true ∧ t.size ≤ 140737488355328 ∧ (bookAt 512 t = none ∨ ∃ op, bookAt 512 t = some op ∧ 256 ≤ op)) := by
  unfold asmLow at h
  split at h
  case isFalse h1 => exact .inl (by simpa using h1)
  case isTrue h1 =>
    split at h
    case isFalse => cases h
    case isTrue h2 =>
      refine .inr ⟨h1, h2, ?_⟩
      cases hb : bookAt 512 t with
      | none => exact .inl rfl
      | some o =>
        rw [hb] at h
        by_cases hl : o < 256
        · simp only [if_pos hl] at h
          cases h
        · exact .inr ⟨o, rfl, by omega⟩
theorem listing_Assemble.calls (a0 : ByteArray) (r1 : List Int) (r2 : Int) (w : World) (h : listing_Assemble.f a0 = some (r1, r2)) :
    Calls Tryd.prog 15 #[.string a0] w fun e w' => ∃ v0_ : Value, e = .returned (.tuple #[v0_, .int .i64 r2]) ∧ Kd.R (Kd.int .u8) 5 w' w.heap.size (fun _ => True) v0_ r1 ∧ Below w.heap.size w w' := by
  show Calls Tryd.prog 15 #[.string a0] w (AsmPost w r1 r2)
  unfold listing_Assemble.f at h
  by_cases hs0 : a0.size ≤ 140737488355328
  case neg => rw [if_neg hs0] at h; cases h
  rw [if_pos hs0] at h
  cases h0 : bookAt 512 a0 with
  | some op =>
    rw [h0] at h
    obtain ⟨⟨f0, f1, f2, f3, f4, f5⟩, hf, h⟩ := Option.bind_eq_some_iff.mp h
    by_cases h1 : 255 < op
    · rw [if_pos h1] at h
      cases h
      exact asm_cb a0 hs0 op f0 f1 f2 f3 f4 f5 h0 hf h1 w
    · rw [if_neg h1] at h
      by_cases h3 : f3 = 1
      · rw [if_pos h3] at h
        cases h
        exact asm_one a0 hs0 op f0 f1 f2 f3 f4 f5 h0 hf (by omega) h3 w
      · rw [if_neg h3] at h
        cases h
        exact asm_more a0 hs0 op f0 f1 f2 f3 f4 f5 h0 hf (by omega) h3 w
  | none =>
    rw [h0] at h
    obtain ⟨⟨t4, n4, b4⟩, hb4, h⟩ := Option.bind_eq_some_iff.mp h
    obtain ⟨o4, ho4, h⟩ := Option.bind_eq_some_iff.mp h
    cases o4 with
    | some op4 =>
      cases h
      obtain ⟨h1, hs4, h4, g4⟩ := asmLow_some ho4
      simp only at h1
      subst h1
      exact asm_word a0 hs0 h0 t4 n4 hb4 hs4 op4 h4 g4 w
    | none =>
      obtain ⟨⟨t2, n2, b2⟩, hb2, h⟩ := Option.bind_eq_some_iff.mp h
      have hlow := asmLow_none ho4
      clear ho4
      cases b2 with
      | false =>
        cases h
        rcases hlow with h1 | ⟨h1, hs4, h4 | ⟨op4, h4, g4⟩⟩
        · simp only at h1; subst h1; exact asm_nno a0 hs0 h0 t4 n4 hb4 t2 n2 hb2 w
        · simp only at h1; subst h1; exact asm_fno a0 hs0 h0 t4 n4 hb4 hs4 h4 t2 n2 hb2 w
        · simp only at h1; subst h1; exact asm_hno a0 hs0 h0 t4 n4 hb4 hs4 op4 h4 g4 t2 n2 hb2 w
      | true =>
        replace h : (if t2.toList = ([68, 66, 32, 98] : List UInt8) then some ([n2 % 256], (0 : Int)) else (asmLow t2 true).bind fun o2 => match o2 with | some op2 => some ([op2 % 256, n2 % 256], 0) | none => some ([], 6)) = some (r1, r2) := h
        by_cases hd : t2.toList = ([68, 66, 32, 98] : List UInt8)
        · rw [if_pos hd] at h
          cases h
          rcases hlow with h1 | ⟨h1, hs4, h4 | ⟨op4, h4, g4⟩⟩
          · simp only at h1; subst h1; exact asm_ndb a0 hs0 h0 t4 n4 hb4 t2 n2 hb2 hd w
          · simp only at h1; subst h1; exact asm_fdb a0 hs0 h0 t4 n4 hb4 hs4 h4 t2 n2 hb2 hd w
          · simp only at h1; subst h1; exact asm_hdb a0 hs0 h0 t4 n4 hb4 hs4 op4 h4 g4 t2 n2 hb2 hd w
        · rw [if_neg hd] at h
          obtain ⟨o2, ho2, h⟩ := Option.bind_eq_some_iff.mp h
          cases o2 with
          | some op2 =>
            cases h
            obtain ⟨_, hs2, h2, g2⟩ := asmLow_some ho2
            rcases hlow with h1 | ⟨h1, hs4, h4 | ⟨op4, h4, g4⟩⟩
            · simp only at h1; subst h1; exact asm_nbyte a0 hs0 h0 t4 n4 hb4 t2 n2 hb2 hs2 hd op2 h2 g2 w
            · simp only at h1; subst h1; exact asm_fbyte a0 hs0 h0 t4 n4 hb4 hs4 h4 t2 n2 hb2 hs2 hd op2 h2 g2 w
            · simp only at h1; subst h1; exact asm_hbyte a0 hs0 h0 t4 n4 hb4 hs4 op4 h4 g4 t2 n2 hb2 hs2 hd op2 h2 g2 w
          | none =>
            cases h
            rcases asmLow_none ho2 with h9 | ⟨_, hs2, h2 | ⟨op2, h2, g2⟩⟩
            · cases h9
            · rcases hlow with h1 | ⟨h1, hs4, h4 | ⟨op4, h4, g4⟩⟩
              · simp only at h1; subst h1; exact asm_nnone a0 hs0 h0 t4 n4 hb4 t2 n2 hb2 hs2 hd h2 w
              · simp only at h1; subst h1; exact asm_fnone a0 hs0 h0 t4 n4 hb4 hs4 h4 t2 n2 hb2 hs2 hd h2 w
              · simp only at h1; subst h1; exact asm_hnone a0 hs0 h0 t4 n4 hb4 hs4 op4 h4 g4 t2 n2 hb2 hs2 hd h2 w
            · rcases hlow with h1 | ⟨h1, hs4, h4 | ⟨op4, h4, g4⟩⟩
              · simp only at h1; subst h1; exact asm_nhigh a0 hs0 h0 t4 n4 hb4 t2 n2 hb2 hs2 hd op2 h2 g2 w
              · simp only at h1; subst h1; exact asm_fhigh a0 hs0 h0 t4 n4 hb4 hs4 h4 t2 n2 hb2 hs2 hd op2 h2 g2 w
              · simp only at h1; subst h1; exact asm_hhigh a0 hs0 h0 t4 n4 hb4 hs4 op4 h4 g4 t2 n2 hb2 hs2 hd op2 h2 g2 w
end Go.Proofs.YtpjbfpheenamiaaDoor.PF
-- PRINTED by print.py (a twelfth state) out of the translation. Not trusted: Lean checks it.
namespace Go.Proofs.YtpjbfpheenamiaaDoor.PF
open Go.RowKit Go.Proofs.YtpjbfpheenamiaaDoorW.PrintWords Go.Proofs.YtpjbfpheenamiaaDoorW.PrintLast Go.Proofs.YtpjbfpheenamiaaDoorW.PrintMore
attribute [local go_sem] max2_int min2_int max_two min_two max_three min_three max_four min_four   -- for this text's walks alone
set_option linter.unusedVariables false
set_option linter.unusedSimpArgs false

/-! ### whirligigref01_power: function 94 -/
def whirligigref01_power.l0 : Nat → Int → Int → Int → Option (Int)
 | 0, _, _, _ => none
 | k + 1, x0, x3, x4 => if x4 < x0 then (whirligigref01_power.l0 k x0 (wrap64 (x3 * 2)) (wrap64 (x4 + 1))) else (some x3)
def whirligigref01_power.f (k : Nat) (a0 : Int) : Option (Int) := whirligigref01_power.l0 k a0 1 0
theorem whirligigref01_power.mono_l : ∀ k, (∀ y0 y1 y2, LeO (whirligigref01_power.l0 k y0 y1 y2) (whirligigref01_power.l0 (k + 1) y0 y1 y2))
 | 0 => fun _ _ _ r h => by simp [whirligigref01_power.l0] at h
 | k + 1 => by
  have ih0 := whirligigref01_power.mono_l k
  ·intro y0 y1 y2
   unfold whirligigref01_power.l0
   repeat' first
   | (with_reducible exact ih0 _ _ _)
   | (with_reducible exact LeO.refl _)
   | (with_reducible exact LeO.none _)
   | (with_reducible refine LeO.ite ?_ ?_)
   | (with_reducible refine LeO.bind ?_ (fun _ => ?_))
   | exact ih0 _ _ _
   | exact LeO.none _
   | refine LeO.ite ?_ ?_
   | refine LeO.bind ?_ (fun _ => ?_)
theorem whirligigref01_power.mono : ∀ a0 k, LeO (whirligigref01_power.f k a0) (whirligigref01_power.f (k + 1) a0) := by
 intro a0 k
 have ih0 := whirligigref01_power.mono_l k
 unfold whirligigref01_power.f
 repeat' first
   | (with_reducible exact ih0 _ _ _)
   | (with_reducible exact LeO.refl _)
   | (with_reducible exact LeO.none _)
   | (with_reducible refine LeO.ite ?_ ?_)
   | (with_reducible refine LeO.bind ?_ (fun _ => ?_))
   | exact ih0 _ _ _
   | exact LeO.none _
   | refine LeO.ite ?_ ?_
   | refine LeO.bind ?_ (fun _ => ?_)
set_option maxHeartbeats 8000000 in
set_option maxRecDepth 100000 in
theorem whirligigref01_power.calls (k : Nat) (a0 : Int) (r : Int) (w : World) (h : whirligigref01_power.f k a0 = some r) :
  Calls Tryd.prog 94 #[.int .i64 a0] w fun e w' => e = .returned (.int .i64 r) ∧ Drawn0 w w' := by
 have H : (whirligigref01_power.l0 k a0 1 0) = some r := h
 clear h
 have H' := Aside0.mk H
 clear H
 go_enter Tryd.func94, Tryd.ntmps94
 go_wp2
 go_loopg [3, 4] k (fun kq v3 v4 w' => ∃ (x3_1 : Int) (x4_1 : Int), v3 = .int .i64 x3_1 ∧ v4 = .int .i64 x4_1 ∧ Aside0 (whirligigref01_power.l0 kq a0 x3_1 x4_1 = some r) ∧ Aside0 (kq ≤ k) ∧ Drawn0 w w')
 case atStart => exact ⟨(1), (0), (by first | rfl | (simp; done) | (simp [*]; done)), (by first | rfl | (simp; done) | (simp [*]; done)), H', ⟨Nat.le_refl _⟩, by repeat (first | exact Drawn0.refl _ | apply Drawn0.step)⟩
 case round =>
  clear H'
  obtain ⟨x3_1, x4_1, rfl, rfl, HA, HK1, ⟨m1, rfl⟩⟩ := hrel
  cases gk with
  | zero => exact absurd HA.out (by simp [whirligigref01_power.l0])
  | succ k1 =>
   have H := HA.out
   clear HA
   simp only [whirligigref01_power.l0] at H
   by_cases c2 : x4_1 < a0
   ·rw [if_pos c2] at H
    have c2b0 : decide (x4_1 < a0) = true := decide_eq_true c2
    clear c2
    have H' := Aside0.mk H
    clear H
    go_wp2
    go_roundg k1
    case measure => have := HK1.out; omega
    case rel => exact ⟨(wrap64 (x3_1 * 2)), (wrap64 (x4_1 + 1)), (by first | rfl | (simp; done) | (simp [*]; done)), (by first | rfl | (simp; done) | (simp [*]; done)), H', ⟨by have := HK1.out; omega⟩, by repeat (first | exact Drawn0.refl _ | apply Drawn0.step)⟩
   ·rw [if_neg c2] at H
    have c2b0 : decide (x4_1 < a0) = false := decide_eq_false c2
    clear c2
    obtain rfl := Option.some.inj H
    go_wp2
    go_ret
    exact ⟨by first | rfl | (simp; done) | (simp [*]; done), by repeat (first | exact Drawn0.refl _ | apply Drawn0.step)⟩

end Go.Proofs.YtpjbfpheenamiaaDoor.PF
