/- The document's target of bits. -/
import Derived.Test.YtjfllmkihfidcaaEncL
import Derived.Test.YtjfllmkihfidcaaRefW
namespace Go.Proofs.Ytjfllmkihfidcaa
open Go.RowKit
theorem u32_quo {a : Nat} (k : Nat) (h : a < 4294967296) : IntKind.u32.wrap (Int.tdiv (a : Int) (k : Int)) = ((a / k : Nat) : Int) := by
  rw [← Int.ofNat_tdiv]
  have := Nat.div_le_self a k
  generalize a / k = q at *
  rw [in_u32 (by omega)]
theorem nd_up {m j : Nat} (hm : m < 8388608) (hj : j ≤ 252) : ndg (m * 256 ^ j) ≤ 128 := by
  refine ndg_le.2 ?_
  have h1 : 256 ^ j ≤ 256 ^ 252 := Nat.pow_le_pow_right (by decide) hj
  have h2 : m * 256 ^ j ≤ 8388608 * 256 ^ 252 := Nat.mul_le_mul (by omega) h1
  exact Nat.lt_of_le_of_lt h2 (by decide)
theorem nd_mid {v j : Nat} (hv : v < K4) (hj : j ≤ 3) : ndg (v * 256 ^ j) ≤ 18 := by
  refine ndg_le.2 ?_
  have h1 : 256 ^ j ≤ 256 ^ 3 := Nat.pow_le_pow_right (by decide) hj
  have h2 : v * 256 ^ j ≤ (K4 - 1) * 256 ^ 3 := Nat.mul_le_mul (by omega) h1
  exact Nat.lt_of_le_of_lt h2 (by decide)
theorem refOK_of {b V : Nat} (hT : V = refT b) : refOK b = true ↔ ¬ (b / 8388608 % 2 = 1 ∧ 0 < b % 8388608) ∧ 0 < V ∧ V < K4 := by
  subst hT
  simp only [refOK, Bool.and_eq_true, Bool.not_eq_true', Bool.and_eq_false_iff, decide_eq_true_eq, decide_eq_false_iff_not, and_assoc, Decidable.not_and_iff_not_or_not]
theorem mid_eq {t e i j V V2 : Nat} (h1 : i ≤ e) (h2 : i = e ∨ 3 ≤ i) (h3 : i ≤ 3) (hV : V = t / 256 ^ (e - i)) (h4 : e ≤ j) (h5 : j ≤ 3 ∨ j = e) (h6 : 3 ≤ j) (hV2 : V2 = V * 256 ^ (j - e)) : V2 = encM t e := by
  unfold encM
  rw [hV2, hV]
  by_cases h : 3 ≤ e
  · rw [if_pos h, show j - e = 0 by omega, Nat.pow_zero, Nat.mul_one, show e - i = e - 3 by omega, pow256]
  · rw [if_neg h, show e - i = 0 by omega, Nat.pow_zero, Nat.div_one, show j - e = 3 - e by omega, pow256]
theorem Decode6_calls (b : Nat) (hb : b < 4294967296) (w : World) : Calls Try.prog 20 #[.int .u32 (b : Int)] w fun e w' => ∃ A c, e = .returned (.tuple #[(.slice A (ndg (refT b)) c), .bool (refOK b)]) ∧ Hp w [] [.row A (ndg (refT b)) c 22 1 (dg (digs (refT b)))] w' := by
  have hMX : MX = 4611686018427387904 := rfl
  have hK0 : K = 18446744073709551616 := rfl
  have hK40 : K4 = 115792089237316195423570985008687907853269984665640564039457584007913129639936 := rfl
  refine calls_G (args := [.int .u32 (b : Int)]) Try.func20 rfl Try.ntmps20 rfl ?_
  intro Q0 hRet hNor hPan
  have H := Hp.start w
  have H : Hp w [] [] w := H
  refine G.seqK fun K1 hK2 => ?_
  refine G.region ?_
  refine GL.run (j := 2) 2 [0] [(0, .int .u32 (b : Int))] (by kernel_rfl) rfl ?_
  refine GL.k rfl hK2 (fun _ _ h => h) ?_
  refine G.seqK fun K3 hK4 => ?_
  refine G.region ?_
  refine GL.run (j := 8) 8 [0, 4, 5] [(0, .int .u32 (b : Int)), (4, .int .i64 (IntKind.i64.wrap (IntKind.u32.wrap (Int.tdiv (b : Int) 16777216)))), (5, .int .u64 (IntKind.u64.wrap (Int.tmod (b : Int) 8388608)))] (by kernel_rfl) rfl ?_
  have e5 : (IntKind.u32.wrap (Int.tdiv (b : Int) 16777216)) = ((b / 16777216 : Nat) : Int) := u32_quo 16777216 (by omega)
  have e6 : (IntKind.i64.wrap ((b / 16777216 : Nat) : Int)) = ((b / 16777216 : Nat) : Int) := in_i64 (by omega)
  have e7 : (Int.tmod (b : Int) 8388608) = ((b % 8388608 : Nat) : Int) := n_rem _ 8388608
  have e8 : (IntKind.u64.wrap ((b % 8388608 : Nat) : Int)) = ((b % 8388608 : Nat) : Int) := in_u64 (by omega)
  refine GL.eq (M' := [(0, .int .u32 (b : Int)), (4, .int .i64 ((b / 16777216 : Nat) : Int)), (5, .int .u64 ((b % 8388608 : Nat) : Int))]) (by rw [e5, e6, e7, e8]) ?_
  clear e5 e6 e7 e8
  refine GL.k rfl hK4 (fun _ _ h => h) ?_
  refine G.seqK fun K9 hK10 => ?_
  refine G.region ?_
  refine GL.run (j := 1) 1 [0, 4, 5, 14] [(0, .int .u32 (b : Int)), (4, .int .i64 ((b / 16777216 : Nat) : Int)), (5, .int .u64 ((b % 8388608 : Nat) : Int)), (14, .int .u64 ((b % 8388608 : Nat) : Int))] (by kernel_rfl) rfl ?_
  have hN16 : ndg (b % 8388608) ≤ 4 := ndg_K (Nat.lt_trans (Nat.mod_lt _ (by decide : 0 < 8388608)) (by decide))
  refine GL.call (j := 2) (one_calls (b % 8388608) (Nat.lt_trans (Nat.mod_lt _ (by decide : 0 < 8388608)) (by decide)) w) (by kernel_rfl) rfl (fun e_ w15 hR => ?_)
  obtain ⟨A11, c12, rfl, H14⟩ := hR
  have H13 : Hp w [] [.row A11 (ndg (b % 8388608)) c12 22 1 (dg (digs (b % 8388608)))] w15 := H.callNew H14
  refine ⟨_, rfl, [0, 4, 5, 15], [(0, .int .u32 (b : Int)), (4, .int .i64 ((b / 16777216 : Nat) : Int)), (5, .int .u64 ((b % 8388608 : Nat) : Int)), (15, .slice A11 (ndg (b % 8388608)) c12)], by kernel_rfl, ?_⟩
  refine GL.run (j := 3) 1 [0, 4, 5, 6] [(0, .int .u32 (b : Int)), (4, .int .i64 ((b / 16777216 : Nat) : Int)), (5, .int .u64 ((b % 8388608 : Nat) : Int)), (6, .slice A11 (ndg (b % 8388608)) c12)] (by kernel_rfl) rfl ?_
  refine GL.k rfl hK10 (fun _ _ h => h) ?_
  refine G.seqK fun K17 hK18 => ?_
  refine G.block ?_
  refine G.fit [0, 4, 5, 6] (M' := [(0, .int .u32 (b : Int)), (4, .int .i64 ((b / 16777216 : Nat) : Int)), (5, .int .u64 ((b % 8388608 : Nat) : Int)), (6, .slice A11 (ndg (b % 8388608)) c12)]) (by kernel_rfl) ?_
  refine G.eq (M' := [(0, .int .u32 (b : Int)), (4, .int .i64 (((b / 16777216) : Nat) : Int)), (5, .int .u64 ((b % 8388608 : Nat) : Int)), (6, .slice A11 (ndg (b % 8388608)) c12)]) (by rfl) ?_
  refine G.loop (X := Nat × Nat × Option Addr × Nat) (fun ⟨e, V, Z, z⟩ => [(0, .int .u32 (b : Int)), (4, .int .i64 (e : Int)), (5, .int .u64 ((b % 8388608 : Nat) : Int)), (6, .slice Z (ndg V) z)]) (fun ⟨e, V, Z, z⟩ w_ => (e ≤ (b / 16777216) ∧ V = b % 8388608 * 256 ^ ((b / 16777216) - e) ∧ (e = (b / 16777216) ∨ 3 ≤ e)) ∧ Hp w [] [.row Z (ndg V) z 22 1 (dg (digs V))] w_) (fun ⟨e, V, Z, z⟩ => e) ⟨(b / 16777216), (b % 8388608), A11, c12⟩ [0, 4, 5, 6] (by kernel_rfl) ⟨⟨Nat.le_refl _, by rw [Nat.sub_self, Nat.pow_zero, Nat.mul_one], .inl rfl⟩, H13⟩ ?_
  rintro ⟨e, V, Z, z⟩ w19 ⟨hi20, H21⟩
  refine G.eq (M' := [(0, .int .u32 (b : Int)), (4, .int .i64 (e : Int)), (5, .int .u64 ((b % 8388608 : Nat) : Int)), (6, .slice Z (ndg V) z)]) rfl ?_
  have H21 : Hp w [] [.row Z (ndg V) z 22 1 (dg (digs V))] w19 := H21
  obtain ⟨he1, hV, he2⟩ := hi20
  have nV : ndg V ≤ 128 := by rw [hV]; exact nd_up (Nat.mod_lt _ (by decide)) (by omega)
  refine G.seqK fun K22 hK23 => ?_
  refine G.seqK fun K24 hK25 => ?_
  refine G.region ?_
  refine GL.run (j := 2) 2 [0, 4, 5, 6, 17] [(0, .int .u32 (b : Int)), (4, .int .i64 (e : Int)), (5, .int .u64 ((b % 8388608 : Nat) : Int)), (6, .slice Z (ndg V) z), (17, .bool (decide (3 < (e : Int))))] (by kernel_rfl) rfl ?_
  refine GL.k rfl hK25 (fun _ _ h => h) ?_
  cases hb26 : (decide (3 < (e : Int)))
  · skip
    have hb26f := of_decide_eq_false hb26
    refine G.no rfl ?_
    refine G.exitK hK18 (fun _ _ h => h) ?_
    refine G.seqK fun K27 hK28 => ?_
    refine G.block ?_
    refine G.fit [0, 4, 5, 6] (M' := [(0, .int .u32 (b : Int)), (4, .int .i64 (e : Int)), (5, .int .u64 ((b % 8388608 : Nat) : Int)), (6, .slice Z (ndg V) z)]) (by kernel_rfl) ?_
    refine G.loop (X := Nat × Nat × Option Addr × Nat) (fun ⟨f, V2, Z2, z2⟩ => [(0, .int .u32 (b : Int)), (4, .int .i64 (f : Int)), (5, .int .u64 ((b % 8388608 : Nat) : Int)), (6, .slice Z2 (ndg V2) z2)]) (fun ⟨f, V2, Z2, z2⟩ w_ => (e ≤ f ∧ f ≤ 3 ∧ V2 = V / 256 ^ (f - e)) ∧ Hp w [] [.row Z2 (ndg V2) z2 22 1 (dg (digs V2))] w_) (fun ⟨f, V2, Z2, z2⟩ => 3 - f) ⟨e, V, Z, z⟩ [0, 4, 5, 6] (by kernel_rfl) ⟨⟨Nat.le_refl _, by omega, by rw [Nat.sub_self, Nat.pow_zero, Nat.div_one]⟩, H21⟩ ?_
    rintro ⟨f, V2, Z2, z2⟩ w29 ⟨hi30, H31⟩
    refine G.eq (M' := [(0, .int .u32 (b : Int)), (4, .int .i64 (f : Int)), (5, .int .u64 ((b % 8388608 : Nat) : Int)), (6, .slice Z2 (ndg V2) z2)]) rfl ?_
    have H31 : Hp w [] [.row Z2 (ndg V2) z2 22 1 (dg (digs V2))] w29 := H31
    obtain ⟨hf1, hf2, hV2⟩ := hi30
    have nV2 : ndg V2 ≤ 128 := by rw [hV2]; exact ndg_div nV
    refine G.seqK fun K32 hK33 => ?_
    refine G.seqK fun K34 hK35 => ?_
    refine G.region ?_
    refine GL.run (j := 2) 2 [0, 4, 5, 6, 24] [(0, .int .u32 (b : Int)), (4, .int .i64 (f : Int)), (5, .int .u64 ((b % 8388608 : Nat) : Int)), (6, .slice Z2 (ndg V2) z2), (24, .bool (decide ((f : Int) < 3)))] (by kernel_rfl) rfl ?_
    refine GL.k rfl hK35 (fun _ _ h => h) ?_
    cases hb36 : (decide ((f : Int) < 3))
    · skip
      have hb36f := of_decide_eq_false hb36
      refine G.no rfl ?_
      refine G.exitK hK28 (fun _ _ h => h) ?_
      refine G.seqK fun K37 hK38 => ?_
      refine G.region ?_
      refine GL.run (j := 5) 5 [5, 6, 37] [(5, .int .u64 ((b % 8388608 : Nat) : Int)), (6, .slice Z2 (ndg V2) z2), (37, .bool ((Int.tmod (IntKind.u32.wrap (Int.tdiv (b : Int) 8388608)) 2) == 1))] (by kernel_rfl) rfl ?_
      have e39 : (IntKind.u32.wrap (Int.tdiv (b : Int) 8388608)) = ((b / 8388608 : Nat) : Int) := u32_quo 8388608 (by omega)
      have e40 : (Int.tmod ((b / 8388608 : Nat) : Int) 2) = (((b / 8388608) % 2 : Nat) : Int) := n_rem _ 2
      refine GL.eq (M' := [(5, .int .u64 ((b % 8388608 : Nat) : Int)), (6, .slice Z2 (ndg V2) z2), (37, .bool ((((b / 8388608) % 2 : Nat) : Int) == 1))]) (by rw [e39, e40]) ?_
      clear e39 e40
      cases hb41 : ((((b / 8388608) % 2 : Nat) : Int) == 1)
      · skip
        have hb41f := ne_of_beq_false hb41
        refine GL.run (j := 9) 4 [6, 7] [(6, .slice Z2 (ndg V2) z2), (7, .bool false)] (by kernel_rfl) rfl ?_
        refine GL.k rfl hK38 (fun _ _ h => h) ?_
        refine G.seqK fun K42 hK43 => ?_
        refine G.region ?_
        refine GL.run (j := 9) 9 [6, 41, 49] [(6, .slice Z2 (ndg V2) z2), (41, .slice Z2 (ndg V2) z2), (49, .bool (decide (0 < (((ndg V2) : Nat) : Int))))] (by kernel_rfl) rfl ?_
        cases hb44 : (decide (0 < (((ndg V2) : Nat) : Int)))
        · skip
          have hb44f := of_decide_eq_false hb44
          refine GL.run (j := 15) 6 [2, 3] [(2, .slice Z2 (ndg V2) z2), (3, .bool false)] (by kernel_rfl) rfl ?_
          refine GL.k rfl hK43 (fun _ _ h => h) ?_
          refine G.ret ?_
          intro F_ hF_ hM_
          refine hRet _ _ (bodyPost_2 rfl (RV.tmp rfl) (RV.tmp rfl) ?_ F_ hF_ hM_)
          have hT : V2 = refT b := by
            unfold refT
            rw [hV2, hV]
            split
            · rw [show f - e = 0 by omega, Nat.pow_zero, Nat.div_one, show e = 3 by omega]
            · rw [show (b / 16777216) - e = 0 by omega, Nat.pow_zero, Nat.mul_one, show f - e = 3 - (b / 16777216) by omega]
          have h16 := @ndg_le V2 16
          rw [show 65536 ^ 16 = K4 by decide] at h16
          have hp := @ndg_pos V2
          have hO := refOK_of hT
          have e0 : false = refOK b := (Bool.eq_false_iff.2 fun h => by have := hO.1 h; omega).symm
          rw [e0]
          have HF := H31
          rw [hT] at HF
          rw [hT]
          exact ⟨_, _, rfl, HF⟩
        · skip
          have hb44f := of_decide_eq_true hb44
          refine GL.run (j := 15) 6 [2, 3] [(2, .slice Z2 (ndg V2) z2), (3, .bool (decide ((((ndg V2) : Nat) : Int) ≤ 16)))] (by kernel_rfl) rfl ?_
          refine GL.k rfl hK43 (fun _ _ h => h) ?_
          refine G.ret ?_
          intro F_ hF_ hM_
          refine hRet _ _ (bodyPost_2 rfl (RV.tmp rfl) (RV.tmp rfl) ?_ F_ hF_ hM_)
          have hT : V2 = refT b := by
            unfold refT
            rw [hV2, hV]
            split
            · rw [show f - e = 0 by omega, Nat.pow_zero, Nat.div_one, show e = 3 by omega]
            · rw [show (b / 16777216) - e = 0 by omega, Nat.pow_zero, Nat.mul_one, show f - e = 3 - (b / 16777216) by omega]
          have h16 := @ndg_le V2 16
          rw [show 65536 ^ 16 = K4 by decide] at h16
          have hp := @ndg_pos V2
          have hO := refOK_of hT
          have e0 : ((decide ((((ndg V2) : Nat) : Int) ≤ 16)) : Bool) = refOK b := by rw [Bool.eq_iff_iff, hO, decide_eq_true_eq]; omega
          rw [e0]
          have HF := H31
          rw [hT] at HF
          rw [hT]
          exact ⟨_, _, rfl, HF⟩
      · skip
        have hb41f := eq_of_beq hb41
        refine GL.run (j := 9) 4 [6, 7] [(6, .slice Z2 (ndg V2) z2), (7, .bool (decide (0 < ((b % 8388608 : Nat) : Int))))] (by kernel_rfl) rfl ?_
        refine GL.k rfl hK38 (fun _ _ h => h) ?_
        refine G.seqK fun K45 hK46 => ?_
        refine G.region ?_
        refine GL.run (j := 4) 4 [6, 41, 44] [(6, .slice Z2 (ndg V2) z2), (41, .slice Z2 (ndg V2) z2), (44, .bool (!(decide (0 < ((b % 8388608 : Nat) : Int)))))] (by kernel_rfl) rfl ?_
        cases hb47 : (decide (0 < ((b % 8388608 : Nat) : Int)))
        · skip
          have hb47f := of_decide_eq_false hb47
          refine GL.run (j := 9) 5 [6, 41, 49] [(6, .slice Z2 (ndg V2) z2), (41, .slice Z2 (ndg V2) z2), (49, .bool (decide (0 < (((ndg V2) : Nat) : Int))))] (by kernel_rfl) rfl ?_
          cases hb48 : (decide (0 < (((ndg V2) : Nat) : Int)))
          · skip
            have hb48f := of_decide_eq_false hb48
            refine GL.run (j := 15) 6 [2, 3] [(2, .slice Z2 (ndg V2) z2), (3, .bool false)] (by kernel_rfl) rfl ?_
            refine GL.k rfl hK46 (fun _ _ h => h) ?_
            refine G.ret ?_
            intro F_ hF_ hM_
            refine hRet _ _ (bodyPost_2 rfl (RV.tmp rfl) (RV.tmp rfl) ?_ F_ hF_ hM_)
            have hT : V2 = refT b := by
              unfold refT
              rw [hV2, hV]
              split
              · rw [show f - e = 0 by omega, Nat.pow_zero, Nat.div_one, show e = 3 by omega]
              · rw [show (b / 16777216) - e = 0 by omega, Nat.pow_zero, Nat.mul_one, show f - e = 3 - (b / 16777216) by omega]
            have h16 := @ndg_le V2 16
            rw [show 65536 ^ 16 = K4 by decide] at h16
            have hp := @ndg_pos V2
            have hO := refOK_of hT
            have e0 : false = refOK b := (Bool.eq_false_iff.2 fun h => by have := hO.1 h; omega).symm
            rw [e0]
            have HF := H31
            rw [hT] at HF
            rw [hT]
            exact ⟨_, _, rfl, HF⟩
          · skip
            have hb48f := of_decide_eq_true hb48
            refine GL.run (j := 15) 6 [2, 3] [(2, .slice Z2 (ndg V2) z2), (3, .bool (decide ((((ndg V2) : Nat) : Int) ≤ 16)))] (by kernel_rfl) rfl ?_
            refine GL.k rfl hK46 (fun _ _ h => h) ?_
            refine G.ret ?_
            intro F_ hF_ hM_
            refine hRet _ _ (bodyPost_2 rfl (RV.tmp rfl) (RV.tmp rfl) ?_ F_ hF_ hM_)
            have hT : V2 = refT b := by
              unfold refT
              rw [hV2, hV]
              split
              · rw [show f - e = 0 by omega, Nat.pow_zero, Nat.div_one, show e = 3 by omega]
              · rw [show (b / 16777216) - e = 0 by omega, Nat.pow_zero, Nat.mul_one, show f - e = 3 - (b / 16777216) by omega]
            have h16 := @ndg_le V2 16
            rw [show 65536 ^ 16 = K4 by decide] at h16
            have hp := @ndg_pos V2
            have hO := refOK_of hT
            have e0 : ((decide ((((ndg V2) : Nat) : Int) ≤ 16)) : Bool) = refOK b := by rw [Bool.eq_iff_iff, hO, decide_eq_true_eq]; omega
            rw [e0]
            have HF := H31
            rw [hT] at HF
            rw [hT]
            exact ⟨_, _, rfl, HF⟩
        · skip
          have hb47f := of_decide_eq_true hb47
          refine GL.run (j := 15) 11 [2, 3] [(2, .slice Z2 (ndg V2) z2), (3, .bool false)] (by kernel_rfl) rfl ?_
          refine GL.k rfl hK46 (fun _ _ h => h) ?_
          refine G.ret ?_
          intro F_ hF_ hM_
          refine hRet _ _ (bodyPost_2 rfl (RV.tmp rfl) (RV.tmp rfl) ?_ F_ hF_ hM_)
          have hT : V2 = refT b := by
            unfold refT
            rw [hV2, hV]
            split
            · rw [show f - e = 0 by omega, Nat.pow_zero, Nat.div_one, show e = 3 by omega]
            · rw [show (b / 16777216) - e = 0 by omega, Nat.pow_zero, Nat.mul_one, show f - e = 3 - (b / 16777216) by omega]
          have h16 := @ndg_le V2 16
          rw [show 65536 ^ 16 = K4 by decide] at h16
          have hp := @ndg_pos V2
          have hO := refOK_of hT
          have e0 : false = refOK b := (Bool.eq_false_iff.2 fun h => by have := hO.1 h; omega).symm
          rw [e0]
          have HF := H31
          rw [hT] at HF
          rw [hT]
          exact ⟨_, _, rfl, HF⟩
    · skip
      have hb36f := of_decide_eq_true hb36
      refine G.yes rfl ?_
      refine G.skipK hK33 (fun _ _ h => h) ?_
      refine G.seqK fun K49 hK50 => ?_
      refine G.block ?_
      refine G.region ?_
      refine GL.run (j := 1) 1 [0, 4, 5, 28] [(0, .int .u32 (b : Int)), (4, .int .i64 (f : Int)), (5, .int .u64 ((b % 8388608 : Nat) : Int)), (28, .slice Z2 (ndg V2) z2)] (by kernel_rfl) rfl ?_
      have hN56 : ndg 256 ≤ 4 := ndg_K (by decide)
      refine GL.call (j := 2) (one_calls 256 (by decide) w29) (by kernel_rfl) rfl (fun e_ w55 hR => ?_)
      obtain ⟨A51, c52, rfl, H54⟩ := hR
      have H53 : Hp w [] [.row Z2 (ndg V2) z2 22 1 (dg (digs V2)), .row A51 (ndg 256) c52 22 1 (dg (digs 256))] w55 := H31.callNew H54
      refine ⟨_, rfl, [0, 4, 5, 28, 29], [(0, .int .u32 (b : Int)), (4, .int .i64 (f : Int)), (5, .int .u64 ((b % 8388608 : Nat) : Int)), (28, .slice Z2 (ndg V2) z2), (29, .slice A51 (ndg 256) c52)], by kernel_rfl, ?_⟩
      have hN64 : ndg (V2 / 256) ≤ 128 := ndg_div nV2
      have hN65 : ndg (V2 % 256) ≤ 128 := ndg_mod nV2
      refine GL.call (j := 3) (DivN_calls V2 256 Z2 z2 A51 c52 w55 (H53.rdRow 0 rfl) (H53.rdRow 1 rfl) (Nat.le_trans nV2 (by decide)) (Nat.le_trans hN56 (by decide)) (by decide)) (by kernel_rfl) rfl (fun e_ w63 hR => ?_)
      obtain ⟨A57, c58, A59, c60, rfl, H62⟩ := hR
      have H61 : Hp w [] [.row Z2 (ndg V2) z2 22 1 (dg (digs V2)), .row A51 (ndg 256) c52 22 1 (dg (digs 256)), .row A59 (ndg (V2 % 256)) c60 22 1 (dg (digs (V2 % 256))), .row A57 (ndg (V2 / 256)) c58 22 1 (dg (digs (V2 / 256)))] w63 := H53.callNew H62
      refine ⟨_, rfl, [0, 4, 5, 30], [(0, .int .u32 (b : Int)), (4, .int .i64 (f : Int)), (5, .int .u64 ((b % 8388608 : Nat) : Int)), (30, .tuple #[.slice A57 (ndg (V2 / 256)) c58, .slice A59 (ndg (V2 % 256)) c60])], by kernel_rfl, ?_⟩
      refine GL.run (j := 7) 4 [0, 4, 5, 6] [(0, .int .u32 (b : Int)), (4, .int .i64 (f : Int)), (5, .int .u64 ((b % 8388608 : Nat) : Int)), (6, .slice A57 (ndg (V2 / 256)) c58)] (by kernel_rfl) rfl ?_
      refine GL.k rfl hK50 (fun _ _ h => h) ?_
      refine G.region ?_
      refine GL.run (j := 3) 3 [0, 4, 5, 6] [(0, .int .u32 (b : Int)), (4, .int .i64 (IntKind.i64.wrap ((f : Int) + 1))), (5, .int .u64 ((b % 8388608 : Nat) : Int)), (6, .slice A57 (ndg (V2 / 256)) c58)] (by kernel_rfl) rfl ?_
      have e66 : (IntKind.i64.wrap ((f : Int) + 1)) = ((f + 1 : Nat) : Int) := by rw [in_i64 (by omega)]; omega
      refine GL.eq (M' := [(0, .int .u32 (b : Int)), (4, .int .i64 ((f + 1 : Nat) : Int)), (5, .int .u64 ((b % 8388608 : Nat) : Int)), (6, .slice A57 (ndg (V2 / 256)) c58)]) (by rw [e66]) ?_
      clear e66
      have H67 : Hp w [] [.row A57 (ndg (V2 / 256)) c58 22 1 (dg (digs (V2 / 256)))] w63 := H61.sub (List.Sublist.cons _ (List.Sublist.cons _ (List.Sublist.cons _ (List.Sublist.cons_cons _ (List.Sublist.slnil)))))
      refine GL.fit (ts := [0, 4, 5, 6]) (M' := [(0, .int .u32 (b : Int)), (4, .int .i64 ((f + 1 : Nat) : Int)), (5, .int .u64 ((b % 8388608 : Nat) : Int)), (6, .slice A57 (ndg (V2 / 256)) c58)]) (by kernel_rfl) ?_
      refine GL.eq (M' := [(0, .int .u32 (b : Int)), (4, .int .i64 (((f + 1) : Nat) : Int)), (5, .int .u64 ((b % 8388608 : Nat) : Int)), (6, .slice A57 (ndg (V2 / 256)) c58)]) (by rfl) ?_
      exact GL.again ⟨(f + 1), (V2 / 256), A57, c58⟩ [0, 4, 5, 6] rfl (by kernel_rfl) (by show 3 - (f + 1) < 3 - f; omega) ⟨⟨by omega, by omega, by rw [hV2, show f + 1 - e = (f - e) + 1 by omega, Nat.pow_succ, Nat.div_div_eq_div_mul]⟩, H67⟩
  · skip
    have hb26f := of_decide_eq_true hb26
    refine G.yes rfl ?_
    refine G.skipK hK23 (fun _ _ h => h) ?_
    refine G.seqK fun K68 hK69 => ?_
    refine G.block ?_
    refine G.region ?_
    refine GL.run (j := 1) 1 [0, 4, 5, 20] [(0, .int .u32 (b : Int)), (4, .int .i64 (e : Int)), (5, .int .u64 ((b % 8388608 : Nat) : Int)), (20, .slice Z (ndg V) z)] (by kernel_rfl) rfl ?_
    have hN75 : ndg 256 ≤ 4 := ndg_K (by decide)
    refine GL.call (j := 2) (one_calls 256 (by decide) w19) (by kernel_rfl) rfl (fun e_ w74 hR => ?_)
    obtain ⟨A70, c71, rfl, H73⟩ := hR
    have H72 : Hp w [] [.row Z (ndg V) z 22 1 (dg (digs V)), .row A70 (ndg 256) c71 22 1 (dg (digs 256))] w74 := H21.callNew H73
    refine ⟨_, rfl, [0, 4, 5, 20, 21], [(0, .int .u32 (b : Int)), (4, .int .i64 (e : Int)), (5, .int .u64 ((b % 8388608 : Nat) : Int)), (20, .slice Z (ndg V) z), (21, .slice A70 (ndg 256) c71)], by kernel_rfl, ?_⟩
    have hN81 : ndg (V * 256) ≤ 132 := ndg_mul nV hN75
    refine GL.call (j := 3) (MulN_calls V 256 Z z A70 c71 w74 (H72.rdRow 0 rfl) (H72.rdRow 1 rfl) (Nat.le_trans nV (by decide)) (Nat.le_trans hN75 (by decide))) (by kernel_rfl) rfl (fun e_ w80 hR => ?_)
    obtain ⟨A76, c77, rfl, H79⟩ := hR
    have H78 : Hp w [] [.row Z (ndg V) z 22 1 (dg (digs V)), .row A70 (ndg 256) c71 22 1 (dg (digs 256)), .row A76 (ndg (V * 256)) c77 22 1 (dg (digs (V * 256)))] w80 := H72.callNew H79
    refine ⟨_, rfl, [0, 4, 5, 22], [(0, .int .u32 (b : Int)), (4, .int .i64 (e : Int)), (5, .int .u64 ((b % 8388608 : Nat) : Int)), (22, .slice A76 (ndg (V * 256)) c77)], by kernel_rfl, ?_⟩
    refine GL.run (j := 4) 1 [0, 4, 5, 6] [(0, .int .u32 (b : Int)), (4, .int .i64 (e : Int)), (5, .int .u64 ((b % 8388608 : Nat) : Int)), (6, .slice A76 (ndg (V * 256)) c77)] (by kernel_rfl) rfl ?_
    refine GL.k rfl hK69 (fun _ _ h => h) ?_
    refine G.region ?_
    refine GL.run (j := 3) 3 [0, 4, 5, 6] [(0, .int .u32 (b : Int)), (4, .int .i64 (IntKind.i64.wrap ((e : Int) - 1))), (5, .int .u64 ((b % 8388608 : Nat) : Int)), (6, .slice A76 (ndg (V * 256)) c77)] (by kernel_rfl) rfl ?_
    have e82 : (IntKind.i64.wrap ((e : Int) - 1)) = ((e - 1 : Nat) : Int) := by rw [in_i64 (by omega)]; omega
    refine GL.eq (M' := [(0, .int .u32 (b : Int)), (4, .int .i64 ((e - 1 : Nat) : Int)), (5, .int .u64 ((b % 8388608 : Nat) : Int)), (6, .slice A76 (ndg (V * 256)) c77)]) (by rw [e82]) ?_
    clear e82
    have H83 : Hp w [] [.row A76 (ndg (V * 256)) c77 22 1 (dg (digs (V * 256)))] w80 := H78.sub (List.Sublist.cons _ (List.Sublist.cons _ (List.Sublist.cons_cons _ (List.Sublist.slnil))))
    refine GL.fit (ts := [0, 4, 5, 6]) (M' := [(0, .int .u32 (b : Int)), (4, .int .i64 ((e - 1 : Nat) : Int)), (5, .int .u64 ((b % 8388608 : Nat) : Int)), (6, .slice A76 (ndg (V * 256)) c77)]) (by kernel_rfl) ?_
    refine GL.eq (M' := [(0, .int .u32 (b : Int)), (4, .int .i64 (((e - 1) : Nat) : Int)), (5, .int .u64 ((b % 8388608 : Nat) : Int)), (6, .slice A76 (ndg (V * 256)) c77)]) (by rfl) ?_
    exact GL.again ⟨(e - 1), (V * 256), A76, c77⟩ [0, 4, 5, 6] rfl (by kernel_rfl) (by show (e - 1) < e; omega) ⟨⟨by omega, by rw [hV, show (b / 16777216) - (e - 1) = ((b / 16777216) - e) + 1 by omega, Nat.pow_succ, Nat.mul_assoc], .inr (by omega)⟩, H83⟩
end Go.Proofs.Ytjfllmkihfidcaa
