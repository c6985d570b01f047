/- The contract of target's Encode. -/
import Derived.Test.YtjfllmkihfidcaaEncL
import Derived.Test.YtjfllmkihfidcaaWideRi
namespace Go.Proofs.Ytjfllmkihfidcaa
open Go.RowKit
theorem and_bit23 {m : Nat} (hm : m < 16777216) : Go.bits .and .u64 (m : Int) 8388608 = ((m / 8388608 * 8388608 : Nat) : Int) := by
  rw [show (8388608 : Int) = ((8388608 : Nat) : Int) from rfl, n_and (Nat.lt_trans hm (by decide)) (by decide)]
  congr 1
  have h2 : m / 8388608 < 2 := by omega
  rw [show (8388608 : Nat) = 2 ^ 23 from rfl] at *
  refine Nat.eq_of_testBit_eq (fun j => ?_)
  rw [Nat.testBit_and, Nat.testBit_two_pow]
  have hb23 : Nat.testBit m 23 = decide (m / 2 ^ 23 % 2 = 1) := Nat.testBit_eq_decide_div_mod_eq
  rcases (show m / 2 ^ 23 = 0 ∨ m / 2 ^ 23 = 1 by omega) with h3 | h3
  · rw [h3, Nat.zero_mul, Nat.zero_testBit]
    by_cases hj : 23 = j
    · subst hj
      rw [hb23, h3]
      rfl
    · rw [decide_eq_false hj, Bool.and_false]
  · rw [h3, Nat.one_mul, Nat.testBit_two_pow]
    by_cases hj : 23 = j
    · subst hj
      rw [hb23, h3]
      rfl
    · rw [decide_eq_false hj, Bool.and_false]
theorem shl24 {e : Nat} (he : e < 256) : IntKind.u32.wrap ((e : Int) * 2 ^ 24) = ((e * 16777216 : Nat) : Int) := by
  rw [in_u32 (by omega)]
  omega
theorem or_top {m e : Nat} (hm : m < 16777216) (he : e < 256) : Go.bits .or .u32 (m : Int) ((e * 16777216 : Nat) : Int) = ((m + e * 16777216 : Nat) : Int) := by
  have h := (bits_nat .u32 32 (by decide) (fun n h0 h1 => by rw [IntKind.wrap_u32]; omega) m (e * 16777216) (by omega) (by omega)).2
  rw [h, Nat.or_comm, Nat.mul_comm, show (16777216 : Nat) = 2 ^ 24 from rfl, ← Nat.two_pow_add_eq_or_of_lt (i := 24) (by omega), Nat.add_comm]
theorem enc_big {t : Nat} (h : 3 ≤ (bl t + 7) / 8) : encM t (encE t) = t / 2 ^ (8 * ((bl t + 7) / 8 - 3)) := if_pos h
theorem enc_small {t : Nat} (h : ¬ 3 ≤ (bl t + 7) / 8) : encM t (encE t) = t * 2 ^ (8 * (3 - (bl t + 7) / 8)) % K4 := by
  have h1 : encM t (encE t) = t * 2 ^ (8 * (3 - (bl t + 7) / 8)) := if_neg h
  have h2 := encM_lt t
  rw [← h1, Nat.mod_eq_of_lt (Nat.lt_trans h2 (by decide))]
theorem Uint_enc (x m : Nat) (h : m = x) (hm : m < 16777216) (w : World) : Calls Try.prog 39 #[wv x] w fun e w' => e = .returned (.tuple #[.int .u64 (m : Int), .bool true]) ∧ Hp w [] [] w' := by
  subst h
  have h2 : m < K := Nat.lt_trans hm (by decide)
  have h3 := Uint_calls m (Nat.lt_trans hm (by decide)) w
  rwa [show oneW m = m from if_pos h2, decide_eq_true h2] at h3
theorem Encode_big (t : Nat) (ht : t < K4) (hX : 3 ≤ (bl t + 7) / 8) (w : World) : Calls Try.prog 21 #[wv t] w fun e w' => e = .returned (.int .u32 ((encV t : Nat) : Int)) ∧ Hp w [] [] w' := by
  have hMX : MX = 4611686018427387904 := rfl
  have hK0 : K = 18446744073709551616 := rfl
  have hK40 : K4 = 115792089237316195423570985008687907853269984665640564039457584007913129639936 := rfl
  have hbl : bl t ≤ 256 := bl_le (by rw [show 2 ^ 256 = K4 by decide]; exact ht)
  obtain ⟨m, hm⟩ : ∃ m, m = encM t (encE t) := ⟨_, rfl⟩
  have hm24 : m < 16777216 := by rw [hm]; exact encM_lt t
  refine calls_G (args := [wv t]) Try.func21 rfl Try.ntmps21 rfl ?_
  intro Q0 hRet hNor hPan
  have H := Hp.start w
  have H : Hp w [] [] w := H
  refine G.seqK fun K1 hK2 => ?_
  refine G.region ?_
  obtain ⟨p3, w4, r5, H6⟩ := H.box (P := Try.prog) 24 (wl t) (wv t) rfl
  have H6 : Hp w [] [.blk p3 (wl t) 24] w4 := H6
  refine GL.sem (j := 1) (r5) [1] [(1, pt p3 0)] (by kernel_rfl) (by kernel_rfl) rfl ?_
  refine GL.run (j := 2) 1 [1] [(1, pt p3 0)] (by kernel_rfl) rfl ?_
  refine GL.k rfl hK2 (fun _ _ h => h) ?_
  refine G.seqK fun K7 hK8 => ?_
  refine G.region ?_
  refine GL.sem (j := 1) (H6.ldA (o := 0) (ty := 24) (m := 4) (sub := (wl t)) 0 rfl (by kernel_rfl) rfl rfl) [1, 6] [(1, pt p3 0), (6, wv t)] (by kernel_rfl) (by kernel_rfl) rfl ?_
  refine GL.call (j := 2) (Bits_calls t ht w4) (by kernel_rfl) rfl (fun e_ w9 hR => ?_)
  obtain ⟨he_, H11⟩ := hR
  subst he_
  have H10 : Hp w [] [.blk p3 (wl t) 24] w9 := H6.callNil H11
  refine ⟨_, rfl, [1, 7], [(1, pt p3 0), (7, .int .i64 ((bl t : Nat) : Int))], by kernel_rfl, ?_⟩
  refine GL.run (j := 5) 3 [1, 3] [(1, pt p3 0), (3, .int .i64 (IntKind.i64.wrap (Int.tdiv (IntKind.i64.wrap (((bl t : Nat) : Int) + 7)) 8)))] (by kernel_rfl) rfl ?_
  have e12 : (IntKind.i64.wrap (((bl t : Nat) : Int) + 7)) = (((bl t) + 7 : Nat) : Int) := by rw [in_i64 (by omega)]; omega
  have e13 : (IntKind.i64.wrap (Int.tdiv (((bl t) + 7 : Nat) : Int) 8)) = (((bl t + 7) / 8 : Nat) : Int) := i_quo 8 (by omega)
  refine GL.eq (M' := [(1, pt p3 0), (3, .int .i64 (((bl t + 7) / 8 : Nat) : Int))]) (by rw [e12, e13]) ?_
  clear e12 e13
  refine GL.k rfl hK8 (fun _ _ h => h) ?_
  refine G.seqK fun K14 hK15 => ?_
  refine G.region ?_
  refine GL.sem (j := 1) (H10.ldA (o := 0) (ty := 24) (m := 4) (sub := (wl t)) 0 rfl (by kernel_rfl) rfl rfl) [3, 11] [(3, .int .i64 (((bl t + 7) / 8 : Nat) : Int)), (11, wv t)] (by kernel_rfl) (by kernel_rfl) rfl ?_
  refine GL.run (j := 4) 3 [3, 11, 14] [(3, .int .i64 (((bl t + 7) / 8 : Nat) : Int)), (11, wv t), (14, .int .i64 (IntKind.i64.wrap (8 * (IntKind.i64.wrap ((((bl t + 7) / 8 : Nat) : Int) - 3)))))] (by kernel_rfl) rfl ?_
  have e16 : (IntKind.i64.wrap ((((bl t + 7) / 8 : Nat) : Int) - 3)) = (((bl t + 7) / 8 - 3 : Nat) : Int) := by rw [in_i64 (by omega)]; omega
  have e17 : (IntKind.i64.wrap (8 * (((bl t + 7) / 8 - 3 : Nat) : Int))) = ((8 * ((bl t + 7) / 8 - 3) : Nat) : Int) := by rw [in_i64 (by omega)]; omega
  refine GL.eq (M' := [(3, .int .i64 (((bl t + 7) / 8 : Nat) : Int)), (11, wv t), (14, .int .i64 ((8 * ((bl t + 7) / 8 - 3) : Nat) : Int))]) (by rw [e16, e17]) ?_
  clear e16 e17
  refine GL.call (j := 5) (Right_calls t (8 * ((bl t + 7) / 8 - 3)) ht w9) (by kernel_rfl) rfl (fun e_ w18 hR => ?_)
  obtain ⟨rfl, H20⟩ := hR
  have H19 : Hp w [] [.blk p3 (wl t) 24] w18 := H10.callNil H20
  refine ⟨_, rfl, [3, 15], [(3, .int .i64 (((bl t + 7) / 8 : Nat) : Int)), (15, wv (t / 2 ^ (8 * ((bl t + 7) / 8 - 3))))], by kernel_rfl, ?_⟩
  refine GL.call (j := 6) (Uint_enc (t / 2 ^ (8 * ((bl t + 7) / 8 - 3))) m (by rw [hm]; exact enc_big hX) hm24 w18) (by kernel_rfl) rfl (fun e_ w21 hR => ?_)
  obtain ⟨rfl, H23⟩ := hR
  have H22 : Hp w [] [.blk p3 (wl t) 24] w21 := H19.callNil H23
  refine ⟨_, rfl, [3, 16], [(3, .int .i64 (((bl t + 7) / 8 : Nat) : Int)), (16, .tuple #[.int .u64 (m : Int), .bool true])], by kernel_rfl, ?_⟩
  refine GL.run (j := 11) 5 [3, 4] [(3, .int .i64 (((bl t + 7) / 8 : Nat) : Int)), (4, .int .u64 (m : Int))] (by kernel_rfl) rfl ?_
  refine GL.k rfl hK15 (fun _ _ h => h) ?_
  refine G.seqK fun K24 hK25 => ?_
  refine G.seqK fun K26 hK27 => ?_
  refine G.region ?_
  refine GL.run (j := 3) 3 [3, 4, 21] [(3, .int .i64 (((bl t + 7) / 8 : Nat) : Int)), (4, .int .u64 (m : Int)), (21, .bool ((Go.bits .and .u64 (m : Int) 8388608) != 0))] (by kernel_rfl) rfl ?_
  have e28 : (Go.bits .and .u64 (m : Int) 8388608) = ((m / 8388608 * 8388608 : Nat) : Int) := and_bit23 hm24
  refine GL.eq (M' := [(3, .int .i64 (((bl t + 7) / 8 : Nat) : Int)), (4, .int .u64 (m : Int)), (21, .bool (((m / 8388608 * 8388608 : Nat) : Int) != 0))]) (by rw [e28]) ?_
  clear e28
  refine GL.k rfl hK27 (fun _ _ h => h) ?_
  cases hb29 : (((m / 8388608 * 8388608 : Nat) : Int) != 0)
  · skip
    have hb29f : ((m / 8388608 * 8388608 : Nat) : Int) = 0 := bne_eq_false_iff_eq.1 hb29
    refine G.no rfl ?_
    refine G.skipK hK25 (fun _ _ h => h) ?_
    refine G.seqK fun K30 hK31 => ?_
    refine G.region ?_
    refine GL.run (j := 7) 7 [2] [(2, .int .u32 (Go.bits .or .u32 (IntKind.u32.wrap (m : Int)) (IntKind.u32.wrap ((IntKind.u32.wrap (((bl t + 7) / 8 : Nat) : Int)) * 2 ^ 24))))] (by kernel_rfl) rfl ?_
    have e32 : (IntKind.u32.wrap (m : Int)) = (m : Int) := in_u32 (by omega)
    have e33 : (IntKind.u32.wrap (((bl t + 7) / 8 : Nat) : Int)) = (((bl t + 7) / 8 : Nat) : Int) := in_u32 (by omega)
    have e34 : (IntKind.u32.wrap ((((bl t + 7) / 8 : Nat) : Int) * 2 ^ 24)) = ((((bl t + 7) / 8) * 16777216 : Nat) : Int) := shl24 (by omega)
    have e35 : (Go.bits .or .u32 (m : Int) ((((bl t + 7) / 8) * 16777216 : Nat) : Int)) = ((m + ((bl t + 7) / 8) * 16777216 : Nat) : Int) := or_top (by omega) (by omega)
    refine GL.eq (M' := [(2, .int .u32 ((m + ((bl t + 7) / 8) * 16777216 : Nat) : Int))]) (by rw [e32, e33, e34, e35]) ?_
    clear e32 e33 e34 e35
    refine GL.k rfl hK31 (fun _ _ h => h) ?_
    refine G.ret ?_
    intro F_ hF_ hM_
    refine hRet _ _ (bodyPost_1 rfl (RV.tmp rfl) ?_ F_ hF_ hM_)
    have e0 : (((m + ((bl t + 7) / 8) * 16777216 : Nat) : Int) : Int) = ((encV t : Nat) : Int) := by
      rw [encV_eq, ← hm, show encE t = (bl t + 7) / 8 from rfl]
      split <;> omega
    rw [e0]
    exact ⟨rfl, H22.sub (List.nil_sublist _)⟩
  · skip
    have hb29f : ((m / 8388608 * 8388608 : Nat) : Int) ≠ 0 := bne_iff_ne.1 hb29
    refine G.yes rfl ?_
    refine G.seqK fun K36 hK37 => ?_
    refine G.region ?_
    refine GL.run (j := 3) 3 [3, 4] [(3, .int .i64 (((bl t + 7) / 8 : Nat) : Int)), (4, .int .u64 (Int.fdiv (m : Int) (2 ^ 8)))] (by kernel_rfl) rfl ?_
    have e38 : (Int.fdiv (m : Int) (2 ^ 8)) = ((m / 256 : Nat) : Int) := n_shr m 8
    refine GL.eq (M' := [(3, .int .i64 (((bl t + 7) / 8 : Nat) : Int)), (4, .int .u64 ((m / 256 : Nat) : Int))]) (by rw [e38]) ?_
    clear e38
    refine GL.k rfl hK37 (fun _ _ h => h) ?_
    refine G.region ?_
    refine GL.run (j := 3) 3 [3, 4] [(3, .int .i64 (IntKind.i64.wrap ((((bl t + 7) / 8 : Nat) : Int) + 1))), (4, .int .u64 ((m / 256 : Nat) : Int))] (by kernel_rfl) rfl ?_
    have e39 : (IntKind.i64.wrap ((((bl t + 7) / 8 : Nat) : Int) + 1)) = ((((bl t + 7) / 8) + 1 : Nat) : Int) := by rw [in_i64 (by omega)]; omega
    refine GL.eq (M' := [(3, .int .i64 ((((bl t + 7) / 8) + 1 : Nat) : Int)), (4, .int .u64 ((m / 256 : Nat) : Int))]) (by rw [e39]) ?_
    clear e39
    refine GL.k rfl hK25 (fun _ _ h => h) ?_
    refine G.seqK fun K40 hK41 => ?_
    refine G.region ?_
    refine GL.run (j := 7) 7 [2] [(2, .int .u32 (Go.bits .or .u32 (IntKind.u32.wrap ((m / 256 : Nat) : Int)) (IntKind.u32.wrap ((IntKind.u32.wrap ((((bl t + 7) / 8) + 1 : Nat) : Int)) * 2 ^ 24))))] (by kernel_rfl) rfl ?_
    have e42 : (IntKind.u32.wrap ((m / 256 : Nat) : Int)) = ((m / 256 : Nat) : Int) := in_u32 (by omega)
    have e43 : (IntKind.u32.wrap ((((bl t + 7) / 8) + 1 : Nat) : Int)) = ((((bl t + 7) / 8) + 1 : Nat) : Int) := in_u32 (by omega)
    have e44 : (IntKind.u32.wrap (((((bl t + 7) / 8) + 1 : Nat) : Int) * 2 ^ 24)) = (((((bl t + 7) / 8) + 1) * 16777216 : Nat) : Int) := shl24 (by omega)
    have e45 : (Go.bits .or .u32 ((m / 256 : Nat) : Int) (((((bl t + 7) / 8) + 1) * 16777216 : Nat) : Int)) = (((m / 256) + (((bl t + 7) / 8) + 1) * 16777216 : Nat) : Int) := or_top (by omega) (by omega)
    refine GL.eq (M' := [(2, .int .u32 (((m / 256) + (((bl t + 7) / 8) + 1) * 16777216 : Nat) : Int))]) (by rw [e42, e43, e44, e45]) ?_
    clear e42 e43 e44 e45
    refine GL.k rfl hK41 (fun _ _ h => h) ?_
    refine G.ret ?_
    intro F_ hF_ hM_
    refine hRet _ _ (bodyPost_1 rfl (RV.tmp rfl) ?_ F_ hF_ hM_)
    have e0 : ((((m / 256) + (((bl t + 7) / 8) + 1) * 16777216 : Nat) : Int) : Int) = ((encV t : Nat) : Int) := by
      rw [encV_eq, ← hm, show encE t = (bl t + 7) / 8 from rfl]
      split <;> omega
    rw [e0]
    exact ⟨rfl, H22.sub (List.nil_sublist _)⟩
theorem Encode_small (t : Nat) (ht : t < K4) (hX : ¬ 3 ≤ (bl t + 7) / 8) (w : World) : Calls Try.prog 21 #[wv t] w fun e w' => e = .returned (.int .u32 ((encV t : Nat) : Int)) ∧ Hp w [] [] w' := by
  have hMX : MX = 4611686018427387904 := rfl
  have hK0 : K = 18446744073709551616 := rfl
  have hK40 : K4 = 115792089237316195423570985008687907853269984665640564039457584007913129639936 := rfl
  have hbl : bl t ≤ 256 := bl_le (by rw [show 2 ^ 256 = K4 by decide]; exact ht)
  obtain ⟨m, hm⟩ : ∃ m, m = encM t (encE t) := ⟨_, rfl⟩
  have hm24 : m < 16777216 := by rw [hm]; exact encM_lt t
  refine calls_G (args := [wv t]) Try.func21 rfl Try.ntmps21 rfl ?_
  intro Q0 hRet hNor hPan
  have H := Hp.start w
  have H : Hp w [] [] w := H
  refine G.seqK fun K1 hK2 => ?_
  refine G.region ?_
  obtain ⟨p3, w4, r5, H6⟩ := H.box (P := Try.prog) 24 (wl t) (wv t) rfl
  have H6 : Hp w [] [.blk p3 (wl t) 24] w4 := H6
  refine GL.sem (j := 1) (r5) [1] [(1, pt p3 0)] (by kernel_rfl) (by kernel_rfl) rfl ?_
  refine GL.run (j := 2) 1 [1] [(1, pt p3 0)] (by kernel_rfl) rfl ?_
  refine GL.k rfl hK2 (fun _ _ h => h) ?_
  refine G.seqK fun K7 hK8 => ?_
  refine G.region ?_
  refine GL.sem (j := 1) (H6.ldA (o := 0) (ty := 24) (m := 4) (sub := (wl t)) 0 rfl (by kernel_rfl) rfl rfl) [1, 6] [(1, pt p3 0), (6, wv t)] (by kernel_rfl) (by kernel_rfl) rfl ?_
  refine GL.call (j := 2) (Bits_calls t ht w4) (by kernel_rfl) rfl (fun e_ w9 hR => ?_)
  obtain ⟨he_, H11⟩ := hR
  subst he_
  have H10 : Hp w [] [.blk p3 (wl t) 24] w9 := H6.callNil H11
  refine ⟨_, rfl, [1, 7], [(1, pt p3 0), (7, .int .i64 ((bl t : Nat) : Int))], by kernel_rfl, ?_⟩
  refine GL.run (j := 5) 3 [1, 3] [(1, pt p3 0), (3, .int .i64 (IntKind.i64.wrap (Int.tdiv (IntKind.i64.wrap (((bl t : Nat) : Int) + 7)) 8)))] (by kernel_rfl) rfl ?_
  have e12 : (IntKind.i64.wrap (((bl t : Nat) : Int) + 7)) = (((bl t) + 7 : Nat) : Int) := by rw [in_i64 (by omega)]; omega
  have e13 : (IntKind.i64.wrap (Int.tdiv (((bl t) + 7 : Nat) : Int) 8)) = (((bl t + 7) / 8 : Nat) : Int) := i_quo 8 (by omega)
  refine GL.eq (M' := [(1, pt p3 0), (3, .int .i64 (((bl t + 7) / 8 : Nat) : Int))]) (by rw [e12, e13]) ?_
  clear e12 e13
  refine GL.k rfl hK8 (fun _ _ h => h) ?_
  refine G.seqK fun K14 hK15 => ?_
  refine G.region ?_
  refine GL.sem (j := 1) (H10.ldA (o := 0) (ty := 24) (m := 4) (sub := (wl t)) 0 rfl (by kernel_rfl) rfl rfl) [3, 11] [(3, .int .i64 (((bl t + 7) / 8 : Nat) : Int)), (11, wv t)] (by kernel_rfl) (by kernel_rfl) rfl ?_
  refine GL.run (j := 4) 3 [3, 11, 14] [(3, .int .i64 (((bl t + 7) / 8 : Nat) : Int)), (11, wv t), (14, .int .i64 (IntKind.i64.wrap (8 * (IntKind.i64.wrap ((((bl t + 7) / 8 : Nat) : Int) - 3)))))] (by kernel_rfl) rfl ?_
  have e16 : (IntKind.i64.wrap ((((bl t + 7) / 8 : Nat) : Int) - 3)) = (-((3 - (bl t + 7) / 8 : Nat) : Int)) := by rw [in_i64 (by omega)]; omega
  have e17 : (IntKind.i64.wrap (8 * (-((3 - (bl t + 7) / 8 : Nat) : Int)))) = (-((8 * (3 - (bl t + 7) / 8) : Nat) : Int)) := by rw [in_i64 (by omega)]; omega
  refine GL.eq (M' := [(3, .int .i64 (((bl t + 7) / 8 : Nat) : Int)), (11, wv t), (14, .int .i64 (-((8 * (3 - (bl t + 7) / 8) : Nat) : Int)))]) (by rw [e16, e17]) ?_
  clear e16 e17
  refine GL.call (j := 5) (Right_neg t (8 * (3 - (bl t + 7) / 8)) ht (by omega) w9) (by kernel_rfl) rfl (fun e_ w18 hR => ?_)
  obtain ⟨rfl, H20⟩ := hR
  have H19 : Hp w [] [.blk p3 (wl t) 24] w18 := H10.callNil H20
  refine ⟨_, rfl, [3, 15], [(3, .int .i64 (((bl t + 7) / 8 : Nat) : Int)), (15, wv (t * 2 ^ (8 * (3 - (bl t + 7) / 8)) % K4))], by kernel_rfl, ?_⟩
  refine GL.call (j := 6) (Uint_enc (t * 2 ^ (8 * (3 - (bl t + 7) / 8)) % K4) m (by rw [hm]; exact enc_small hX) hm24 w18) (by kernel_rfl) rfl (fun e_ w21 hR => ?_)
  obtain ⟨rfl, H23⟩ := hR
  have H22 : Hp w [] [.blk p3 (wl t) 24] w21 := H19.callNil H23
  refine ⟨_, rfl, [3, 16], [(3, .int .i64 (((bl t + 7) / 8 : Nat) : Int)), (16, .tuple #[.int .u64 (m : Int), .bool true])], by kernel_rfl, ?_⟩
  refine GL.run (j := 11) 5 [3, 4] [(3, .int .i64 (((bl t + 7) / 8 : Nat) : Int)), (4, .int .u64 (m : Int))] (by kernel_rfl) rfl ?_
  refine GL.k rfl hK15 (fun _ _ h => h) ?_
  refine G.seqK fun K24 hK25 => ?_
  refine G.seqK fun K26 hK27 => ?_
  refine G.region ?_
  refine GL.run (j := 3) 3 [3, 4, 21] [(3, .int .i64 (((bl t + 7) / 8 : Nat) : Int)), (4, .int .u64 (m : Int)), (21, .bool ((Go.bits .and .u64 (m : Int) 8388608) != 0))] (by kernel_rfl) rfl ?_
  have e28 : (Go.bits .and .u64 (m : Int) 8388608) = ((m / 8388608 * 8388608 : Nat) : Int) := and_bit23 hm24
  refine GL.eq (M' := [(3, .int .i64 (((bl t + 7) / 8 : Nat) : Int)), (4, .int .u64 (m : Int)), (21, .bool (((m / 8388608 * 8388608 : Nat) : Int) != 0))]) (by rw [e28]) ?_
  clear e28
  refine GL.k rfl hK27 (fun _ _ h => h) ?_
  cases hb29 : (((m / 8388608 * 8388608 : Nat) : Int) != 0)
  · skip
    have hb29f : ((m / 8388608 * 8388608 : Nat) : Int) = 0 := bne_eq_false_iff_eq.1 hb29
    refine G.no rfl ?_
    refine G.skipK hK25 (fun _ _ h => h) ?_
    refine G.seqK fun K30 hK31 => ?_
    refine G.region ?_
    refine GL.run (j := 7) 7 [2] [(2, .int .u32 (Go.bits .or .u32 (IntKind.u32.wrap (m : Int)) (IntKind.u32.wrap ((IntKind.u32.wrap (((bl t + 7) / 8 : Nat) : Int)) * 2 ^ 24))))] (by kernel_rfl) rfl ?_
    have e32 : (IntKind.u32.wrap (m : Int)) = (m : Int) := in_u32 (by omega)
    have e33 : (IntKind.u32.wrap (((bl t + 7) / 8 : Nat) : Int)) = (((bl t + 7) / 8 : Nat) : Int) := in_u32 (by omega)
    have e34 : (IntKind.u32.wrap ((((bl t + 7) / 8 : Nat) : Int) * 2 ^ 24)) = ((((bl t + 7) / 8) * 16777216 : Nat) : Int) := shl24 (by omega)
    have e35 : (Go.bits .or .u32 (m : Int) ((((bl t + 7) / 8) * 16777216 : Nat) : Int)) = ((m + ((bl t + 7) / 8) * 16777216 : Nat) : Int) := or_top (by omega) (by omega)
    refine GL.eq (M' := [(2, .int .u32 ((m + ((bl t + 7) / 8) * 16777216 : Nat) : Int))]) (by rw [e32, e33, e34, e35]) ?_
    clear e32 e33 e34 e35
    refine GL.k rfl hK31 (fun _ _ h => h) ?_
    refine G.ret ?_
    intro F_ hF_ hM_
    refine hRet _ _ (bodyPost_1 rfl (RV.tmp rfl) ?_ F_ hF_ hM_)
    have e0 : (((m + ((bl t + 7) / 8) * 16777216 : Nat) : Int) : Int) = ((encV t : Nat) : Int) := by
      rw [encV_eq, ← hm, show encE t = (bl t + 7) / 8 from rfl]
      split <;> omega
    rw [e0]
    exact ⟨rfl, H22.sub (List.nil_sublist _)⟩
  · skip
    have hb29f : ((m / 8388608 * 8388608 : Nat) : Int) ≠ 0 := bne_iff_ne.1 hb29
    refine G.yes rfl ?_
    refine G.seqK fun K36 hK37 => ?_
    refine G.region ?_
    refine GL.run (j := 3) 3 [3, 4] [(3, .int .i64 (((bl t + 7) / 8 : Nat) : Int)), (4, .int .u64 (Int.fdiv (m : Int) (2 ^ 8)))] (by kernel_rfl) rfl ?_
    have e38 : (Int.fdiv (m : Int) (2 ^ 8)) = ((m / 256 : Nat) : Int) := n_shr m 8
    refine GL.eq (M' := [(3, .int .i64 (((bl t + 7) / 8 : Nat) : Int)), (4, .int .u64 ((m / 256 : Nat) : Int))]) (by rw [e38]) ?_
    clear e38
    refine GL.k rfl hK37 (fun _ _ h => h) ?_
    refine G.region ?_
    refine GL.run (j := 3) 3 [3, 4] [(3, .int .i64 (IntKind.i64.wrap ((((bl t + 7) / 8 : Nat) : Int) + 1))), (4, .int .u64 ((m / 256 : Nat) : Int))] (by kernel_rfl) rfl ?_
    have e39 : (IntKind.i64.wrap ((((bl t + 7) / 8 : Nat) : Int) + 1)) = ((((bl t + 7) / 8) + 1 : Nat) : Int) := by rw [in_i64 (by omega)]; omega
    refine GL.eq (M' := [(3, .int .i64 ((((bl t + 7) / 8) + 1 : Nat) : Int)), (4, .int .u64 ((m / 256 : Nat) : Int))]) (by rw [e39]) ?_
    clear e39
    refine GL.k rfl hK25 (fun _ _ h => h) ?_
    refine G.seqK fun K40 hK41 => ?_
    refine G.region ?_
    refine GL.run (j := 7) 7 [2] [(2, .int .u32 (Go.bits .or .u32 (IntKind.u32.wrap ((m / 256 : Nat) : Int)) (IntKind.u32.wrap ((IntKind.u32.wrap ((((bl t + 7) / 8) + 1 : Nat) : Int)) * 2 ^ 24))))] (by kernel_rfl) rfl ?_
    have e42 : (IntKind.u32.wrap ((m / 256 : Nat) : Int)) = ((m / 256 : Nat) : Int) := in_u32 (by omega)
    have e43 : (IntKind.u32.wrap ((((bl t + 7) / 8) + 1 : Nat) : Int)) = ((((bl t + 7) / 8) + 1 : Nat) : Int) := in_u32 (by omega)
    have e44 : (IntKind.u32.wrap (((((bl t + 7) / 8) + 1 : Nat) : Int) * 2 ^ 24)) = (((((bl t + 7) / 8) + 1) * 16777216 : Nat) : Int) := shl24 (by omega)
    have e45 : (Go.bits .or .u32 ((m / 256 : Nat) : Int) (((((bl t + 7) / 8) + 1) * 16777216 : Nat) : Int)) = (((m / 256) + (((bl t + 7) / 8) + 1) * 16777216 : Nat) : Int) := or_top (by omega) (by omega)
    refine GL.eq (M' := [(2, .int .u32 (((m / 256) + (((bl t + 7) / 8) + 1) * 16777216 : Nat) : Int))]) (by rw [e42, e43, e44, e45]) ?_
    clear e42 e43 e44 e45
    refine GL.k rfl hK41 (fun _ _ h => h) ?_
    refine G.ret ?_
    intro F_ hF_ hM_
    refine hRet _ _ (bodyPost_1 rfl (RV.tmp rfl) ?_ F_ hF_ hM_)
    have e0 : ((((m / 256) + (((bl t + 7) / 8) + 1) * 16777216 : Nat) : Int) : Int) = ((encV t : Nat) : Int) := by
      rw [encV_eq, ← hm, show encE t = (bl t + 7) / 8 from rfl]
      split <;> omega
    rw [e0]
    exact ⟨rfl, H22.sub (List.nil_sublist _)⟩
theorem Encode_calls (t : Nat) (ht : t < K4) (w : World) : Calls Try.prog 21 #[wv t] w fun e w' => e = .returned (.int .u32 ((encV t : Nat) : Int)) ∧ Hp w [] [] w' := by
  by_cases h : 3 ≤ (bl t + 7) / 8
  · exact Encode_big t ht h w
  · exact Encode_small t ht h w
end Go.Proofs.Ytjfllmkihfidcaa
