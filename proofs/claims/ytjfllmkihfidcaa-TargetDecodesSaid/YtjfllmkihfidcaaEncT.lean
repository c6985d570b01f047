/- The document's bits of a target. -/
import Derived.Test.YtjfllmkihfidcaaEncR
namespace Go.Proofs.Ytjfllmkihfidcaa
open Go.RowKit
theorem Encode6_calls (t : Nat) (ht : t < K4) (A : Option Addr) (c : Nat) (w : World) (hr : RdS w A (dg (digs t))) : Calls Try.prog 22 #[.slice A (ndg t) c] w fun e w' => e = .returned (.int .u32 ((encV t : Nat) : Int)) ∧ Hp w [] [] w' := by
  have hMX : MX = 4611686018427387904 := rfl
  have hK0 : K = 18446744073709551616 := rfl
  have hK40 : K4 = 115792089237316195423570985008687907853269984665640564039457584007913129639936 := rfl
  have hbl : bl t ≤ 256 := bl_le (by rw [show 2 ^ 256 = K4 by decide]; exact ht)
  refine calls_G (args := [.slice A (ndg t) c]) Try.func22 rfl Try.ntmps22 rfl ?_
  intro Q0 hRet hNor hPan
  have H := Hp.start w
  have H : Hp w [] [] w := H
  refine G.seqK fun K1 hK2 => ?_
  refine G.region ?_
  refine GL.run (j := 1) 1 [0] [(0, .slice A (ndg t) c)] (by kernel_rfl) rfl ?_
  refine GL.k rfl hK2 (fun _ _ h => h) ?_
  refine G.seqK fun K3 hK4 => ?_
  refine G.region ?_
  refine GL.run (j := 1) 1 [0, 11] [(0, .slice A (ndg t) c), (11, .slice A (ndg t) c)] (by kernel_rfl) rfl ?_
  refine GL.call (j := 2) (BitsN_calls t A c w (hr.hp H) (Nat.le_trans (ndg_K4 ht) (by decide))) (by kernel_rfl) rfl (fun e_ w9 hR => ?_)
  obtain ⟨A5, c6, rfl, H8⟩ := hR
  have H7 : Hp w [] [.row A5 (bl t) c6 22 1 (dg (bitsL t))] w9 := H.callNew H8
  refine ⟨_, rfl, [0, 12], [(0, .slice A (ndg t) c), (12, .slice A5 (bl t) c6)], by kernel_rfl, ?_⟩
  refine GL.run (j := 3) 1 [0, 3] [(0, .slice A (ndg t) c), (3, .slice A5 (bl t) c6)] (by kernel_rfl) rfl ?_
  refine GL.k rfl hK4 (fun _ _ h => h) ?_
  refine G.seqK fun K10 hK11 => ?_
  refine G.region ?_
  refine GL.run (j := 1) 1 [0, 3, 4] [(0, .slice A (ndg t) c), (3, .slice A5 (bl t) c6), (4, .int .i64 0)] (by kernel_rfl) rfl ?_
  refine GL.k rfl hK11 (fun _ _ h => h) ?_
  refine G.seqK fun K12 hK13 => ?_
  refine G.block ?_
  have H14 : Hp w [] [] w9 := H7.sub (List.Sublist.cons _ (List.Sublist.slnil))
  refine G.fit [0, 3, 4] (M' := [(0, .slice A (ndg t) c), (3, .slice A5 (bl t) c6), (4, .int .i64 0)]) (by kernel_rfl) ?_
  refine G.loop (X := Nat) (fun e => [(0, .slice A (ndg t) c), (3, .slice A5 (bl t) c6), (4, .int .i64 (e : Int))]) (fun e w_ => (e = 0 ∨ 8 * (e - 1) < bl t) ∧ Hp w [] [] w_) (fun e => bl t - e) 0 [0, 3, 4] (by kernel_rfl) ⟨.inl rfl, H14⟩ ?_
  rintro e w15 ⟨hi16, H17⟩
  refine G.eq (M' := [(0, .slice A (ndg t) c), (3, .slice A5 (bl t) c6), (4, .int .i64 (e : Int))]) rfl ?_
  have H17 : Hp w [] [] w15 := H17
  have he := hi16
  refine G.seqK fun K18 hK19 => ?_
  refine G.seqK fun K20 hK21 => ?_
  refine G.region ?_
  refine GL.run (j := 5) 5 [0, 3, 4, 17] [(0, .slice A (ndg t) c), (3, .slice A5 (bl t) c6), (4, .int .i64 (e : Int)), (17, .bool (decide ((IntKind.i64.wrap (8 * (e : Int))) < (((bl t) : Nat) : Int))))] (by kernel_rfl) rfl ?_
  have e22 : (IntKind.i64.wrap (8 * (e : Int))) = ((8 * e : Nat) : Int) := by rw [in_i64 (by omega)]; omega
  refine GL.eq (M' := [(0, .slice A (ndg t) c), (3, .slice A5 (bl t) c6), (4, .int .i64 (e : Int)), (17, .bool (decide (((8 * e : Nat) : Int) < (((bl t) : Nat) : Int))))]) (by rw [e22]) ?_
  clear e22
  refine GL.k rfl hK21 (fun _ _ h => h) ?_
  cases hb23 : (decide (((8 * e : Nat) : Int) < (((bl t) : Nat) : Int)))
  · skip
    have hb23f := of_decide_eq_false hb23
    refine G.no rfl ?_
    refine G.exitK hK13 (fun _ _ h => h) ?_
    refine G.seqK fun K24 hK25 => ?_
    refine G.region ?_
    refine GL.run (j := 2) 2 [4, 5] [(4, .int .i64 (e : Int)), (5, .slice A (ndg t) c)] (by kernel_rfl) rfl ?_
    refine GL.k rfl hK25 (fun _ _ h => h) ?_
    refine G.seqK fun K26 hK27 => ?_
    refine G.seqK fun K28 hK29 => ?_
    refine G.region ?_
    refine GL.run (j := 2) 2 [4, 5, 6] [(4, .int .i64 (e : Int)), (5, .slice A (ndg t) c), (6, .int .i64 (e : Int))] (by kernel_rfl) rfl ?_
    refine GL.k rfl hK29 (fun _ _ h => h) ?_
    refine G.block ?_
    have hE : e = encE t := by unfold encE; omega
    have he33 : e ≤ 32 := by omega
    refine G.fit [4, 5, 6] (M' := [(4, .int .i64 (e : Int)), (5, .slice A (ndg t) c), (6, .int .i64 (e : Int))]) (by kernel_rfl) ?_
    refine G.loop (X := Nat × Nat × Option Addr × Nat) (fun ⟨i, V, Z, z⟩ => [(4, .int .i64 (e : Int)), (5, .slice Z (ndg V) z), (6, .int .i64 (i : Int))]) (fun ⟨i, V, Z, z⟩ w_ => (i ≤ e ∧ V = t / 256 ^ (e - i) ∧ (i = e ∨ 3 ≤ i) ∧ (RdS w Z (dg (digs V)) ∨ Hp w [] [.row Z (ndg V) z 22 1 (dg (digs V))] w_)) ∧ Hp w [] [] w_) (fun ⟨i, V, Z, z⟩ => i) ⟨e, t, A, c⟩ [4, 5, 6] (by kernel_rfl) ⟨⟨Nat.le_refl _, by rw [Nat.sub_self, Nat.pow_zero, Nat.div_one], .inl rfl, .inl hr⟩, H17⟩ ?_
    rintro ⟨i, V, Z, z⟩ w30 ⟨hi31, H32⟩
    refine G.eq (M' := [(4, .int .i64 (e : Int)), (5, .slice Z (ndg V) z), (6, .int .i64 (i : Int))]) rfl ?_
    have H32 : Hp w [] [] w30 := H32
    obtain ⟨hi1, hV, hi2, hrd1⟩ := hi31
    have nV : ndg V ≤ 16 := by rw [hV]; exact ndg_div (ndg_K4 ht)
    have hVK : V < K4 := by rw [hV]; exact Nat.lt_of_le_of_lt (Nat.div_le_self _ _) ht
    rcases hrd1 with hrd1 | hrd1
    · skip
      refine G.seqK fun K33 hK34 => ?_
      refine G.seqK fun K35 hK36 => ?_
      refine G.region ?_
      refine GL.run (j := 2) 2 [4, 5, 6, 23] [(4, .int .i64 (e : Int)), (5, .slice Z (ndg V) z), (6, .int .i64 (i : Int)), (23, .bool (decide (3 < (i : Int))))] (by kernel_rfl) rfl ?_
      refine GL.k rfl hK36 (fun _ _ h => h) ?_
      cases hb37 : (decide (3 < (i : Int)))
      · skip
        have hb37f := of_decide_eq_false hb37
        refine G.no rfl ?_
        refine G.exitK hK27 (fun _ _ h => h) ?_
        refine G.seqK fun K38 hK39 => ?_
        refine G.seqK fun K40 hK41 => ?_
        refine G.region ?_
        refine GL.run (j := 2) 2 [4, 5, 7] [(4, .int .i64 (e : Int)), (5, .slice Z (ndg V) z), (7, .int .i64 (e : Int))] (by kernel_rfl) rfl ?_
        refine GL.k rfl hK41 (fun _ _ h => h) ?_
        refine G.block ?_
        refine G.fit [4, 5, 7] (M' := [(4, .int .i64 (e : Int)), (5, .slice Z (ndg V) z), (7, .int .i64 (e : Int))]) (by kernel_rfl) ?_
        refine G.loop (X := Nat × Nat × Option Addr × Nat) (fun ⟨j, V2, Z2, z2⟩ => [(4, .int .i64 (e : Int)), (5, .slice Z2 (ndg V2) z2), (7, .int .i64 (j : Int))]) (fun ⟨j, V2, Z2, z2⟩ w_ => (e ≤ j ∧ (j ≤ 3 ∨ j = e) ∧ V2 = V * 256 ^ (j - e) ∧ (RdS w Z2 (dg (digs V2)) ∨ Hp w [] [.row Z2 (ndg V2) z2 22 1 (dg (digs V2))] w_)) ∧ Hp w [] [] w_) (fun ⟨j, V2, Z2, z2⟩ => 3 - j) ⟨e, V, Z, z⟩ [4, 5, 7] (by kernel_rfl) ⟨⟨Nat.le_refl _, .inr rfl, by rw [Nat.sub_self, Nat.pow_zero, Nat.mul_one], .inl hrd1⟩, H32⟩ ?_
        rintro ⟨j, V2, Z2, z2⟩ w42 ⟨hi43, H44⟩
        refine G.eq (M' := [(4, .int .i64 (e : Int)), (5, .slice Z2 (ndg V2) z2), (7, .int .i64 (j : Int))]) rfl ?_
        have H44 : Hp w [] [] w42 := H44
        obtain ⟨hj1, hj2, hV2, hrd2⟩ := hi43
        have nV2 : ndg V2 ≤ 18 := by rw [hV2]; exact nd_mid hVK (by omega)
        rcases hrd2 with hrd2 | hrd2
        · skip
          refine G.seqK fun K45 hK46 => ?_
          refine G.seqK fun K47 hK48 => ?_
          refine G.region ?_
          refine GL.run (j := 2) 2 [4, 5, 7, 34] [(4, .int .i64 (e : Int)), (5, .slice Z2 (ndg V2) z2), (7, .int .i64 (j : Int)), (34, .bool (decide ((j : Int) < 3)))] (by kernel_rfl) rfl ?_
          refine GL.k rfl hK48 (fun _ _ h => h) ?_
          cases hb49 : (decide ((j : Int) < 3))
          · skip
            have hb49f := of_decide_eq_false hb49
            refine G.no rfl ?_
            refine G.exitK hK39 (fun _ _ h => h) ?_
            refine G.seqK fun K50 hK51 => ?_
            refine G.region ?_
            refine GL.run (j := 1) 1 [4, 41] [(4, .int .i64 (e : Int)), (41, .slice Z2 (ndg V2) z2)] (by kernel_rfl) rfl ?_
            have hM : V2 = encM t (encE t) := by rw [← hE]; exact mid_eq hi1 hi2 (by omega) hV hj1 hj2 (by omega) hV2
            have hM24 := encM_lt t
            have hw0 : wd (V2 % K4) 0 = V2 := by rw [Nat.mod_eq_of_lt (show V2 < K4 by omega)]; exact Nat.mod_eq_of_lt (show V2 < K by omega)
            refine GL.call (j := 2) (WordsN_calls V2 Z2 z2 w42 (hrd2.hp H44) (Nat.le_trans nV2 (by decide))) (by kernel_rfl) rfl (fun e_ w52 hR => ?_)
            obtain ⟨rfl, H54⟩ := hR
            have H53 : Hp w [] [] w52 := H44.callNil H54
            refine ⟨_, rfl, [4, 42], [(4, .int .i64 (e : Int)), (42, .tuple #[wv (V2 % K4), .bool (decide (K4 ≤ V2))])], by kernel_rfl, ?_⟩
            refine GL.run (j := 5) 3 [4, 43, 44] [(4, .int .i64 (e : Int)), (43, wv (V2 % K4)), (44, .bool (decide (K4 ≤ V2)))] (by kernel_rfl) rfl ?_
            obtain ⟨p55, w56, r57, H58⟩ := H53.alloc (P := Try.prog) 23 z4 (by kernel_rfl)
            have H58 : Hp w [] [.blk p55 z4 23] w56 := H58
            refine GL.sem (j := 6) (r57) [4, 8, 43, 44] [(4, .int .i64 (e : Int)), (8, pt p55 0), (43, wv (V2 % K4)), (44, .bool (decide (K4 ≤ V2)))] (by kernel_rfl) (by kernel_rfl) rfl ?_
            obtain ⟨w59, r60, H61⟩ := H58.stA (P := Try.prog) (o := 0) (vs := (wl (V2 % K4))) (ty := 23) (m := 4) 0 rfl (by kernel_rfl) rfl (by first | decide | simp) (wl_one _)
            have H61 : Hp w [] [.blk p55 (wl (V2 % K4)) 23] w59 := H61
            refine GL.semU (j := 7) r60 [4, 8, 44] [(4, .int .i64 (e : Int)), (8, pt p55 0), (44, .bool (decide (K4 ≤ V2)))] (by kernel_rfl) rfl rfl rfl ?_
            refine GL.run (j := 8) 1 [4, 8] [(4, .int .i64 (e : Int)), (8, pt p55 0)] (by kernel_rfl) rfl ?_
            refine GL.k rfl hK51 (fun _ _ h => h) ?_
            refine G.seqK fun K62 hK63 => ?_
            refine G.region ?_
            refine GL.run (j := 1) 1 [4, 45] [(4, .int .i64 (e : Int)), (45, pt p55 0)] (by kernel_rfl) rfl ?_
            refine GL.sem (j := 2) (H61.ld (o := 0) (ty := 22) (v := .int .u64 (wd (V2 % K4) 0 : Int)) 0 rfl (by kernel_rfl) rfl) [4, 46] [(4, .int .i64 (e : Int)), (46, .int .u64 (wd (V2 % K4) 0 : Int))] (by kernel_rfl) (by kernel_rfl) rfl ?_
            refine GL.run (j := 3) 1 [4, 10] [(4, .int .i64 (e : Int)), (10, .int .u64 (wd (V2 % K4) 0 : Int))] (by kernel_rfl) rfl ?_
            refine GL.k rfl hK63 (fun _ _ h => h) ?_
            refine G.seqK fun K64 hK65 => ?_
            refine G.seqK fun K66 hK67 => ?_
            refine G.region ?_
            refine GL.run (j := 2) 2 [4, 10, 48] [(4, .int .i64 (e : Int)), (10, .int .u64 (wd (V2 % K4) 0 : Int)), (48, .bool (decide (8388608 ≤ (wd (V2 % K4) 0 : Int))))] (by kernel_rfl) rfl ?_
            refine GL.k rfl hK67 (fun _ _ h => h) ?_
            cases hb68 : (decide (8388608 ≤ (wd (V2 % K4) 0 : Int)))
            · skip
              have hb68f := of_decide_eq_false hb68
              refine G.no rfl ?_
              refine G.skipK hK65 (fun _ _ h => h) ?_
              refine G.seqK fun K69 hK70 => ?_
              refine G.region ?_
              refine GL.run (j := 7) 7 [2] [(2, .int .u32 (IntKind.u32.wrap ((IntKind.u32.wrap (wd (V2 % K4) 0 : Int)) + (IntKind.u32.wrap ((IntKind.u32.wrap (e : Int)) * 16777216)))))] (by kernel_rfl) rfl ?_
              have e71 : (IntKind.u32.wrap (wd (V2 % K4) 0 : Int)) = (wd (V2 % K4) 0 : Int) := in_u32 (by omega)
              have e72 : (IntKind.u32.wrap (e : Int)) = (e : Int) := in_u32 (by omega)
              have e73 : (IntKind.u32.wrap ((e : Int) * 16777216)) = ((e * 16777216 : Nat) : Int) := by rw [in_u32 (by omega)]; omega
              have e74 : (IntKind.u32.wrap ((wd (V2 % K4) 0 : Int) + ((e * 16777216 : Nat) : Int))) = (((wd (V2 % K4) 0) + (e * 16777216) : Nat) : Int) := by rw [in_u32 (by omega)]; omega
              refine GL.eq (M' := [(2, .int .u32 (((wd (V2 % K4) 0) + (e * 16777216) : Nat) : Int))]) (by rw [e71, e72, e73, e74]) ?_
              clear e71 e72 e73 e74
              refine GL.k rfl hK70 (fun _ _ h => h) ?_
              refine G.ret ?_
              intro F_ hF_ hM_
              refine hRet _ _ (bodyPost_1 rfl (RV.tmp rfl) ?_ F_ hF_ hM_)
              have e0 : ((((wd (V2 % K4) 0) + (e * 16777216) : Nat) : Int) : Int) = ((encV t : Nat) : Int) := by
                rw [encV_eq, ← hM, ← hE]
                split <;> omega
              rw [e0]
              exact ⟨rfl, H61.sub (List.nil_sublist _)⟩
            · skip
              have hb68f := of_decide_eq_true hb68
              refine G.yes rfl ?_
              refine G.seqK fun K75 hK76 => ?_
              refine G.region ?_
              refine GL.run (j := 3) 3 [4, 10] [(4, .int .i64 (e : Int)), (10, .int .u64 (IntKind.u64.wrap (Int.tdiv (wd (V2 % K4) 0 : Int) 256)))] (by kernel_rfl) rfl ?_
              have e77 : (IntKind.u64.wrap (Int.tdiv (wd (V2 % K4) 0 : Int) 256)) = (((wd (V2 % K4) 0) / 256 : Nat) : Int) := n_quo 256 (by omega)
              refine GL.eq (M' := [(4, .int .i64 (e : Int)), (10, .int .u64 (((wd (V2 % K4) 0) / 256 : Nat) : Int))]) (by rw [e77]) ?_
              clear e77
              refine GL.k rfl hK76 (fun _ _ h => h) ?_
              refine G.region ?_
              refine GL.run (j := 3) 3 [4, 10] [(4, .int .i64 (IntKind.i64.wrap ((e : Int) + 1))), (10, .int .u64 (((wd (V2 % K4) 0) / 256 : Nat) : Int))] (by kernel_rfl) rfl ?_
              have e78 : (IntKind.i64.wrap ((e : Int) + 1)) = ((e + 1 : Nat) : Int) := by rw [in_i64 (by omega)]; omega
              refine GL.eq (M' := [(4, .int .i64 ((e + 1 : Nat) : Int)), (10, .int .u64 (((wd (V2 % K4) 0) / 256 : Nat) : Int))]) (by rw [e78]) ?_
              clear e78
              refine GL.k rfl hK65 (fun _ _ h => h) ?_
              refine G.seqK fun K79 hK80 => ?_
              refine G.region ?_
              refine GL.run (j := 7) 7 [2] [(2, .int .u32 (IntKind.u32.wrap ((IntKind.u32.wrap (((wd (V2 % K4) 0) / 256 : Nat) : Int)) + (IntKind.u32.wrap ((IntKind.u32.wrap ((e + 1 : Nat) : Int)) * 16777216)))))] (by kernel_rfl) rfl ?_
              have e81 : (IntKind.u32.wrap (((wd (V2 % K4) 0) / 256 : Nat) : Int)) = (((wd (V2 % K4) 0) / 256 : Nat) : Int) := in_u32 (by omega)
              have e82 : (IntKind.u32.wrap ((e + 1 : Nat) : Int)) = ((e + 1 : Nat) : Int) := in_u32 (by omega)
              have e83 : (IntKind.u32.wrap (((e + 1 : Nat) : Int) * 16777216)) = (((e + 1) * 16777216 : Nat) : Int) := by rw [in_u32 (by omega)]; omega
              have e84 : (IntKind.u32.wrap ((((wd (V2 % K4) 0) / 256 : Nat) : Int) + (((e + 1) * 16777216 : Nat) : Int))) = ((((wd (V2 % K4) 0) / 256) + ((e + 1) * 16777216) : Nat) : Int) := by rw [in_u32 (by omega)]; omega
              refine GL.eq (M' := [(2, .int .u32 ((((wd (V2 % K4) 0) / 256) + ((e + 1) * 16777216) : Nat) : Int))]) (by rw [e81, e82, e83, e84]) ?_
              clear e81 e82 e83 e84
              refine GL.k rfl hK80 (fun _ _ h => h) ?_
              refine G.ret ?_
              intro F_ hF_ hM_
              refine hRet _ _ (bodyPost_1 rfl (RV.tmp rfl) ?_ F_ hF_ hM_)
              have e0 : (((((wd (V2 % K4) 0) / 256) + ((e + 1) * 16777216) : Nat) : Int) : Int) = ((encV t : Nat) : Int) := by
                rw [encV_eq, ← hM, ← hE]
                split <;> omega
              rw [e0]
              exact ⟨rfl, H61.sub (List.nil_sublist _)⟩
          · skip
            have hb49f := of_decide_eq_true hb49
            refine G.yes rfl ?_
            refine G.skipK hK46 (fun _ _ h => h) ?_
            refine G.seqK fun K85 hK86 => ?_
            refine G.block ?_
            refine G.region ?_
            refine GL.run (j := 1) 1 [4, 7, 37] [(4, .int .i64 (e : Int)), (7, .int .i64 (j : Int)), (37, .slice Z2 (ndg V2) z2)] (by kernel_rfl) rfl ?_
            have hN92 : ndg 256 ≤ 4 := ndg_K (by decide)
            refine GL.call (j := 2) (one_calls 256 (by decide) w42) (by kernel_rfl) rfl (fun e_ w91 hR => ?_)
            obtain ⟨A87, c88, rfl, H90⟩ := hR
            have H89 : Hp w [] [.row A87 (ndg 256) c88 22 1 (dg (digs 256))] w91 := H44.callNew H90
            refine ⟨_, rfl, [4, 7, 37, 38], [(4, .int .i64 (e : Int)), (7, .int .i64 (j : Int)), (37, .slice Z2 (ndg V2) z2), (38, .slice A87 (ndg 256) c88)], by kernel_rfl, ?_⟩
            have hN98 : ndg (V2 * 256) ≤ 22 := ndg_mul nV2 hN92
            refine GL.call (j := 3) (MulN_calls V2 256 Z2 z2 A87 c88 w91 (hrd2.hp H89) (H89.rdRow 0 rfl) (Nat.le_trans nV2 (by decide)) (Nat.le_trans hN92 (by decide))) (by kernel_rfl) rfl (fun e_ w97 hR => ?_)
            obtain ⟨A93, c94, rfl, H96⟩ := hR
            have H95 : Hp w [] [.row A87 (ndg 256) c88 22 1 (dg (digs 256)), .row A93 (ndg (V2 * 256)) c94 22 1 (dg (digs (V2 * 256)))] w97 := H89.callNew H96
            refine ⟨_, rfl, [4, 7, 39], [(4, .int .i64 (e : Int)), (7, .int .i64 (j : Int)), (39, .slice A93 (ndg (V2 * 256)) c94)], by kernel_rfl, ?_⟩
            refine GL.run (j := 4) 1 [4, 5, 7] [(4, .int .i64 (e : Int)), (5, .slice A93 (ndg (V2 * 256)) c94), (7, .int .i64 (j : Int))] (by kernel_rfl) rfl ?_
            refine GL.k rfl hK86 (fun _ _ h => h) ?_
            refine G.region ?_
            refine GL.run (j := 3) 3 [4, 5, 7] [(4, .int .i64 (e : Int)), (5, .slice A93 (ndg (V2 * 256)) c94), (7, .int .i64 (IntKind.i64.wrap ((j : Int) + 1)))] (by kernel_rfl) rfl ?_
            have e99 : (IntKind.i64.wrap ((j : Int) + 1)) = ((j + 1 : Nat) : Int) := by rw [in_i64 (by omega)]; omega
            refine GL.eq (M' := [(4, .int .i64 (e : Int)), (5, .slice A93 (ndg (V2 * 256)) c94), (7, .int .i64 ((j + 1 : Nat) : Int))]) (by rw [e99]) ?_
            clear e99
            have H100 : Hp w [] [.row A93 (ndg (V2 * 256)) c94 22 1 (dg (digs (V2 * 256)))] w97 := H95.sub (List.Sublist.cons _ (List.Sublist.cons_cons _ (List.Sublist.slnil)))
            have H101 : Hp w [] [] w97 := H100.sub (List.Sublist.cons _ (List.Sublist.slnil))
            refine GL.fit (ts := [4, 5, 7]) (M' := [(4, .int .i64 (e : Int)), (5, .slice A93 (ndg (V2 * 256)) c94), (7, .int .i64 ((j + 1 : Nat) : Int))]) (by kernel_rfl) ?_
            refine GL.eq (M' := [(4, .int .i64 (e : Int)), (5, .slice A93 (ndg (V2 * 256)) c94), (7, .int .i64 (((j + 1) : Nat) : Int))]) (by rfl) ?_
            exact GL.again ⟨(j + 1), (V2 * 256), A93, c94⟩ [4, 5, 7] rfl (by kernel_rfl) (by show 3 - (j + 1) < 3 - j; omega) ⟨⟨by omega, .inl (by omega), by rw [hV2, show j + 1 - e = (j - e) + 1 by omega, Nat.pow_succ, Nat.mul_assoc], .inr H100⟩, H101⟩
        · skip
          have H102 : Hp w [] [.row Z2 (ndg V2) z2 22 1 (dg (digs V2))] w42 := hrd2
          refine G.seqK fun K103 hK104 => ?_
          refine G.seqK fun K105 hK106 => ?_
          refine G.region ?_
          refine GL.run (j := 2) 2 [4, 5, 7, 34] [(4, .int .i64 (e : Int)), (5, .slice Z2 (ndg V2) z2), (7, .int .i64 (j : Int)), (34, .bool (decide ((j : Int) < 3)))] (by kernel_rfl) rfl ?_
          refine GL.k rfl hK106 (fun _ _ h => h) ?_
          cases hb107 : (decide ((j : Int) < 3))
          · skip
            have hb107f := of_decide_eq_false hb107
            refine G.no rfl ?_
            refine G.exitK hK39 (fun _ _ h => h) ?_
            refine G.seqK fun K108 hK109 => ?_
            refine G.region ?_
            refine GL.run (j := 1) 1 [4, 41] [(4, .int .i64 (e : Int)), (41, .slice Z2 (ndg V2) z2)] (by kernel_rfl) rfl ?_
            have hM : V2 = encM t (encE t) := by rw [← hE]; exact mid_eq hi1 hi2 (by omega) hV hj1 hj2 (by omega) hV2
            have hM24 := encM_lt t
            have hw0 : wd (V2 % K4) 0 = V2 := by rw [Nat.mod_eq_of_lt (show V2 < K4 by omega)]; exact Nat.mod_eq_of_lt (show V2 < K by omega)
            refine GL.call (j := 2) (WordsN_calls V2 Z2 z2 w42 (H102.rdRow 0 rfl) (Nat.le_trans nV2 (by decide))) (by kernel_rfl) rfl (fun e_ w110 hR => ?_)
            obtain ⟨rfl, H112⟩ := hR
            have H111 : Hp w [] [.row Z2 (ndg V2) z2 22 1 (dg (digs V2))] w110 := H102.callNil H112
            refine ⟨_, rfl, [4, 42], [(4, .int .i64 (e : Int)), (42, .tuple #[wv (V2 % K4), .bool (decide (K4 ≤ V2))])], by kernel_rfl, ?_⟩
            refine GL.run (j := 5) 3 [4, 43, 44] [(4, .int .i64 (e : Int)), (43, wv (V2 % K4)), (44, .bool (decide (K4 ≤ V2)))] (by kernel_rfl) rfl ?_
            obtain ⟨p113, w114, r115, H116⟩ := H111.alloc (P := Try.prog) 23 z4 (by kernel_rfl)
            have H116 : Hp w [] [.row Z2 (ndg V2) z2 22 1 (dg (digs V2)), .blk p113 z4 23] w114 := H116
            refine GL.sem (j := 6) (r115) [4, 8, 43, 44] [(4, .int .i64 (e : Int)), (8, pt p113 0), (43, wv (V2 % K4)), (44, .bool (decide (K4 ≤ V2)))] (by kernel_rfl) (by kernel_rfl) rfl ?_
            obtain ⟨w117, r118, H119⟩ := H116.stA (P := Try.prog) (o := 0) (vs := (wl (V2 % K4))) (ty := 23) (m := 4) 1 rfl (by kernel_rfl) rfl (by first | decide | simp) (wl_one _)
            have H119 : Hp w [] [.row Z2 (ndg V2) z2 22 1 (dg (digs V2)), .blk p113 (wl (V2 % K4)) 23] w117 := H119
            refine GL.semU (j := 7) r118 [4, 8, 44] [(4, .int .i64 (e : Int)), (8, pt p113 0), (44, .bool (decide (K4 ≤ V2)))] (by kernel_rfl) rfl rfl rfl ?_
            refine GL.run (j := 8) 1 [4, 8] [(4, .int .i64 (e : Int)), (8, pt p113 0)] (by kernel_rfl) rfl ?_
            refine GL.k rfl hK109 (fun _ _ h => h) ?_
            refine G.seqK fun K120 hK121 => ?_
            refine G.region ?_
            refine GL.run (j := 1) 1 [4, 45] [(4, .int .i64 (e : Int)), (45, pt p113 0)] (by kernel_rfl) rfl ?_
            refine GL.sem (j := 2) (H119.ld (o := 0) (ty := 22) (v := .int .u64 (wd (V2 % K4) 0 : Int)) 1 rfl (by kernel_rfl) rfl) [4, 46] [(4, .int .i64 (e : Int)), (46, .int .u64 (wd (V2 % K4) 0 : Int))] (by kernel_rfl) (by kernel_rfl) rfl ?_
            refine GL.run (j := 3) 1 [4, 10] [(4, .int .i64 (e : Int)), (10, .int .u64 (wd (V2 % K4) 0 : Int))] (by kernel_rfl) rfl ?_
            refine GL.k rfl hK121 (fun _ _ h => h) ?_
            refine G.seqK fun K122 hK123 => ?_
            refine G.seqK fun K124 hK125 => ?_
            refine G.region ?_
            refine GL.run (j := 2) 2 [4, 10, 48] [(4, .int .i64 (e : Int)), (10, .int .u64 (wd (V2 % K4) 0 : Int)), (48, .bool (decide (8388608 ≤ (wd (V2 % K4) 0 : Int))))] (by kernel_rfl) rfl ?_
            refine GL.k rfl hK125 (fun _ _ h => h) ?_
            cases hb126 : (decide (8388608 ≤ (wd (V2 % K4) 0 : Int)))
            · skip
              have hb126f := of_decide_eq_false hb126
              refine G.no rfl ?_
              refine G.skipK hK123 (fun _ _ h => h) ?_
              refine G.seqK fun K127 hK128 => ?_
              refine G.region ?_
              refine GL.run (j := 7) 7 [2] [(2, .int .u32 (IntKind.u32.wrap ((IntKind.u32.wrap (wd (V2 % K4) 0 : Int)) + (IntKind.u32.wrap ((IntKind.u32.wrap (e : Int)) * 16777216)))))] (by kernel_rfl) rfl ?_
              have e129 : (IntKind.u32.wrap (wd (V2 % K4) 0 : Int)) = (wd (V2 % K4) 0 : Int) := in_u32 (by omega)
              have e130 : (IntKind.u32.wrap (e : Int)) = (e : Int) := in_u32 (by omega)
              have e131 : (IntKind.u32.wrap ((e : Int) * 16777216)) = ((e * 16777216 : Nat) : Int) := by rw [in_u32 (by omega)]; omega
              have e132 : (IntKind.u32.wrap ((wd (V2 % K4) 0 : Int) + ((e * 16777216 : Nat) : Int))) = (((wd (V2 % K4) 0) + (e * 16777216) : Nat) : Int) := by rw [in_u32 (by omega)]; omega
              refine GL.eq (M' := [(2, .int .u32 (((wd (V2 % K4) 0) + (e * 16777216) : Nat) : Int))]) (by rw [e129, e130, e131, e132]) ?_
              clear e129 e130 e131 e132
              refine GL.k rfl hK128 (fun _ _ h => h) ?_
              refine G.ret ?_
              intro F_ hF_ hM_
              refine hRet _ _ (bodyPost_1 rfl (RV.tmp rfl) ?_ F_ hF_ hM_)
              have e0 : ((((wd (V2 % K4) 0) + (e * 16777216) : Nat) : Int) : Int) = ((encV t : Nat) : Int) := by
                rw [encV_eq, ← hM, ← hE]
                split <;> omega
              rw [e0]
              exact ⟨rfl, H119.sub (List.nil_sublist _)⟩
            · skip
              have hb126f := of_decide_eq_true hb126
              refine G.yes rfl ?_
              refine G.seqK fun K133 hK134 => ?_
              refine G.region ?_
              refine GL.run (j := 3) 3 [4, 10] [(4, .int .i64 (e : Int)), (10, .int .u64 (IntKind.u64.wrap (Int.tdiv (wd (V2 % K4) 0 : Int) 256)))] (by kernel_rfl) rfl ?_
              have e135 : (IntKind.u64.wrap (Int.tdiv (wd (V2 % K4) 0 : Int) 256)) = (((wd (V2 % K4) 0) / 256 : Nat) : Int) := n_quo 256 (by omega)
              refine GL.eq (M' := [(4, .int .i64 (e : Int)), (10, .int .u64 (((wd (V2 % K4) 0) / 256 : Nat) : Int))]) (by rw [e135]) ?_
              clear e135
              refine GL.k rfl hK134 (fun _ _ h => h) ?_
              refine G.region ?_
              refine GL.run (j := 3) 3 [4, 10] [(4, .int .i64 (IntKind.i64.wrap ((e : Int) + 1))), (10, .int .u64 (((wd (V2 % K4) 0) / 256 : Nat) : Int))] (by kernel_rfl) rfl ?_
              have e136 : (IntKind.i64.wrap ((e : Int) + 1)) = ((e + 1 : Nat) : Int) := by rw [in_i64 (by omega)]; omega
              refine GL.eq (M' := [(4, .int .i64 ((e + 1 : Nat) : Int)), (10, .int .u64 (((wd (V2 % K4) 0) / 256 : Nat) : Int))]) (by rw [e136]) ?_
              clear e136
              refine GL.k rfl hK123 (fun _ _ h => h) ?_
              refine G.seqK fun K137 hK138 => ?_
              refine G.region ?_
              refine GL.run (j := 7) 7 [2] [(2, .int .u32 (IntKind.u32.wrap ((IntKind.u32.wrap (((wd (V2 % K4) 0) / 256 : Nat) : Int)) + (IntKind.u32.wrap ((IntKind.u32.wrap ((e + 1 : Nat) : Int)) * 16777216)))))] (by kernel_rfl) rfl ?_
              have e139 : (IntKind.u32.wrap (((wd (V2 % K4) 0) / 256 : Nat) : Int)) = (((wd (V2 % K4) 0) / 256 : Nat) : Int) := in_u32 (by omega)
              have e140 : (IntKind.u32.wrap ((e + 1 : Nat) : Int)) = ((e + 1 : Nat) : Int) := in_u32 (by omega)
              have e141 : (IntKind.u32.wrap (((e + 1 : Nat) : Int) * 16777216)) = (((e + 1) * 16777216 : Nat) : Int) := by rw [in_u32 (by omega)]; omega
              have e142 : (IntKind.u32.wrap ((((wd (V2 % K4) 0) / 256 : Nat) : Int) + (((e + 1) * 16777216 : Nat) : Int))) = ((((wd (V2 % K4) 0) / 256) + ((e + 1) * 16777216) : Nat) : Int) := by rw [in_u32 (by omega)]; omega
              refine GL.eq (M' := [(2, .int .u32 ((((wd (V2 % K4) 0) / 256) + ((e + 1) * 16777216) : Nat) : Int))]) (by rw [e139, e140, e141, e142]) ?_
              clear e139 e140 e141 e142
              refine GL.k rfl hK138 (fun _ _ h => h) ?_
              refine G.ret ?_
              intro F_ hF_ hM_
              refine hRet _ _ (bodyPost_1 rfl (RV.tmp rfl) ?_ F_ hF_ hM_)
              have e0 : (((((wd (V2 % K4) 0) / 256) + ((e + 1) * 16777216) : Nat) : Int) : Int) = ((encV t : Nat) : Int) := by
                rw [encV_eq, ← hM, ← hE]
                split <;> omega
              rw [e0]
              exact ⟨rfl, H119.sub (List.nil_sublist _)⟩
          · skip
            have hb107f := of_decide_eq_true hb107
            refine G.yes rfl ?_
            refine G.skipK hK104 (fun _ _ h => h) ?_
            refine G.seqK fun K143 hK144 => ?_
            refine G.block ?_
            refine G.region ?_
            refine GL.run (j := 1) 1 [4, 7, 37] [(4, .int .i64 (e : Int)), (7, .int .i64 (j : Int)), (37, .slice Z2 (ndg V2) z2)] (by kernel_rfl) rfl ?_
            have hN150 : ndg 256 ≤ 4 := ndg_K (by decide)
            refine GL.call (j := 2) (one_calls 256 (by decide) w42) (by kernel_rfl) rfl (fun e_ w149 hR => ?_)
            obtain ⟨A145, c146, rfl, H148⟩ := hR
            have H147 : Hp w [] [.row Z2 (ndg V2) z2 22 1 (dg (digs V2)), .row A145 (ndg 256) c146 22 1 (dg (digs 256))] w149 := H102.callNew H148
            refine ⟨_, rfl, [4, 7, 37, 38], [(4, .int .i64 (e : Int)), (7, .int .i64 (j : Int)), (37, .slice Z2 (ndg V2) z2), (38, .slice A145 (ndg 256) c146)], by kernel_rfl, ?_⟩
            have hN156 : ndg (V2 * 256) ≤ 22 := ndg_mul nV2 hN150
            refine GL.call (j := 3) (MulN_calls V2 256 Z2 z2 A145 c146 w149 (H147.rdRow 0 rfl) (H147.rdRow 1 rfl) (Nat.le_trans nV2 (by decide)) (Nat.le_trans hN150 (by decide))) (by kernel_rfl) rfl (fun e_ w155 hR => ?_)
            obtain ⟨A151, c152, rfl, H154⟩ := hR
            have H153 : Hp w [] [.row Z2 (ndg V2) z2 22 1 (dg (digs V2)), .row A145 (ndg 256) c146 22 1 (dg (digs 256)), .row A151 (ndg (V2 * 256)) c152 22 1 (dg (digs (V2 * 256)))] w155 := H147.callNew H154
            refine ⟨_, rfl, [4, 7, 39], [(4, .int .i64 (e : Int)), (7, .int .i64 (j : Int)), (39, .slice A151 (ndg (V2 * 256)) c152)], by kernel_rfl, ?_⟩
            refine GL.run (j := 4) 1 [4, 5, 7] [(4, .int .i64 (e : Int)), (5, .slice A151 (ndg (V2 * 256)) c152), (7, .int .i64 (j : Int))] (by kernel_rfl) rfl ?_
            refine GL.k rfl hK144 (fun _ _ h => h) ?_
            refine G.region ?_
            refine GL.run (j := 3) 3 [4, 5, 7] [(4, .int .i64 (e : Int)), (5, .slice A151 (ndg (V2 * 256)) c152), (7, .int .i64 (IntKind.i64.wrap ((j : Int) + 1)))] (by kernel_rfl) rfl ?_
            have e157 : (IntKind.i64.wrap ((j : Int) + 1)) = ((j + 1 : Nat) : Int) := by rw [in_i64 (by omega)]; omega
            refine GL.eq (M' := [(4, .int .i64 (e : Int)), (5, .slice A151 (ndg (V2 * 256)) c152), (7, .int .i64 ((j + 1 : Nat) : Int))]) (by rw [e157]) ?_
            clear e157
            have H158 : Hp w [] [.row A151 (ndg (V2 * 256)) c152 22 1 (dg (digs (V2 * 256)))] w155 := H153.sub (List.Sublist.cons _ (List.Sublist.cons _ (List.Sublist.cons_cons _ (List.Sublist.slnil))))
            have H159 : Hp w [] [] w155 := H158.sub (List.Sublist.cons _ (List.Sublist.slnil))
            refine GL.fit (ts := [4, 5, 7]) (M' := [(4, .int .i64 (e : Int)), (5, .slice A151 (ndg (V2 * 256)) c152), (7, .int .i64 ((j + 1 : Nat) : Int))]) (by kernel_rfl) ?_
            refine GL.eq (M' := [(4, .int .i64 (e : Int)), (5, .slice A151 (ndg (V2 * 256)) c152), (7, .int .i64 (((j + 1) : Nat) : Int))]) (by rfl) ?_
            exact GL.again ⟨(j + 1), (V2 * 256), A151, c152⟩ [4, 5, 7] rfl (by kernel_rfl) (by show 3 - (j + 1) < 3 - j; omega) ⟨⟨by omega, .inl (by omega), by rw [hV2, show j + 1 - e = (j - e) + 1 by omega, Nat.pow_succ, Nat.mul_assoc], .inr H158⟩, H159⟩
      · skip
        have hb37f := of_decide_eq_true hb37
        refine G.yes rfl ?_
        refine G.skipK hK34 (fun _ _ h => h) ?_
        refine G.seqK fun K160 hK161 => ?_
        refine G.block ?_
        refine G.region ?_
        refine GL.run (j := 1) 1 [4, 6, 27] [(4, .int .i64 (e : Int)), (6, .int .i64 (i : Int)), (27, .slice Z (ndg V) z)] (by kernel_rfl) rfl ?_
        have hN167 : ndg 256 ≤ 4 := ndg_K (by decide)
        refine GL.call (j := 2) (one_calls 256 (by decide) w30) (by kernel_rfl) rfl (fun e_ w166 hR => ?_)
        obtain ⟨A162, c163, rfl, H165⟩ := hR
        have H164 : Hp w [] [.row A162 (ndg 256) c163 22 1 (dg (digs 256))] w166 := H32.callNew H165
        refine ⟨_, rfl, [4, 6, 27, 28], [(4, .int .i64 (e : Int)), (6, .int .i64 (i : Int)), (27, .slice Z (ndg V) z), (28, .slice A162 (ndg 256) c163)], by kernel_rfl, ?_⟩
        have hN175 : ndg (V / 256) ≤ 16 := ndg_div nV
        have hN176 : ndg (V % 256) ≤ 16 := ndg_mod nV
        refine GL.call (j := 3) (DivN_calls V 256 Z z A162 c163 w166 (hrd1.hp H164) (H164.rdRow 0 rfl) (Nat.le_trans nV (by decide)) (Nat.le_trans hN167 (by decide)) (by decide)) (by kernel_rfl) rfl (fun e_ w174 hR => ?_)
        obtain ⟨A168, c169, A170, c171, rfl, H173⟩ := hR
        have H172 : Hp w [] [.row A162 (ndg 256) c163 22 1 (dg (digs 256)), .row A170 (ndg (V % 256)) c171 22 1 (dg (digs (V % 256))), .row A168 (ndg (V / 256)) c169 22 1 (dg (digs (V / 256)))] w174 := H164.callNew H173
        refine ⟨_, rfl, [4, 6, 29], [(4, .int .i64 (e : Int)), (6, .int .i64 (i : Int)), (29, .tuple #[.slice A168 (ndg (V / 256)) c169, .slice A170 (ndg (V % 256)) c171])], by kernel_rfl, ?_⟩
        refine GL.run (j := 7) 4 [4, 5, 6] [(4, .int .i64 (e : Int)), (5, .slice A168 (ndg (V / 256)) c169), (6, .int .i64 (i : Int))] (by kernel_rfl) rfl ?_
        refine GL.k rfl hK161 (fun _ _ h => h) ?_
        refine G.region ?_
        refine GL.run (j := 3) 3 [4, 5, 6] [(4, .int .i64 (e : Int)), (5, .slice A168 (ndg (V / 256)) c169), (6, .int .i64 (IntKind.i64.wrap ((i : Int) - 1)))] (by kernel_rfl) rfl ?_
        have e177 : (IntKind.i64.wrap ((i : Int) - 1)) = ((i - 1 : Nat) : Int) := by rw [in_i64 (by omega)]; omega
        refine GL.eq (M' := [(4, .int .i64 (e : Int)), (5, .slice A168 (ndg (V / 256)) c169), (6, .int .i64 ((i - 1 : Nat) : Int))]) (by rw [e177]) ?_
        clear e177
        have H178 : Hp w [] [.row A168 (ndg (V / 256)) c169 22 1 (dg (digs (V / 256)))] w174 := H172.sub (List.Sublist.cons _ (List.Sublist.cons _ (List.Sublist.cons_cons _ (List.Sublist.slnil))))
        have H179 : Hp w [] [] w174 := H178.sub (List.Sublist.cons _ (List.Sublist.slnil))
        refine GL.fit (ts := [4, 5, 6]) (M' := [(4, .int .i64 (e : Int)), (5, .slice A168 (ndg (V / 256)) c169), (6, .int .i64 ((i - 1 : Nat) : Int))]) (by kernel_rfl) ?_
        refine GL.eq (M' := [(4, .int .i64 (e : Int)), (5, .slice A168 (ndg (V / 256)) c169), (6, .int .i64 (((i - 1) : Nat) : Int))]) (by rfl) ?_
        exact GL.again ⟨(i - 1), (V / 256), A168, c169⟩ [4, 5, 6] rfl (by kernel_rfl) (by show (i - 1) < i; omega) ⟨⟨by omega, by rw [hV, show e - (i - 1) = (e - i) + 1 by omega, Nat.pow_succ, Nat.div_div_eq_div_mul], .inr (by omega), .inr H178⟩, H179⟩
    · skip
      have H180 : Hp w [] [.row Z (ndg V) z 22 1 (dg (digs V))] w30 := hrd1
      refine G.seqK fun K181 hK182 => ?_
      refine G.seqK fun K183 hK184 => ?_
      refine G.region ?_
      refine GL.run (j := 2) 2 [4, 5, 6, 23] [(4, .int .i64 (e : Int)), (5, .slice Z (ndg V) z), (6, .int .i64 (i : Int)), (23, .bool (decide (3 < (i : Int))))] (by kernel_rfl) rfl ?_
      refine GL.k rfl hK184 (fun _ _ h => h) ?_
      cases hb185 : (decide (3 < (i : Int)))
      · skip
        have hb185f := of_decide_eq_false hb185
        refine G.no rfl ?_
        refine G.exitK hK27 (fun _ _ h => h) ?_
        refine G.seqK fun K186 hK187 => ?_
        refine G.seqK fun K188 hK189 => ?_
        refine G.region ?_
        refine GL.run (j := 2) 2 [4, 5, 7] [(4, .int .i64 (e : Int)), (5, .slice Z (ndg V) z), (7, .int .i64 (e : Int))] (by kernel_rfl) rfl ?_
        refine GL.k rfl hK189 (fun _ _ h => h) ?_
        refine G.block ?_
        have H190 : Hp w [] [] w30 := H180.sub (List.Sublist.cons _ (List.Sublist.slnil))
        refine G.fit [4, 5, 7] (M' := [(4, .int .i64 (e : Int)), (5, .slice Z (ndg V) z), (7, .int .i64 (e : Int))]) (by kernel_rfl) ?_
        refine G.loop (X := Nat × Nat × Option Addr × Nat) (fun ⟨j, V2, Z2, z2⟩ => [(4, .int .i64 (e : Int)), (5, .slice Z2 (ndg V2) z2), (7, .int .i64 (j : Int))]) (fun ⟨j, V2, Z2, z2⟩ w_ => (e ≤ j ∧ (j ≤ 3 ∨ j = e) ∧ V2 = V * 256 ^ (j - e) ∧ (RdS w Z2 (dg (digs V2)) ∨ Hp w [] [.row Z2 (ndg V2) z2 22 1 (dg (digs V2))] w_)) ∧ Hp w [] [] w_) (fun ⟨j, V2, Z2, z2⟩ => 3 - j) ⟨e, V, Z, z⟩ [4, 5, 7] (by kernel_rfl) ⟨⟨Nat.le_refl _, .inr rfl, by rw [Nat.sub_self, Nat.pow_zero, Nat.mul_one], .inr H180⟩, H190⟩ ?_
        rintro ⟨j, V2, Z2, z2⟩ w191 ⟨hi192, H193⟩
        refine G.eq (M' := [(4, .int .i64 (e : Int)), (5, .slice Z2 (ndg V2) z2), (7, .int .i64 (j : Int))]) rfl ?_
        have H193 : Hp w [] [] w191 := H193
        obtain ⟨hj1, hj2, hV2, hrd2⟩ := hi192
        have nV2 : ndg V2 ≤ 18 := by rw [hV2]; exact nd_mid hVK (by omega)
        rcases hrd2 with hrd2 | hrd2
        · skip
          refine G.seqK fun K194 hK195 => ?_
          refine G.seqK fun K196 hK197 => ?_
          refine G.region ?_
          refine GL.run (j := 2) 2 [4, 5, 7, 34] [(4, .int .i64 (e : Int)), (5, .slice Z2 (ndg V2) z2), (7, .int .i64 (j : Int)), (34, .bool (decide ((j : Int) < 3)))] (by kernel_rfl) rfl ?_
          refine GL.k rfl hK197 (fun _ _ h => h) ?_
          cases hb198 : (decide ((j : Int) < 3))
          · skip
            have hb198f := of_decide_eq_false hb198
            refine G.no rfl ?_
            refine G.exitK hK187 (fun _ _ h => h) ?_
            refine G.seqK fun K199 hK200 => ?_
            refine G.region ?_
            refine GL.run (j := 1) 1 [4, 41] [(4, .int .i64 (e : Int)), (41, .slice Z2 (ndg V2) z2)] (by kernel_rfl) rfl ?_
            have hM : V2 = encM t (encE t) := by rw [← hE]; exact mid_eq hi1 hi2 (by omega) hV hj1 hj2 (by omega) hV2
            have hM24 := encM_lt t
            have hw0 : wd (V2 % K4) 0 = V2 := by rw [Nat.mod_eq_of_lt (show V2 < K4 by omega)]; exact Nat.mod_eq_of_lt (show V2 < K by omega)
            refine GL.call (j := 2) (WordsN_calls V2 Z2 z2 w191 (hrd2.hp H193) (Nat.le_trans nV2 (by decide))) (by kernel_rfl) rfl (fun e_ w201 hR => ?_)
            obtain ⟨rfl, H203⟩ := hR
            have H202 : Hp w [] [] w201 := H193.callNil H203
            refine ⟨_, rfl, [4, 42], [(4, .int .i64 (e : Int)), (42, .tuple #[wv (V2 % K4), .bool (decide (K4 ≤ V2))])], by kernel_rfl, ?_⟩
            refine GL.run (j := 5) 3 [4, 43, 44] [(4, .int .i64 (e : Int)), (43, wv (V2 % K4)), (44, .bool (decide (K4 ≤ V2)))] (by kernel_rfl) rfl ?_
            obtain ⟨p204, w205, r206, H207⟩ := H202.alloc (P := Try.prog) 23 z4 (by kernel_rfl)
            have H207 : Hp w [] [.blk p204 z4 23] w205 := H207
            refine GL.sem (j := 6) (r206) [4, 8, 43, 44] [(4, .int .i64 (e : Int)), (8, pt p204 0), (43, wv (V2 % K4)), (44, .bool (decide (K4 ≤ V2)))] (by kernel_rfl) (by kernel_rfl) rfl ?_
            obtain ⟨w208, r209, H210⟩ := H207.stA (P := Try.prog) (o := 0) (vs := (wl (V2 % K4))) (ty := 23) (m := 4) 0 rfl (by kernel_rfl) rfl (by first | decide | simp) (wl_one _)
            have H210 : Hp w [] [.blk p204 (wl (V2 % K4)) 23] w208 := H210
            refine GL.semU (j := 7) r209 [4, 8, 44] [(4, .int .i64 (e : Int)), (8, pt p204 0), (44, .bool (decide (K4 ≤ V2)))] (by kernel_rfl) rfl rfl rfl ?_
            refine GL.run (j := 8) 1 [4, 8] [(4, .int .i64 (e : Int)), (8, pt p204 0)] (by kernel_rfl) rfl ?_
            refine GL.k rfl hK200 (fun _ _ h => h) ?_
            refine G.seqK fun K211 hK212 => ?_
            refine G.region ?_
            refine GL.run (j := 1) 1 [4, 45] [(4, .int .i64 (e : Int)), (45, pt p204 0)] (by kernel_rfl) rfl ?_
            refine GL.sem (j := 2) (H210.ld (o := 0) (ty := 22) (v := .int .u64 (wd (V2 % K4) 0 : Int)) 0 rfl (by kernel_rfl) rfl) [4, 46] [(4, .int .i64 (e : Int)), (46, .int .u64 (wd (V2 % K4) 0 : Int))] (by kernel_rfl) (by kernel_rfl) rfl ?_
            refine GL.run (j := 3) 1 [4, 10] [(4, .int .i64 (e : Int)), (10, .int .u64 (wd (V2 % K4) 0 : Int))] (by kernel_rfl) rfl ?_
            refine GL.k rfl hK212 (fun _ _ h => h) ?_
            refine G.seqK fun K213 hK214 => ?_
            refine G.seqK fun K215 hK216 => ?_
            refine G.region ?_
            refine GL.run (j := 2) 2 [4, 10, 48] [(4, .int .i64 (e : Int)), (10, .int .u64 (wd (V2 % K4) 0 : Int)), (48, .bool (decide (8388608 ≤ (wd (V2 % K4) 0 : Int))))] (by kernel_rfl) rfl ?_
            refine GL.k rfl hK216 (fun _ _ h => h) ?_
            cases hb217 : (decide (8388608 ≤ (wd (V2 % K4) 0 : Int)))
            · skip
              have hb217f := of_decide_eq_false hb217
              refine G.no rfl ?_
              refine G.skipK hK214 (fun _ _ h => h) ?_
              refine G.seqK fun K218 hK219 => ?_
              refine G.region ?_
              refine GL.run (j := 7) 7 [2] [(2, .int .u32 (IntKind.u32.wrap ((IntKind.u32.wrap (wd (V2 % K4) 0 : Int)) + (IntKind.u32.wrap ((IntKind.u32.wrap (e : Int)) * 16777216)))))] (by kernel_rfl) rfl ?_
              have e220 : (IntKind.u32.wrap (wd (V2 % K4) 0 : Int)) = (wd (V2 % K4) 0 : Int) := in_u32 (by omega)
              have e221 : (IntKind.u32.wrap (e : Int)) = (e : Int) := in_u32 (by omega)
              have e222 : (IntKind.u32.wrap ((e : Int) * 16777216)) = ((e * 16777216 : Nat) : Int) := by rw [in_u32 (by omega)]; omega
              have e223 : (IntKind.u32.wrap ((wd (V2 % K4) 0 : Int) + ((e * 16777216 : Nat) : Int))) = (((wd (V2 % K4) 0) + (e * 16777216) : Nat) : Int) := by rw [in_u32 (by omega)]; omega
              refine GL.eq (M' := [(2, .int .u32 (((wd (V2 % K4) 0) + (e * 16777216) : Nat) : Int))]) (by rw [e220, e221, e222, e223]) ?_
              clear e220 e221 e222 e223
              refine GL.k rfl hK219 (fun _ _ h => h) ?_
              refine G.ret ?_
              intro F_ hF_ hM_
              refine hRet _ _ (bodyPost_1 rfl (RV.tmp rfl) ?_ F_ hF_ hM_)
              have e0 : ((((wd (V2 % K4) 0) + (e * 16777216) : Nat) : Int) : Int) = ((encV t : Nat) : Int) := by
                rw [encV_eq, ← hM, ← hE]
                split <;> omega
              rw [e0]
              exact ⟨rfl, H210.sub (List.nil_sublist _)⟩
            · skip
              have hb217f := of_decide_eq_true hb217
              refine G.yes rfl ?_
              refine G.seqK fun K224 hK225 => ?_
              refine G.region ?_
              refine GL.run (j := 3) 3 [4, 10] [(4, .int .i64 (e : Int)), (10, .int .u64 (IntKind.u64.wrap (Int.tdiv (wd (V2 % K4) 0 : Int) 256)))] (by kernel_rfl) rfl ?_
              have e226 : (IntKind.u64.wrap (Int.tdiv (wd (V2 % K4) 0 : Int) 256)) = (((wd (V2 % K4) 0) / 256 : Nat) : Int) := n_quo 256 (by omega)
              refine GL.eq (M' := [(4, .int .i64 (e : Int)), (10, .int .u64 (((wd (V2 % K4) 0) / 256 : Nat) : Int))]) (by rw [e226]) ?_
              clear e226
              refine GL.k rfl hK225 (fun _ _ h => h) ?_
              refine G.region ?_
              refine GL.run (j := 3) 3 [4, 10] [(4, .int .i64 (IntKind.i64.wrap ((e : Int) + 1))), (10, .int .u64 (((wd (V2 % K4) 0) / 256 : Nat) : Int))] (by kernel_rfl) rfl ?_
              have e227 : (IntKind.i64.wrap ((e : Int) + 1)) = ((e + 1 : Nat) : Int) := by rw [in_i64 (by omega)]; omega
              refine GL.eq (M' := [(4, .int .i64 ((e + 1 : Nat) : Int)), (10, .int .u64 (((wd (V2 % K4) 0) / 256 : Nat) : Int))]) (by rw [e227]) ?_
              clear e227
              refine GL.k rfl hK214 (fun _ _ h => h) ?_
              refine G.seqK fun K228 hK229 => ?_
              refine G.region ?_
              refine GL.run (j := 7) 7 [2] [(2, .int .u32 (IntKind.u32.wrap ((IntKind.u32.wrap (((wd (V2 % K4) 0) / 256 : Nat) : Int)) + (IntKind.u32.wrap ((IntKind.u32.wrap ((e + 1 : Nat) : Int)) * 16777216)))))] (by kernel_rfl) rfl ?_
              have e230 : (IntKind.u32.wrap (((wd (V2 % K4) 0) / 256 : Nat) : Int)) = (((wd (V2 % K4) 0) / 256 : Nat) : Int) := in_u32 (by omega)
              have e231 : (IntKind.u32.wrap ((e + 1 : Nat) : Int)) = ((e + 1 : Nat) : Int) := in_u32 (by omega)
              have e232 : (IntKind.u32.wrap (((e + 1 : Nat) : Int) * 16777216)) = (((e + 1) * 16777216 : Nat) : Int) := by rw [in_u32 (by omega)]; omega
              have e233 : (IntKind.u32.wrap ((((wd (V2 % K4) 0) / 256 : Nat) : Int) + (((e + 1) * 16777216 : Nat) : Int))) = ((((wd (V2 % K4) 0) / 256) + ((e + 1) * 16777216) : Nat) : Int) := by rw [in_u32 (by omega)]; omega
              refine GL.eq (M' := [(2, .int .u32 ((((wd (V2 % K4) 0) / 256) + ((e + 1) * 16777216) : Nat) : Int))]) (by rw [e230, e231, e232, e233]) ?_
              clear e230 e231 e232 e233
              refine GL.k rfl hK229 (fun _ _ h => h) ?_
              refine G.ret ?_
              intro F_ hF_ hM_
              refine hRet _ _ (bodyPost_1 rfl (RV.tmp rfl) ?_ F_ hF_ hM_)
              have e0 : (((((wd (V2 % K4) 0) / 256) + ((e + 1) * 16777216) : Nat) : Int) : Int) = ((encV t : Nat) : Int) := by
                rw [encV_eq, ← hM, ← hE]
                split <;> omega
              rw [e0]
              exact ⟨rfl, H210.sub (List.nil_sublist _)⟩
          · skip
            have hb198f := of_decide_eq_true hb198
            refine G.yes rfl ?_
            refine G.skipK hK195 (fun _ _ h => h) ?_
            refine G.seqK fun K234 hK235 => ?_
            refine G.block ?_
            refine G.region ?_
            refine GL.run (j := 1) 1 [4, 7, 37] [(4, .int .i64 (e : Int)), (7, .int .i64 (j : Int)), (37, .slice Z2 (ndg V2) z2)] (by kernel_rfl) rfl ?_
            have hN241 : ndg 256 ≤ 4 := ndg_K (by decide)
            refine GL.call (j := 2) (one_calls 256 (by decide) w191) (by kernel_rfl) rfl (fun e_ w240 hR => ?_)
            obtain ⟨A236, c237, rfl, H239⟩ := hR
            have H238 : Hp w [] [.row A236 (ndg 256) c237 22 1 (dg (digs 256))] w240 := H193.callNew H239
            refine ⟨_, rfl, [4, 7, 37, 38], [(4, .int .i64 (e : Int)), (7, .int .i64 (j : Int)), (37, .slice Z2 (ndg V2) z2), (38, .slice A236 (ndg 256) c237)], by kernel_rfl, ?_⟩
            have hN247 : ndg (V2 * 256) ≤ 22 := ndg_mul nV2 hN241
            refine GL.call (j := 3) (MulN_calls V2 256 Z2 z2 A236 c237 w240 (hrd2.hp H238) (H238.rdRow 0 rfl) (Nat.le_trans nV2 (by decide)) (Nat.le_trans hN241 (by decide))) (by kernel_rfl) rfl (fun e_ w246 hR => ?_)
            obtain ⟨A242, c243, rfl, H245⟩ := hR
            have H244 : Hp w [] [.row A236 (ndg 256) c237 22 1 (dg (digs 256)), .row A242 (ndg (V2 * 256)) c243 22 1 (dg (digs (V2 * 256)))] w246 := H238.callNew H245
            refine ⟨_, rfl, [4, 7, 39], [(4, .int .i64 (e : Int)), (7, .int .i64 (j : Int)), (39, .slice A242 (ndg (V2 * 256)) c243)], by kernel_rfl, ?_⟩
            refine GL.run (j := 4) 1 [4, 5, 7] [(4, .int .i64 (e : Int)), (5, .slice A242 (ndg (V2 * 256)) c243), (7, .int .i64 (j : Int))] (by kernel_rfl) rfl ?_
            refine GL.k rfl hK235 (fun _ _ h => h) ?_
            refine G.region ?_
            refine GL.run (j := 3) 3 [4, 5, 7] [(4, .int .i64 (e : Int)), (5, .slice A242 (ndg (V2 * 256)) c243), (7, .int .i64 (IntKind.i64.wrap ((j : Int) + 1)))] (by kernel_rfl) rfl ?_
            have e248 : (IntKind.i64.wrap ((j : Int) + 1)) = ((j + 1 : Nat) : Int) := by rw [in_i64 (by omega)]; omega
            refine GL.eq (M' := [(4, .int .i64 (e : Int)), (5, .slice A242 (ndg (V2 * 256)) c243), (7, .int .i64 ((j + 1 : Nat) : Int))]) (by rw [e248]) ?_
            clear e248
            have H249 : Hp w [] [.row A242 (ndg (V2 * 256)) c243 22 1 (dg (digs (V2 * 256)))] w246 := H244.sub (List.Sublist.cons _ (List.Sublist.cons_cons _ (List.Sublist.slnil)))
            have H250 : Hp w [] [] w246 := H249.sub (List.Sublist.cons _ (List.Sublist.slnil))
            refine GL.fit (ts := [4, 5, 7]) (M' := [(4, .int .i64 (e : Int)), (5, .slice A242 (ndg (V2 * 256)) c243), (7, .int .i64 ((j + 1 : Nat) : Int))]) (by kernel_rfl) ?_
            refine GL.eq (M' := [(4, .int .i64 (e : Int)), (5, .slice A242 (ndg (V2 * 256)) c243), (7, .int .i64 (((j + 1) : Nat) : Int))]) (by rfl) ?_
            exact GL.again ⟨(j + 1), (V2 * 256), A242, c243⟩ [4, 5, 7] rfl (by kernel_rfl) (by show 3 - (j + 1) < 3 - j; omega) ⟨⟨by omega, .inl (by omega), by rw [hV2, show j + 1 - e = (j - e) + 1 by omega, Nat.pow_succ, Nat.mul_assoc], .inr H249⟩, H250⟩
        · skip
          have H251 : Hp w [] [.row Z2 (ndg V2) z2 22 1 (dg (digs V2))] w191 := hrd2
          refine G.seqK fun K252 hK253 => ?_
          refine G.seqK fun K254 hK255 => ?_
          refine G.region ?_
          refine GL.run (j := 2) 2 [4, 5, 7, 34] [(4, .int .i64 (e : Int)), (5, .slice Z2 (ndg V2) z2), (7, .int .i64 (j : Int)), (34, .bool (decide ((j : Int) < 3)))] (by kernel_rfl) rfl ?_
          refine GL.k rfl hK255 (fun _ _ h => h) ?_
          cases hb256 : (decide ((j : Int) < 3))
          · skip
            have hb256f := of_decide_eq_false hb256
            refine G.no rfl ?_
            refine G.exitK hK187 (fun _ _ h => h) ?_
            refine G.seqK fun K257 hK258 => ?_
            refine G.region ?_
            refine GL.run (j := 1) 1 [4, 41] [(4, .int .i64 (e : Int)), (41, .slice Z2 (ndg V2) z2)] (by kernel_rfl) rfl ?_
            have hM : V2 = encM t (encE t) := by rw [← hE]; exact mid_eq hi1 hi2 (by omega) hV hj1 hj2 (by omega) hV2
            have hM24 := encM_lt t
            have hw0 : wd (V2 % K4) 0 = V2 := by rw [Nat.mod_eq_of_lt (show V2 < K4 by omega)]; exact Nat.mod_eq_of_lt (show V2 < K by omega)
            refine GL.call (j := 2) (WordsN_calls V2 Z2 z2 w191 (H251.rdRow 0 rfl) (Nat.le_trans nV2 (by decide))) (by kernel_rfl) rfl (fun e_ w259 hR => ?_)
            obtain ⟨rfl, H261⟩ := hR
            have H260 : Hp w [] [.row Z2 (ndg V2) z2 22 1 (dg (digs V2))] w259 := H251.callNil H261
            refine ⟨_, rfl, [4, 42], [(4, .int .i64 (e : Int)), (42, .tuple #[wv (V2 % K4), .bool (decide (K4 ≤ V2))])], by kernel_rfl, ?_⟩
            refine GL.run (j := 5) 3 [4, 43, 44] [(4, .int .i64 (e : Int)), (43, wv (V2 % K4)), (44, .bool (decide (K4 ≤ V2)))] (by kernel_rfl) rfl ?_
            obtain ⟨p262, w263, r264, H265⟩ := H260.alloc (P := Try.prog) 23 z4 (by kernel_rfl)
            have H265 : Hp w [] [.row Z2 (ndg V2) z2 22 1 (dg (digs V2)), .blk p262 z4 23] w263 := H265
            refine GL.sem (j := 6) (r264) [4, 8, 43, 44] [(4, .int .i64 (e : Int)), (8, pt p262 0), (43, wv (V2 % K4)), (44, .bool (decide (K4 ≤ V2)))] (by kernel_rfl) (by kernel_rfl) rfl ?_
            obtain ⟨w266, r267, H268⟩ := H265.stA (P := Try.prog) (o := 0) (vs := (wl (V2 % K4))) (ty := 23) (m := 4) 1 rfl (by kernel_rfl) rfl (by first | decide | simp) (wl_one _)
            have H268 : Hp w [] [.row Z2 (ndg V2) z2 22 1 (dg (digs V2)), .blk p262 (wl (V2 % K4)) 23] w266 := H268
            refine GL.semU (j := 7) r267 [4, 8, 44] [(4, .int .i64 (e : Int)), (8, pt p262 0), (44, .bool (decide (K4 ≤ V2)))] (by kernel_rfl) rfl rfl rfl ?_
            refine GL.run (j := 8) 1 [4, 8] [(4, .int .i64 (e : Int)), (8, pt p262 0)] (by kernel_rfl) rfl ?_
            refine GL.k rfl hK258 (fun _ _ h => h) ?_
            refine G.seqK fun K269 hK270 => ?_
            refine G.region ?_
            refine GL.run (j := 1) 1 [4, 45] [(4, .int .i64 (e : Int)), (45, pt p262 0)] (by kernel_rfl) rfl ?_
            refine GL.sem (j := 2) (H268.ld (o := 0) (ty := 22) (v := .int .u64 (wd (V2 % K4) 0 : Int)) 1 rfl (by kernel_rfl) rfl) [4, 46] [(4, .int .i64 (e : Int)), (46, .int .u64 (wd (V2 % K4) 0 : Int))] (by kernel_rfl) (by kernel_rfl) rfl ?_
            refine GL.run (j := 3) 1 [4, 10] [(4, .int .i64 (e : Int)), (10, .int .u64 (wd (V2 % K4) 0 : Int))] (by kernel_rfl) rfl ?_
            refine GL.k rfl hK270 (fun _ _ h => h) ?_
            refine G.seqK fun K271 hK272 => ?_
            refine G.seqK fun K273 hK274 => ?_
            refine G.region ?_
            refine GL.run (j := 2) 2 [4, 10, 48] [(4, .int .i64 (e : Int)), (10, .int .u64 (wd (V2 % K4) 0 : Int)), (48, .bool (decide (8388608 ≤ (wd (V2 % K4) 0 : Int))))] (by kernel_rfl) rfl ?_
            refine GL.k rfl hK274 (fun _ _ h => h) ?_
            cases hb275 : (decide (8388608 ≤ (wd (V2 % K4) 0 : Int)))
            · skip
              have hb275f := of_decide_eq_false hb275
              refine G.no rfl ?_
              refine G.skipK hK272 (fun _ _ h => h) ?_
              refine G.seqK fun K276 hK277 => ?_
              refine G.region ?_
              refine GL.run (j := 7) 7 [2] [(2, .int .u32 (IntKind.u32.wrap ((IntKind.u32.wrap (wd (V2 % K4) 0 : Int)) + (IntKind.u32.wrap ((IntKind.u32.wrap (e : Int)) * 16777216)))))] (by kernel_rfl) rfl ?_
              have e278 : (IntKind.u32.wrap (wd (V2 % K4) 0 : Int)) = (wd (V2 % K4) 0 : Int) := in_u32 (by omega)
              have e279 : (IntKind.u32.wrap (e : Int)) = (e : Int) := in_u32 (by omega)
              have e280 : (IntKind.u32.wrap ((e : Int) * 16777216)) = ((e * 16777216 : Nat) : Int) := by rw [in_u32 (by omega)]; omega
              have e281 : (IntKind.u32.wrap ((wd (V2 % K4) 0 : Int) + ((e * 16777216 : Nat) : Int))) = (((wd (V2 % K4) 0) + (e * 16777216) : Nat) : Int) := by rw [in_u32 (by omega)]; omega
              refine GL.eq (M' := [(2, .int .u32 (((wd (V2 % K4) 0) + (e * 16777216) : Nat) : Int))]) (by rw [e278, e279, e280, e281]) ?_
              clear e278 e279 e280 e281
              refine GL.k rfl hK277 (fun _ _ h => h) ?_
              refine G.ret ?_
              intro F_ hF_ hM_
              refine hRet _ _ (bodyPost_1 rfl (RV.tmp rfl) ?_ F_ hF_ hM_)
              have e0 : ((((wd (V2 % K4) 0) + (e * 16777216) : Nat) : Int) : Int) = ((encV t : Nat) : Int) := by
                rw [encV_eq, ← hM, ← hE]
                split <;> omega
              rw [e0]
              exact ⟨rfl, H268.sub (List.nil_sublist _)⟩
            · skip
              have hb275f := of_decide_eq_true hb275
              refine G.yes rfl ?_
              refine G.seqK fun K282 hK283 => ?_
              refine G.region ?_
              refine GL.run (j := 3) 3 [4, 10] [(4, .int .i64 (e : Int)), (10, .int .u64 (IntKind.u64.wrap (Int.tdiv (wd (V2 % K4) 0 : Int) 256)))] (by kernel_rfl) rfl ?_
              have e284 : (IntKind.u64.wrap (Int.tdiv (wd (V2 % K4) 0 : Int) 256)) = (((wd (V2 % K4) 0) / 256 : Nat) : Int) := n_quo 256 (by omega)
              refine GL.eq (M' := [(4, .int .i64 (e : Int)), (10, .int .u64 (((wd (V2 % K4) 0) / 256 : Nat) : Int))]) (by rw [e284]) ?_
              clear e284
              refine GL.k rfl hK283 (fun _ _ h => h) ?_
              refine G.region ?_
              refine GL.run (j := 3) 3 [4, 10] [(4, .int .i64 (IntKind.i64.wrap ((e : Int) + 1))), (10, .int .u64 (((wd (V2 % K4) 0) / 256 : Nat) : Int))] (by kernel_rfl) rfl ?_
              have e285 : (IntKind.i64.wrap ((e : Int) + 1)) = ((e + 1 : Nat) : Int) := by rw [in_i64 (by omega)]; omega
              refine GL.eq (M' := [(4, .int .i64 ((e + 1 : Nat) : Int)), (10, .int .u64 (((wd (V2 % K4) 0) / 256 : Nat) : Int))]) (by rw [e285]) ?_
              clear e285
              refine GL.k rfl hK272 (fun _ _ h => h) ?_
              refine G.seqK fun K286 hK287 => ?_
              refine G.region ?_
              refine GL.run (j := 7) 7 [2] [(2, .int .u32 (IntKind.u32.wrap ((IntKind.u32.wrap (((wd (V2 % K4) 0) / 256 : Nat) : Int)) + (IntKind.u32.wrap ((IntKind.u32.wrap ((e + 1 : Nat) : Int)) * 16777216)))))] (by kernel_rfl) rfl ?_
              have e288 : (IntKind.u32.wrap (((wd (V2 % K4) 0) / 256 : Nat) : Int)) = (((wd (V2 % K4) 0) / 256 : Nat) : Int) := in_u32 (by omega)
              have e289 : (IntKind.u32.wrap ((e + 1 : Nat) : Int)) = ((e + 1 : Nat) : Int) := in_u32 (by omega)
              have e290 : (IntKind.u32.wrap (((e + 1 : Nat) : Int) * 16777216)) = (((e + 1) * 16777216 : Nat) : Int) := by rw [in_u32 (by omega)]; omega
              have e291 : (IntKind.u32.wrap ((((wd (V2 % K4) 0) / 256 : Nat) : Int) + (((e + 1) * 16777216 : Nat) : Int))) = ((((wd (V2 % K4) 0) / 256) + ((e + 1) * 16777216) : Nat) : Int) := by rw [in_u32 (by omega)]; omega
              refine GL.eq (M' := [(2, .int .u32 ((((wd (V2 % K4) 0) / 256) + ((e + 1) * 16777216) : Nat) : Int))]) (by rw [e288, e289, e290, e291]) ?_
              clear e288 e289 e290 e291
              refine GL.k rfl hK287 (fun _ _ h => h) ?_
              refine G.ret ?_
              intro F_ hF_ hM_
              refine hRet _ _ (bodyPost_1 rfl (RV.tmp rfl) ?_ F_ hF_ hM_)
              have e0 : (((((wd (V2 % K4) 0) / 256) + ((e + 1) * 16777216) : Nat) : Int) : Int) = ((encV t : Nat) : Int) := by
                rw [encV_eq, ← hM, ← hE]
                split <;> omega
              rw [e0]
              exact ⟨rfl, H268.sub (List.nil_sublist _)⟩
          · skip
            have hb256f := of_decide_eq_true hb256
            refine G.yes rfl ?_
            refine G.skipK hK253 (fun _ _ h => h) ?_
            refine G.seqK fun K292 hK293 => ?_
            refine G.block ?_
            refine G.region ?_
            refine GL.run (j := 1) 1 [4, 7, 37] [(4, .int .i64 (e : Int)), (7, .int .i64 (j : Int)), (37, .slice Z2 (ndg V2) z2)] (by kernel_rfl) rfl ?_
            have hN299 : ndg 256 ≤ 4 := ndg_K (by decide)
            refine GL.call (j := 2) (one_calls 256 (by decide) w191) (by kernel_rfl) rfl (fun e_ w298 hR => ?_)
            obtain ⟨A294, c295, rfl, H297⟩ := hR
            have H296 : Hp w [] [.row Z2 (ndg V2) z2 22 1 (dg (digs V2)), .row A294 (ndg 256) c295 22 1 (dg (digs 256))] w298 := H251.callNew H297
            refine ⟨_, rfl, [4, 7, 37, 38], [(4, .int .i64 (e : Int)), (7, .int .i64 (j : Int)), (37, .slice Z2 (ndg V2) z2), (38, .slice A294 (ndg 256) c295)], by kernel_rfl, ?_⟩
            have hN305 : ndg (V2 * 256) ≤ 22 := ndg_mul nV2 hN299
            refine GL.call (j := 3) (MulN_calls V2 256 Z2 z2 A294 c295 w298 (H296.rdRow 0 rfl) (H296.rdRow 1 rfl) (Nat.le_trans nV2 (by decide)) (Nat.le_trans hN299 (by decide))) (by kernel_rfl) rfl (fun e_ w304 hR => ?_)
            obtain ⟨A300, c301, rfl, H303⟩ := hR
            have H302 : Hp w [] [.row Z2 (ndg V2) z2 22 1 (dg (digs V2)), .row A294 (ndg 256) c295 22 1 (dg (digs 256)), .row A300 (ndg (V2 * 256)) c301 22 1 (dg (digs (V2 * 256)))] w304 := H296.callNew H303
            refine ⟨_, rfl, [4, 7, 39], [(4, .int .i64 (e : Int)), (7, .int .i64 (j : Int)), (39, .slice A300 (ndg (V2 * 256)) c301)], by kernel_rfl, ?_⟩
            refine GL.run (j := 4) 1 [4, 5, 7] [(4, .int .i64 (e : Int)), (5, .slice A300 (ndg (V2 * 256)) c301), (7, .int .i64 (j : Int))] (by kernel_rfl) rfl ?_
            refine GL.k rfl hK293 (fun _ _ h => h) ?_
            refine G.region ?_
            refine GL.run (j := 3) 3 [4, 5, 7] [(4, .int .i64 (e : Int)), (5, .slice A300 (ndg (V2 * 256)) c301), (7, .int .i64 (IntKind.i64.wrap ((j : Int) + 1)))] (by kernel_rfl) rfl ?_
            have e306 : (IntKind.i64.wrap ((j : Int) + 1)) = ((j + 1 : Nat) : Int) := by rw [in_i64 (by omega)]; omega
            refine GL.eq (M' := [(4, .int .i64 (e : Int)), (5, .slice A300 (ndg (V2 * 256)) c301), (7, .int .i64 ((j + 1 : Nat) : Int))]) (by rw [e306]) ?_
            clear e306
            have H307 : Hp w [] [.row A300 (ndg (V2 * 256)) c301 22 1 (dg (digs (V2 * 256)))] w304 := H302.sub (List.Sublist.cons _ (List.Sublist.cons _ (List.Sublist.cons_cons _ (List.Sublist.slnil))))
            have H308 : Hp w [] [] w304 := H307.sub (List.Sublist.cons _ (List.Sublist.slnil))
            refine GL.fit (ts := [4, 5, 7]) (M' := [(4, .int .i64 (e : Int)), (5, .slice A300 (ndg (V2 * 256)) c301), (7, .int .i64 ((j + 1 : Nat) : Int))]) (by kernel_rfl) ?_
            refine GL.eq (M' := [(4, .int .i64 (e : Int)), (5, .slice A300 (ndg (V2 * 256)) c301), (7, .int .i64 (((j + 1) : Nat) : Int))]) (by rfl) ?_
            exact GL.again ⟨(j + 1), (V2 * 256), A300, c301⟩ [4, 5, 7] rfl (by kernel_rfl) (by show 3 - (j + 1) < 3 - j; omega) ⟨⟨by omega, .inl (by omega), by rw [hV2, show j + 1 - e = (j - e) + 1 by omega, Nat.pow_succ, Nat.mul_assoc], .inr H307⟩, H308⟩
      · skip
        have hb185f := of_decide_eq_true hb185
        refine G.yes rfl ?_
        refine G.skipK hK182 (fun _ _ h => h) ?_
        refine G.seqK fun K309 hK310 => ?_
        refine G.block ?_
        refine G.region ?_
        refine GL.run (j := 1) 1 [4, 6, 27] [(4, .int .i64 (e : Int)), (6, .int .i64 (i : Int)), (27, .slice Z (ndg V) z)] (by kernel_rfl) rfl ?_
        have hN316 : ndg 256 ≤ 4 := ndg_K (by decide)
        refine GL.call (j := 2) (one_calls 256 (by decide) w30) (by kernel_rfl) rfl (fun e_ w315 hR => ?_)
        obtain ⟨A311, c312, rfl, H314⟩ := hR
        have H313 : Hp w [] [.row Z (ndg V) z 22 1 (dg (digs V)), .row A311 (ndg 256) c312 22 1 (dg (digs 256))] w315 := H180.callNew H314
        refine ⟨_, rfl, [4, 6, 27, 28], [(4, .int .i64 (e : Int)), (6, .int .i64 (i : Int)), (27, .slice Z (ndg V) z), (28, .slice A311 (ndg 256) c312)], by kernel_rfl, ?_⟩
        have hN324 : ndg (V / 256) ≤ 16 := ndg_div nV
        have hN325 : ndg (V % 256) ≤ 16 := ndg_mod nV
        refine GL.call (j := 3) (DivN_calls V 256 Z z A311 c312 w315 (H313.rdRow 0 rfl) (H313.rdRow 1 rfl) (Nat.le_trans nV (by decide)) (Nat.le_trans hN316 (by decide)) (by decide)) (by kernel_rfl) rfl (fun e_ w323 hR => ?_)
        obtain ⟨A317, c318, A319, c320, rfl, H322⟩ := hR
        have H321 : Hp w [] [.row Z (ndg V) z 22 1 (dg (digs V)), .row A311 (ndg 256) c312 22 1 (dg (digs 256)), .row A319 (ndg (V % 256)) c320 22 1 (dg (digs (V % 256))), .row A317 (ndg (V / 256)) c318 22 1 (dg (digs (V / 256)))] w323 := H313.callNew H322
        refine ⟨_, rfl, [4, 6, 29], [(4, .int .i64 (e : Int)), (6, .int .i64 (i : Int)), (29, .tuple #[.slice A317 (ndg (V / 256)) c318, .slice A319 (ndg (V % 256)) c320])], by kernel_rfl, ?_⟩
        refine GL.run (j := 7) 4 [4, 5, 6] [(4, .int .i64 (e : Int)), (5, .slice A317 (ndg (V / 256)) c318), (6, .int .i64 (i : Int))] (by kernel_rfl) rfl ?_
        refine GL.k rfl hK310 (fun _ _ h => h) ?_
        refine G.region ?_
        refine GL.run (j := 3) 3 [4, 5, 6] [(4, .int .i64 (e : Int)), (5, .slice A317 (ndg (V / 256)) c318), (6, .int .i64 (IntKind.i64.wrap ((i : Int) - 1)))] (by kernel_rfl) rfl ?_
        have e326 : (IntKind.i64.wrap ((i : Int) - 1)) = ((i - 1 : Nat) : Int) := by rw [in_i64 (by omega)]; omega
        refine GL.eq (M' := [(4, .int .i64 (e : Int)), (5, .slice A317 (ndg (V / 256)) c318), (6, .int .i64 ((i - 1 : Nat) : Int))]) (by rw [e326]) ?_
        clear e326
        have H327 : Hp w [] [.row A317 (ndg (V / 256)) c318 22 1 (dg (digs (V / 256)))] w323 := H321.sub (List.Sublist.cons _ (List.Sublist.cons _ (List.Sublist.cons _ (List.Sublist.cons_cons _ (List.Sublist.slnil)))))
        have H328 : Hp w [] [] w323 := H327.sub (List.Sublist.cons _ (List.Sublist.slnil))
        refine GL.fit (ts := [4, 5, 6]) (M' := [(4, .int .i64 (e : Int)), (5, .slice A317 (ndg (V / 256)) c318), (6, .int .i64 ((i - 1 : Nat) : Int))]) (by kernel_rfl) ?_
        refine GL.eq (M' := [(4, .int .i64 (e : Int)), (5, .slice A317 (ndg (V / 256)) c318), (6, .int .i64 (((i - 1) : Nat) : Int))]) (by rfl) ?_
        exact GL.again ⟨(i - 1), (V / 256), A317, c318⟩ [4, 5, 6] rfl (by kernel_rfl) (by show (i - 1) < i; omega) ⟨⟨by omega, by rw [hV, show e - (i - 1) = (e - i) + 1 by omega, Nat.pow_succ, Nat.div_div_eq_div_mul], .inr (by omega), .inr H327⟩, H328⟩
  · skip
    have hb23f := of_decide_eq_true hb23
    refine G.yes rfl ?_
    refine G.skipK hK19 (fun _ _ h => h) ?_
    refine G.block ?_
    refine G.region ?_
    refine GL.run (j := 3) 3 [0, 3, 4] [(0, .slice A (ndg t) c), (3, .slice A5 (bl t) c6), (4, .int .i64 (IntKind.i64.wrap ((e : Int) + 1)))] (by kernel_rfl) rfl ?_
    have e329 : (IntKind.i64.wrap ((e : Int) + 1)) = ((e + 1 : Nat) : Int) := by rw [in_i64 (by omega)]; omega
    refine GL.eq (M' := [(0, .slice A (ndg t) c), (3, .slice A5 (bl t) c6), (4, .int .i64 ((e + 1 : Nat) : Int))]) (by rw [e329]) ?_
    clear e329
    refine GL.fit (ts := [0, 3, 4]) (M' := [(0, .slice A (ndg t) c), (3, .slice A5 (bl t) c6), (4, .int .i64 ((e + 1 : Nat) : Int))]) (by kernel_rfl) ?_
    refine GL.eq (M' := [(0, .slice A (ndg t) c), (3, .slice A5 (bl t) c6), (4, .int .i64 (((e + 1) : Nat) : Int))]) (by rfl) ?_
    exact GL.againB (e + 1) [0, 3, 4] rfl (by kernel_rfl) (by show bl t - (e + 1) < bl t - e; omega) ⟨.inr (by omega), H17⟩
end Go.Proofs.Ytjfllmkihfidcaa
