/- Part 5 of what headerMines_proved stands on. -/
import Derived.Test.YtdepaaphgfapjaaZm4
set_option linter.unusedVariables false
set_option maxRecDepth 100000
namespace Go.Proofs.Ytdepaaphgfapjaa
open Go.RowKit
theorem u32_quo {a : Nat} (k : Nat) (h : a < 4294967296) : IntKind.u32.wrap (Int.tdiv (a : Int) (k : Int)) = ((a / k : Nat) : Int) := by
 rw [← Int.ofNat_tdiv]
 have := Nat.div_le_self a k
 generalize a / k = q at *
 rw [in_u32 (by omega)]
theorem nd_up {m j : Nat} (hm : m < 8388608) (hj : j ≤ 252) : ndg (m * 256 ^ j) ≤ 128 := by
 refine ndg_le.2 ?_
 have h1 : 256 ^ j ≤ 256 ^ 252 := Nat.pow_le_pow_right (by decide) hj
 have h2 : m * 256 ^ j ≤ 8388608 * 256 ^ 252 := Nat.mul_le_mul (by omega) h1
 exact Nat.lt_of_le_of_lt h2 (by decide)
theorem refOK_of {b V : Nat} (hT : V = refT b) : refOK b = true ↔ ¬ (b / 8388608 % 2 = 1 ∧ 0 < b % 8388608) ∧ 0 < V ∧ V < K4 := by
 subst hT
 simp only [refOK, Bool.and_eq_true, Bool.not_eq_true', Bool.and_eq_false_iff, decide_eq_true_eq, decide_eq_false_iff_not, and_assoc, Decidable.not_and_iff_not_or_not]
theorem Decode6_calls (b : Nat) (hb : b < 4294967296) (w : World) : Calls Try.prog 9 #[.int .u32 (b : Int)] w fun e w' => ∃ A c, e = .returned (.tuple #[(.slice A (ndg (refT b)) c), .bool (refOK b)]) ∧ Hp w [] [.row A (ndg (refT b)) c 31 1 (dg (digs (refT b)))] w' := by
 have hMX : MX = 4611686018427387904 := rfl
 have hK0 : K = 18446744073709551616 := rfl
 have hK40 : K4 = 115792089237316195423570985008687907853269984665640564039457584007913129639936 := rfl
 refine calls_G (args := [vw b]) Try.func9 rfl Try.ntmps9 rfl ?_
 intro Q0 hRet hNor hPan
 have H := Hp.start w
 refine G.sr fun K1 hK2 => ?_
 refine GL.r 2 2 [(0, vw b)] ?_
 refine GL.q hK2 ?_
 refine G.sr fun K3 hK4 => ?_
 refine GL.r 8 8 [(0, vw b), (4, li (IntKind.i64.wrap (IntKind.u32.wrap (Int.tdiv (b : Int) 16777216)))), (5, lu (IntKind.u64.wrap (Int.tmod (b : Int) 8388608)))] ?_
 have e5 : (IntKind.u32.wrap (Int.tdiv (b : Int) 16777216)) = ((b / 16777216 : Nat) : Int) := u32_quo 16777216 (by omega)
 have e6 : (IntKind.i64.wrap ((b / 16777216 : Nat) : Int)) = ((b / 16777216 : Nat) : Int) := in_i64 (by omega)
 have e7 : (Int.tmod (b : Int) 8388608) = ((b % 8388608 : Nat) : Int) := n_rem _ 8388608
 have e8 : (IntKind.u64.wrap ((b % 8388608 : Nat) : Int)) = ((b % 8388608 : Nat) : Int) := in_u64 (by omega)
 rw [e5, e6, e7, e8]
 clear e5 e6 e7 e8
 refine GL.q hK4 ?_
 refine G.sr fun K9 hK10 => ?_
 refine GL.r 1 1 [(0, vw b), (4, vi (b / 16777216)), (5, vu (b % 8388608)), (14, vu (b % 8388608))] ?_
 have hN16 : ndg (b % 8388608) ≤ 4 := ndg_K (Nat.lt_trans (Nat.mod_lt _ (by decide : 0 < 8388608)) (by decide))
 refine GL.call (j := 2) (one_calls (b % 8388608) (Nat.lt_trans (Nat.mod_lt _ (by decide : 0 < 8388608)) (by decide)) w) (by kernel_rfl) rfl (fun e_ w15 hR => ?_)
 obtain ⟨A11, c12, rfl, H14⟩ := hR
 have H13 : Hp w [] [.row A11 (ndg (b % 8388608)) c12 31 1 (dg (digs (b % 8388608)))] w15 := H.callNew H14
 refine ⟨_, rfl, [0, 4, 5, 15], [(0, vw b), (4, vi (b / 16777216)), (5, vu (b % 8388608)), (15, .slice A11 (ndg (b % 8388608)) c12)], by kernel_rfl, ?_⟩
 refine GL.r 3 1 [(0, vw b), (4, vi (b / 16777216)), (5, vu (b % 8388608)), (6, .slice A11 (ndg (b % 8388608)) c12)] ?_
 refine GL.q hK10 ?_
 refine G.seqK fun K17 hK18 => ?_
 refine G.block ?_
 refine G.fit [0, 4, 5, 6] (M' := [(0, vw b), (4, vi (b / 16777216)), (5, vu (b % 8388608)), (6, .slice A11 (ndg (b % 8388608)) c12)]) (by kernel_rfl) ?_
 refine G.eq (M' := [(0, vw b), (4, vi (b / 16777216)), (5, vu (b % 8388608)), (6, .slice A11 (ndg (b % 8388608)) c12)]) (by rfl) ?_
 refine G.loop (X := Nat × Nat × Option Addr × Nat) (fun ⟨e, V, Z, z⟩ => [(0, vw b), (4, vi e), (5, vu (b % 8388608)), (6, .slice Z (ndg V) z)]) (fun ⟨e, V, Z, z⟩ w_ => (e ≤ (b / 16777216) ∧ V = b % 8388608 * 256 ^ ((b / 16777216) - e) ∧ (e = (b / 16777216) ∨ 3 ≤ e)) ∧ Hp w [] [.row Z (ndg V) z 31 1 (dg (digs V))] w_) (fun ⟨e, V, Z, z⟩ => e) ⟨(b / 16777216), (b % 8388608), A11, c12⟩ [0, 4, 5, 6] (by kernel_rfl) ⟨⟨Nat.le_refl _, by rw [Nat.sub_self, Nat.pow_zero, Nat.mul_one], .inl rfl⟩, H13⟩ ?_
 rintro ⟨e, V, Z, z⟩ w19 ⟨hi20, H21⟩
 refine G.eq (M' := [(0, vw b), (4, vi e), (5, vu (b % 8388608)), (6, .slice Z (ndg V) z)]) rfl ?_
 obtain ⟨he1, hV, he2⟩ := hi20
 have nV : ndg V ≤ 128 := by rw [hV]; exact nd_up (Nat.mod_lt _ (by decide)) (by omega)
 refine G.seqK fun K22 hK23 => ?_
 refine G.sr fun K24 hK25 => ?_
 refine GL.r 2 2 [(0, vw b), (4, vi e), (5, vu (b % 8388608)), (6, .slice Z (ndg V) z), (17, .bool (decide (3 < (e : Int))))] ?_
 refine GL.q hK25 ?_
 cases hb26 : (decide (3 < (e : Int)))
 · skip
   have hb26f := of_decide_eq_false hb26
   refine G.no rfl ?_
   refine G.exitK hK18 (fun _ _ h => h) ?_
   refine G.seqK fun K27 hK28 => ?_
   refine G.block ?_
   refine G.fit [0, 4, 5, 6] (M' := [(0, vw b), (4, vi e), (5, vu (b % 8388608)), (6, .slice Z (ndg V) z)]) (by kernel_rfl) ?_
   refine G.loop (X := Nat × Nat × Option Addr × Nat) (fun ⟨f, V2, Z2, z2⟩ => [(0, vw b), (4, vi f), (5, vu (b % 8388608)), (6, .slice Z2 (ndg V2) z2)]) (fun ⟨f, V2, Z2, z2⟩ w_ => (e ≤ f ∧ f ≤ 3 ∧ V2 = V / 256 ^ (f - e)) ∧ Hp w [] [.row Z2 (ndg V2) z2 31 1 (dg (digs V2))] w_) (fun ⟨f, V2, Z2, z2⟩ => 3 - f) ⟨e, V, Z, z⟩ [0, 4, 5, 6] (by kernel_rfl) ⟨⟨Nat.le_refl _, by omega, by rw [Nat.sub_self, Nat.pow_zero, Nat.div_one]⟩, H21⟩ ?_
   rintro ⟨f, V2, Z2, z2⟩ w29 ⟨hi30, H31⟩
   refine G.eq (M' := [(0, vw b), (4, vi f), (5, vu (b % 8388608)), (6, .slice Z2 (ndg V2) z2)]) rfl ?_
   obtain ⟨hf1, hf2, hV2⟩ := hi30
   have nV2 : ndg V2 ≤ 128 := by rw [hV2]; exact ndg_div nV
   refine G.seqK fun K32 hK33 => ?_
   refine G.sr fun K34 hK35 => ?_
   refine GL.r 2 2 [(0, vw b), (4, vi f), (5, vu (b % 8388608)), (6, .slice Z2 (ndg V2) z2), (24, .bool (decide ((f : Int) < 3)))] ?_
   refine GL.q hK35 ?_
   cases hb36 : (decide ((f : Int) < 3))
   · skip
     have hb36f := of_decide_eq_false hb36
     refine G.no rfl ?_
     refine G.exitK hK28 (fun _ _ h => h) ?_
     refine G.sr fun K37 hK38 => ?_
     refine GL.r 5 5 [(5, vu (b % 8388608)), (6, .slice Z2 (ndg V2) z2), (37, .bool ((Int.tmod (IntKind.u32.wrap (Int.tdiv (b : Int) 8388608)) 2) == 1))] ?_
     have e39 : (IntKind.u32.wrap (Int.tdiv (b : Int) 8388608)) = ((b / 8388608 : Nat) : Int) := u32_quo 8388608 (by omega)
     have e40 : (Int.tmod ((b / 8388608 : Nat) : Int) 2) = (((b / 8388608) % 2 : Nat) : Int) := n_rem _ 2
     rw [e39, e40]
     clear e39 e40
     cases hb41 : ((((b / 8388608) % 2 : Nat) : Int) == 1)
     · skip
       have hb41f := ne_of_beq_false hb41
       refine GL.r 9 4 [(6, .slice Z2 (ndg V2) z2), (7, .bool false)] ?_
       refine GL.q hK38 ?_
       refine G.sr fun K42 hK43 => ?_
       refine GL.r 9 9 [(6, .slice Z2 (ndg V2) z2), (41, .slice Z2 (ndg V2) z2), (49, .bool (decide (0 < (((ndg V2) : Nat) : Int))))] ?_
       cases hb44 : (decide (0 < (((ndg V2) : Nat) : Int)))
       · skip
         have hb44f := of_decide_eq_false hb44
         refine GL.r 15 6 [(2, .slice Z2 (ndg V2) z2), (3, .bool false)] ?_
         refine GL.q hK43 ?_
         refine G.ret fun F_ hF_ hM_ => hRet _ _ (bodyPost_2 rfl (RV.tmp rfl) (RV.tmp rfl) ?_ F_ hF_ hM_)
         have hT : V2 = refT b := by
           unfold refT
           rw [hV2, hV]
           split
           · rw [show f - e = 0 by omega, Nat.pow_zero, Nat.div_one, show e = 3 by omega]
           · rw [show (b / 16777216) - e = 0 by omega, Nat.pow_zero, Nat.mul_one, show f - e = 3 - (b / 16777216) by omega]
         have h16 := @ndg_le V2 16
         rw [show 65536 ^ 16 = K4 by decide] at h16
         have hp := @ndg_pos V2
         have hO := refOK_of hT
         have e0 : false = refOK b := (Bool.eq_false_iff.2 fun h => by have := hO.1 h; omega).symm
         rw [e0]
         have HF := H31
         rw [hT] at HF
         rw [hT]
         exact ⟨_, _, rfl, HF⟩
       · skip
         have hb44f := of_decide_eq_true hb44
         refine GL.r 15 6 [(2, .slice Z2 (ndg V2) z2), (3, .bool (decide ((((ndg V2) : Nat) : Int) ≤ 16)))] ?_
         refine GL.q hK43 ?_
         refine G.ret fun F_ hF_ hM_ => hRet _ _ (bodyPost_2 rfl (RV.tmp rfl) (RV.tmp rfl) ?_ F_ hF_ hM_)
         have hT : V2 = refT b := by
           unfold refT
           rw [hV2, hV]
           split
           · rw [show f - e = 0 by omega, Nat.pow_zero, Nat.div_one, show e = 3 by omega]
           · rw [show (b / 16777216) - e = 0 by omega, Nat.pow_zero, Nat.mul_one, show f - e = 3 - (b / 16777216) by omega]
         have h16 := @ndg_le V2 16
         rw [show 65536 ^ 16 = K4 by decide] at h16
         have hp := @ndg_pos V2
         have hO := refOK_of hT
         have e0 : ((decide ((((ndg V2) : Nat) : Int) ≤ 16)) : Bool) = refOK b := by rw [Bool.eq_iff_iff, hO, decide_eq_true_eq]; omega
         rw [e0]
         have HF := H31
         rw [hT] at HF
         rw [hT]
         exact ⟨_, _, rfl, HF⟩
     · skip
       have hb41f := eq_of_beq hb41
       refine GL.r 9 4 [(6, .slice Z2 (ndg V2) z2), (7, .bool (decide (0 < ((b % 8388608 : Nat) : Int))))] ?_
       refine GL.q hK38 ?_
       refine G.sr fun K45 hK46 => ?_
       refine GL.r 4 4 [(6, .slice Z2 (ndg V2) z2), (41, .slice Z2 (ndg V2) z2), (44, .bool (!(decide (0 < ((b % 8388608 : Nat) : Int)))))] ?_
       cases hb47 : (decide (0 < ((b % 8388608 : Nat) : Int)))
       · skip
         have hb47f := of_decide_eq_false hb47
         refine GL.r 9 5 [(6, .slice Z2 (ndg V2) z2), (41, .slice Z2 (ndg V2) z2), (49, .bool (decide (0 < (((ndg V2) : Nat) : Int))))] ?_
         cases hb48 : (decide (0 < (((ndg V2) : Nat) : Int)))
         · skip
           have hb48f := of_decide_eq_false hb48
           refine GL.r 15 6 [(2, .slice Z2 (ndg V2) z2), (3, .bool false)] ?_
           refine GL.q hK46 ?_
           refine G.ret fun F_ hF_ hM_ => hRet _ _ (bodyPost_2 rfl (RV.tmp rfl) (RV.tmp rfl) ?_ F_ hF_ hM_)
           have hT : V2 = refT b := by
             unfold refT
             rw [hV2, hV]
             split
             · rw [show f - e = 0 by omega, Nat.pow_zero, Nat.div_one, show e = 3 by omega]
             · rw [show (b / 16777216) - e = 0 by omega, Nat.pow_zero, Nat.mul_one, show f - e = 3 - (b / 16777216) by omega]
           have h16 := @ndg_le V2 16
           rw [show 65536 ^ 16 = K4 by decide] at h16
           have hp := @ndg_pos V2
           have hO := refOK_of hT
           have e0 : false = refOK b := (Bool.eq_false_iff.2 fun h => by have := hO.1 h; omega).symm
           rw [e0]
           have HF := H31
           rw [hT] at HF
           rw [hT]
           exact ⟨_, _, rfl, HF⟩
         · skip
           have hb48f := of_decide_eq_true hb48
           refine GL.r 15 6 [(2, .slice Z2 (ndg V2) z2), (3, .bool (decide ((((ndg V2) : Nat) : Int) ≤ 16)))] ?_
           refine GL.q hK46 ?_
           refine G.ret fun F_ hF_ hM_ => hRet _ _ (bodyPost_2 rfl (RV.tmp rfl) (RV.tmp rfl) ?_ F_ hF_ hM_)
           have hT : V2 = refT b := by
             unfold refT
             rw [hV2, hV]
             split
             · rw [show f - e = 0 by omega, Nat.pow_zero, Nat.div_one, show e = 3 by omega]
             · rw [show (b / 16777216) - e = 0 by omega, Nat.pow_zero, Nat.mul_one, show f - e = 3 - (b / 16777216) by omega]
           have h16 := @ndg_le V2 16
           rw [show 65536 ^ 16 = K4 by decide] at h16
           have hp := @ndg_pos V2
           have hO := refOK_of hT
           have e0 : ((decide ((((ndg V2) : Nat) : Int) ≤ 16)) : Bool) = refOK b := by rw [Bool.eq_iff_iff, hO, decide_eq_true_eq]; omega
           rw [e0]
           have HF := H31
           rw [hT] at HF
           rw [hT]
           exact ⟨_, _, rfl, HF⟩
       · skip
         have hb47f := of_decide_eq_true hb47
         refine GL.r 15 11 [(2, .slice Z2 (ndg V2) z2), (3, .bool false)] ?_
         refine GL.q hK46 ?_
         refine G.ret fun F_ hF_ hM_ => hRet _ _ (bodyPost_2 rfl (RV.tmp rfl) (RV.tmp rfl) ?_ F_ hF_ hM_)
         have hT : V2 = refT b := by
           unfold refT
           rw [hV2, hV]
           split
           · rw [show f - e = 0 by omega, Nat.pow_zero, Nat.div_one, show e = 3 by omega]
           · rw [show (b / 16777216) - e = 0 by omega, Nat.pow_zero, Nat.mul_one, show f - e = 3 - (b / 16777216) by omega]
         have h16 := @ndg_le V2 16
         rw [show 65536 ^ 16 = K4 by decide] at h16
         have hp := @ndg_pos V2
         have hO := refOK_of hT
         have e0 : false = refOK b := (Bool.eq_false_iff.2 fun h => by have := hO.1 h; omega).symm
         rw [e0]
         have HF := H31
         rw [hT] at HF
         rw [hT]
         exact ⟨_, _, rfl, HF⟩
   · skip
     have hb36f := of_decide_eq_true hb36
     refine G.yes rfl ?_
     refine G.skipK hK33 (fun _ _ h => h) ?_
     refine G.seqK fun K49 hK50 => ?_
     refine G.block ?_
     refine G.region ?_
     refine GL.r 1 1 [(0, vw b), (4, vi f), (5, vu (b % 8388608)), (28, .slice Z2 (ndg V2) z2)] ?_
     have hN56 : ndg 256 ≤ 4 := ndg_K (by decide)
     refine GL.call (j := 2) (one_calls 256 (by decide) w29) (by kernel_rfl) rfl (fun e_ w55 hR => ?_)
     obtain ⟨A51, c52, rfl, H54⟩ := hR
     have H53 : Hp w [] [.row Z2 (ndg V2) z2 31 1 (dg (digs V2)), .row A51 (ndg 256) c52 31 1 (dg (digs 256))] w55 := H31.callNew H54
     refine ⟨_, rfl, [0, 4, 5, 28, 29], [(0, vw b), (4, vi f), (5, vu (b % 8388608)), (28, .slice Z2 (ndg V2) z2), (29, .slice A51 (ndg 256) c52)], by kernel_rfl, ?_⟩
     have hN64 : ndg (V2 / 256) ≤ 128 := ndg_div nV2
     have hN65 : ndg (V2 % 256) ≤ 128 := ndg_mod nV2
     refine GL.call (j := 3) (DivN_calls V2 256 Z2 z2 A51 c52 w55 (H53.rdRow 0 rfl) (H53.rdRow 1 rfl) (Nat.le_trans nV2 (by decide)) (Nat.le_trans hN56 (by decide)) (by decide)) (by kernel_rfl) rfl (fun e_ w63 hR => ?_)
     obtain ⟨A57, c58, A59, c60, rfl, H62⟩ := hR
     have H61 : Hp w [] [.row Z2 (ndg V2) z2 31 1 (dg (digs V2)), .row A51 (ndg 256) c52 31 1 (dg (digs 256)), .row A59 (ndg (V2 % 256)) c60 31 1 (dg (digs (V2 % 256))), .row A57 (ndg (V2 / 256)) c58 31 1 (dg (digs (V2 / 256)))] w63 := H53.callNew H62
     refine ⟨_, rfl, [0, 4, 5, 30], [(0, vw b), (4, vi f), (5, vu (b % 8388608)), (30, .tuple #[.slice A57 (ndg (V2 / 256)) c58, .slice A59 (ndg (V2 % 256)) c60])], by kernel_rfl, ?_⟩
     refine GL.r 7 4 [(0, vw b), (4, vi f), (5, vu (b % 8388608)), (6, .slice A57 (ndg (V2 / 256)) c58)] ?_
     refine GL.q hK50 ?_
     refine G.region ?_
     refine GL.r 3 3 [(0, vw b), (4, li (IntKind.i64.wrap ((f : Int) + 1))), (5, vu (b % 8388608)), (6, .slice A57 (ndg (V2 / 256)) c58)] ?_
     have e66 : (IntKind.i64.wrap ((f : Int) + 1)) = ((f + 1 : Nat) : Int) := by rw [in_i64 (by omega)]; omega
     rw [e66]
     clear e66
     have H67 : Hp w [] [.row A57 (ndg (V2 / 256)) c58 31 1 (dg (digs (V2 / 256)))] w63 := H61.sub (List.Sublist.cons _ (List.Sublist.cons _ (List.Sublist.cons _ (List.Sublist.cons_cons _ (List.Sublist.slnil)))))
     refine GL.fit (ts := [0, 4, 5, 6]) (M' := [(0, vw b), (4, vi (f + 1)), (5, vu (b % 8388608)), (6, .slice A57 (ndg (V2 / 256)) c58)]) (by kernel_rfl) ?_
     refine GL.eq (M' := [(0, vw b), (4, vi (f + 1)), (5, vu (b % 8388608)), (6, .slice A57 (ndg (V2 / 256)) c58)]) (by rfl) ?_
     exact GL.again ⟨(f + 1), (V2 / 256), A57, c58⟩ [0, 4, 5, 6] rfl (by kernel_rfl) (by show 3 - (f + 1) < 3 - f; omega) ⟨⟨by omega, by omega, by rw [hV2, show f + 1 - e = (f - e) + 1 by omega, Nat.pow_succ, Nat.div_div_eq_div_mul]⟩, H67⟩
 · skip
   have hb26f := of_decide_eq_true hb26
   refine G.yes rfl ?_
   refine G.skipK hK23 (fun _ _ h => h) ?_
   refine G.seqK fun K68 hK69 => ?_
   refine G.block ?_
   refine G.region ?_
   refine GL.r 1 1 [(0, vw b), (4, vi e), (5, vu (b % 8388608)), (20, .slice Z (ndg V) z)] ?_
   have hN75 : ndg 256 ≤ 4 := ndg_K (by decide)
   refine GL.call (j := 2) (one_calls 256 (by decide) w19) (by kernel_rfl) rfl (fun e_ w74 hR => ?_)
   obtain ⟨A70, c71, rfl, H73⟩ := hR
   have H72 : Hp w [] [.row Z (ndg V) z 31 1 (dg (digs V)), .row A70 (ndg 256) c71 31 1 (dg (digs 256))] w74 := H21.callNew H73
   refine ⟨_, rfl, [0, 4, 5, 20, 21], [(0, vw b), (4, vi e), (5, vu (b % 8388608)), (20, .slice Z (ndg V) z), (21, .slice A70 (ndg 256) c71)], by kernel_rfl, ?_⟩
   have hN81 : ndg (V * 256) ≤ 132 := ndg_mul nV hN75
   refine GL.call (j := 3) (MulN_calls V 256 Z z A70 c71 w74 (H72.rdRow 0 rfl) (H72.rdRow 1 rfl) (Nat.le_trans nV (by decide)) (Nat.le_trans hN75 (by decide))) (by kernel_rfl) rfl (fun e_ w80 hR => ?_)
   obtain ⟨A76, c77, rfl, H79⟩ := hR
   have H78 : Hp w [] [.row Z (ndg V) z 31 1 (dg (digs V)), .row A70 (ndg 256) c71 31 1 (dg (digs 256)), .row A76 (ndg (V * 256)) c77 31 1 (dg (digs (V * 256)))] w80 := H72.callNew H79
   refine ⟨_, rfl, [0, 4, 5, 22], [(0, vw b), (4, vi e), (5, vu (b % 8388608)), (22, .slice A76 (ndg (V * 256)) c77)], by kernel_rfl, ?_⟩
   refine GL.r 4 1 [(0, vw b), (4, vi e), (5, vu (b % 8388608)), (6, .slice A76 (ndg (V * 256)) c77)] ?_
   refine GL.q hK69 ?_
   refine G.region ?_
   refine GL.r 3 3 [(0, vw b), (4, li (IntKind.i64.wrap ((e : Int) - 1))), (5, vu (b % 8388608)), (6, .slice A76 (ndg (V * 256)) c77)] ?_
   have e82 : (IntKind.i64.wrap ((e : Int) - 1)) = ((e - 1 : Nat) : Int) := by rw [in_i64 (by omega)]; omega
   rw [e82]
   clear e82
   have H83 : Hp w [] [.row A76 (ndg (V * 256)) c77 31 1 (dg (digs (V * 256)))] w80 := H78.sub (List.Sublist.cons _ (List.Sublist.cons _ (List.Sublist.cons_cons _ (List.Sublist.slnil))))
   refine GL.fit (ts := [0, 4, 5, 6]) (M' := [(0, vw b), (4, vi (e - 1)), (5, vu (b % 8388608)), (6, .slice A76 (ndg (V * 256)) c77)]) (by kernel_rfl) ?_
   refine GL.eq (M' := [(0, vw b), (4, vi (e - 1)), (5, vu (b % 8388608)), (6, .slice A76 (ndg (V * 256)) c77)]) (by rfl) ?_
   exact GL.again ⟨(e - 1), (V * 256), A76, c77⟩ [0, 4, 5, 6] rfl (by kernel_rfl) (by show (e - 1) < e; omega) ⟨⟨by omega, by rw [hV, show (b / 16777216) - (e - 1) = ((b / 16777216) - e) + 1 by omega, Nat.pow_succ, Nat.mul_assoc], .inr (by omega)⟩, H83⟩
end Go.Proofs.Ytdepaaphgfapjaa
namespace Go.Proofs.Ytdepaaphgfapjaa
open Go.RowKit
theorem val_takeD (ds : List Nat) (m : Nat) : val (ds.take (m + 1)) = val (ds.take m) + 65536 ^ m * ds.getD m 0 := by
 by_cases h : m < ds.length
 · exact val_take (getD_at h)
 · rw [List.take_of_length_le (by omega), List.take_of_length_le (by omega), List.getD_eq_getElem?_getD, List.getElem?_eq_none (by omega)]
   simp
theorem ok_take {ds : List Nat} (h : ok16 ds) (m : Nat) : ok16 (ds.take m) := fun d hd => h d (List.mem_of_mem_take hd)
theorem val_take_lt {ds : List Nat} (h : ok16 ds) (m : Nat) : val (ds.take m) < 65536 ^ m := by
 refine Nat.lt_of_lt_of_le (val_lt (ok_take h m)) (Nat.pow_le_pow_right (by decide) ?_)
 rw [List.length_take]
 omega
theorem pw_round {xs ds : List Nat} {x cy d t i : Nat} (hl : xs.length = i) (hv : val xs + 65536 ^ i * cy = val (ds.take i) * x) (hd : ds.getD i 0 = d) (ht : t = cy + d * x) :
   val (xs ++ [t % 65536]) + 65536 ^ (i + 1) * (t / 65536) = val (ds.take (i + 1)) * x := by
 rw [val_snoc, hl, val_takeD, hd, Nat.add_mul, ← hv, Nat.pow_succ]
 generalize 65536 ^ i = B
 have e : B * t = B * (t % 65536) + B * 65536 * (t / 65536) := by rw [Nat.mul_assoc, ← Nat.mul_add, Nat.mod_add_div]
 have e2 : B * t = B * cy + B * d * x := by rw [ht, Nat.mul_add, Nat.mul_assoc]
 omega
theorem pw_in {xs ds : List Nat} {x cy i : Nat} (hv : val xs + 65536 ^ i * cy = val (ds.take i) * x) (hr : val ds * x < 65536 ^ 16) (hl : ds.length ≤ 16) (h : i < ds.length ∨ 0 < cy) : i < 16 := by
 by_cases hi : i < ds.length
 · omega
 · rw [List.take_of_length_le (by omega)] at hv
   have h1 : 65536 ^ i ≤ 65536 ^ i * cy := Nat.le_mul_of_pos_right _ (by omega)
   exact (Nat.pow_lt_pow_iff_right (a := 65536) (by decide)).1 (by omega)
theorem pw_carry {cy d x : Nat} (hx : x < 68719476736) (hc : cy < 137438953472) (hd : d < 65536) : d * x < 4503599627370496 ∧ (cy + d * x) / 65536 < 137438953472 := by
 have h := Nat.mul_le_mul_right x (show d ≤ 65535 by omega)
 omega
theorem pw_room {x m : Nat} (hx : x < 68719476736) (hm : m < 3) : x ^ m * x < 65536 ^ 16 := by
 rw [← Nat.pow_succ]
 refine Nat.lt_of_le_of_lt (Nat.pow_le_pow_left (Nat.le_of_lt hx) (m + 1)) ?_
 exact Nat.lt_of_le_of_lt (Nat.pow_le_pow_right (by decide) (show m + 1 ≤ 3 by omega)) (by decide)
theorem getD_ok {ds : List Nat} (h : ok16 ds) (i : Nat) : ds.getD i 0 < 65536 := by
 by_cases hi : i < ds.length
 · exact h _ (List.mem_of_getElem? (getD_at hi))
 · rw [List.getD_eq_getElem?_getD, List.getElem?_eq_none (by omega)]
   decide
theorem cmp_step {a b : List Nat} {i : Nat} (ha : ok16 a) (hb : ok16 b) : (a.getD i 0 ≠ b.getD i 0 → decide (val (b.take (i + 1)) < val (a.take (i + 1))) = decide (b.getD i 0 < a.getD i 0)) ∧
   (a.getD i 0 = b.getD i 0 → decide (val (b.take (i + 1)) < val (a.take (i + 1))) = decide (val (b.take i) < val (a.take i))) := by
 rw [val_takeD, val_takeD]
 have h1 := val_take_lt ha i
 have h2 := val_take_lt hb i
 generalize val (a.take i) = x at *
 generalize val (b.take i) = y at *
 generalize a.getD i 0 = d
 generalize b.getD i 0 = e
 generalize 65536 ^ i = B at *
 constructor
 · intro h
   rcases Nat.lt_or_gt_of_ne h with h | h
   · have := Nat.mul_le_mul_left B (show d + 1 ≤ e from h)
     rw [Nat.mul_add] at this
     rw [decide_eq_false (by omega), decide_eq_false (by omega)]
   · have := Nat.mul_le_mul_left B (show e + 1 ≤ d from h)
     rw [Nat.mul_add] at this
     rw [decide_eq_true (by omega), decide_eq_true (by omega)]
 · intro h
   subst h
   rw [decide_eq_decide]
   omega
def rootS (p n : Nat) : Nat → Nat
 | 0 => 0
 | j + 1 => if (rootS p n j + 2 ^ (35 - j)) ^ n ≤ p * 65536 ^ (2 * n) then rootS p n j + 2 ^ (35 - j) else rootS p n j
theorem rootS_le (p n : Nat) : ∀ j, j ≤ 36 → rootS p n j + 2 ^ (36 - j) ≤ 68719476736
 | 0, _ => by
   show 0 + 2 ^ 36 ≤ _
   decide
 | j + 1, h => by
   have ih := rootS_le p n j (by omega)
   have e : 2 ^ (36 - j) = 2 ^ (35 - j) + 2 ^ (35 - j) := by
     rw [show 36 - j = (35 - j) + 1 by omega, Nat.pow_succ]
     omega
   have h0 : 0 < 2 ^ (35 - j) := Nat.pow_pos (by decide)
   rw [rootS, show 36 - (j + 1) = 35 - j by omega]
   split <;> omega
theorem rootS_spec (p : Nat) {n : Nat} (h0 : p * 65536 ^ (2 * n) < 68719476736 ^ n) (hn : n ≠ 0) : ∀ j, j ≤ 36 → rootS p n j ^ n ≤ p * 65536 ^ (2 * n) ∧ p * 65536 ^ (2 * n) < (rootS p n j + 2 ^ (36 - j)) ^ n
 | 0, _ => by
   constructor
   · show 0 ^ n ≤ _
     rw [Nat.zero_pow (by omega)]
     exact Nat.zero_le _
   · have e : rootS p n 0 + 2 ^ (36 - 0) = 68719476736 := by
       rw [rootS, Nat.zero_add]
     rw [e]
     exact h0
 | j + 1, h => by
   obtain ⟨h1, h2⟩ := rootS_spec p h0 hn j (by omega)
   have e : 2 ^ (36 - j) = 2 ^ (35 - j) + 2 ^ (35 - j) := by
     rw [show 36 - j = (35 - j) + 1 by omega, Nat.pow_succ]
     omega
   rw [e, ← Nat.add_assoc] at h2
   rw [rootS, show 36 - (j + 1) = 35 - j by omega]
   split
   · exact ⟨by assumption, h2⟩
   · exact ⟨h1, by omega⟩
theorem root_is {p n r : Nat} (hn : n ≠ 0) (h0 : p * 65536 ^ (2 * n) < 68719476736 ^ n) (h1 : r ^ n ≤ p * 65536 ^ (2 * n)) (h2 : p * 65536 ^ (2 * n) < (r + 1) ^ n) : rootS p n 36 = r := by
 obtain ⟨h3, h4⟩ := rootS_spec p h0 hn 36 (Nat.le_refl _)
 rw [show 2 ^ (36 - 36) = 1 from rfl] at h4
 have a := (Nat.pow_lt_pow_iff_left hn).1 (Nat.lt_of_le_of_lt h3 h2)
 have b := (Nat.pow_lt_pow_iff_left hn).1 (Nat.lt_of_le_of_lt h1 h4)
 omega
theorem rootS_room {p n j : Nat} (h : j < 36) : rootS p n j + 2 ^ (35 - j) < 68719476736 := by
 have h1 := rootS_le p n j (by omega)
 have e : 2 ^ (36 - j) = 2 ^ (35 - j) + 2 ^ (35 - j) := by
   rw [show 36 - j = (35 - j) + 1 by omega, Nat.pow_succ]
   omega
 have : 0 < 2 ^ (35 - j) := Nat.pow_pos (by decide)
 omega
theorem run_shl1 {P : Program} {t : TypeId} {k' : IntKind} {r : Nat} (hr : r < 64) (w : World) : (binOp .shl t (.int .u64 1) (.int k' (r : Int))).run P w = .ok (.int .u64 ((2 ^ r : Nat) : Int)) w := by
 have h := run_shlN (P := P) (t := t) (k' := k') (a := 1) (r := r) (by omega) w
 rw [Nat.one_mul, Nat.mod_eq_of_lt (by simpa [K] using Nat.pow_lt_pow_right (a := 2) (by decide) hr)] at h
 exact h
theorem w_u32 (x : Nat) : IntKind.u32.wrap (x : Int) = ((x % W32 : Nat) : Int) := by
 rw [IntKind.wrap_u32]
 simp only [W32]
 omega
def prF : Nat → List Nat
 | 0 => []
 | k + 1 => if (prF k).all (fun q => decide ((k + 2) % q ≠ 0)) = true then prF k ++ [k + 2] else prF k
theorem prF_mono (k d : Nat) : (prF k).length ≤ (prF (k + d)).length := by
 induction d with
 | zero => exact Nat.le_refl _
 | succ d ih =>
   refine Nat.le_trans ih ?_
   show _ ≤ (prF (k + d + 1)).length
   rw [prF]
   split
   · rw [List.length_append]; omega
   · exact Nat.le_refl _
theorem prF_ge (k : Nat) : ∀ q ∈ prF k, 2 ≤ q := by
 induction k with
 | zero => intro q h; simp [prF] at h
 | succ k ih =>
   intro q h
   rw [prF] at h
   split at h
   · rcases List.mem_append.1 h with h | h
     · exact ih q h
     · rw [List.mem_singleton.1 h]; omega
   · exact ih q h
def PR : List Nat := [2, 3, 5, 7, 11, 13, 17, 19, 23, 29, 31, 37, 41, 43, 47, 53, 59, 61, 67, 71, 73, 79, 83, 89, 97, 101, 103, 107, 109, 113, 127, 131, 137, 139, 149, 151, 157, 163, 167, 173, 179, 181, 191, 193, 197, 199, 211, 223, 227, 229, 233, 239, 241, 251, 257, 263, 269, 271, 277, 281, 283, 293, 307, 311]
theorem prF_all : prF 310 = PR := by kernel_rfl
theorem prF_63 : (prF 309).length = 63 := by kernel_rfl
theorem prF_in {k : Nat} (h : (prF k).length < 64) : k < 310 := by
 by_cases hk : k < 310
 · exact hk
 · have h1 := prF_mono 310 (k - 310)
   rw [show 310 + (k - 310) = k by omega, prF_all] at h1
   have : PR.length = 64 := rfl
   omega
theorem prF_out {k : Nat} (hk : k ≤ 310) (h : ¬ (prF k).length < 64) : k = 310 := by
 by_cases h9 : k ≤ 309
 · have h1 := prF_mono k (309 - k)
   rw [show k + (309 - k) = 309 by omega, prF_63] at h1
   omega
 · omega
theorem all_take {f : Nat → Bool} {l : List Nat} {j d : Nat} (h : l[j]? = some d) : (l.take (j + 1)).all f = ((l.take j).all f && f d) := by
 rw [List.take_add_one, h]
 simp
def R3L : List Nat := [5411319704, 6194414737, 7344290767, 8215976869, 9551921755, 10098905585, 11043570340, 11460697813, 12214315672, 13195500289, 13492127166, 14311783875, 14809980276, 15046980094, 15499789991, 16133124468, 16720292289, 16907126662, 17444216262, 17784676812, 17950125167, 18429019306, 18734950876, 19175934170, 19734090066, 20001703533, 20132865992, 20390182855, 20516441075, 20764397895, 21588763473, 21813078375, 22141143685, 22248366392, 22769593852, 22871018771, 23170020180, 23461497531, 23651862830, 23931792517, 24205322401, 24295138891, 24734567280, 24820601251, 24990902297, 25075189284, 25569408389, 26045227120, 26200031510, 26276752392, 26428864332, 26653801653, 26727943347, 27092625994, 27306805839, 27517677555, 27725365998, 27793908591, 27997534228, 28131656200, 28198240250, 28526537963, 28973835255, 29099129074]
def H0L : List Nat := [0x6a09e667, 0xbb67ae85, 0x3c6ef372, 0xa54ff53a, 0x510e527f, 0x9b05688c, 0x1f83d9ab, 0x5be0cd19]
def R2L : List Nat := [6074000999, 7439101573, 9603838834, 11363415354, 14244795007, 15485724812, 17708603819, 18721328409]
theorem roots3 : ∀ i, i < 64 → PR.getD i 0 * 65536 ^ (2 * 3) < 68719476736 ^ 3 ∧ R3L.getD i 0 ^ 3 ≤ PR.getD i 0 * 65536 ^ (2 * 3) ∧ PR.getD i 0 * 65536 ^ (2 * 3) < (R3L.getD i 0 + 1) ^ 3 ∧ R3L.getD i 0 % W32 = KT.getD i 0 := of_decide_eq_true (by kernel_rfl)
theorem roots2 : ∀ i, i < 8 → PR.getD i 0 * 65536 ^ (2 * 2) < 68719476736 ^ 2 ∧ R2L.getD i 0 ^ 2 ≤ PR.getD i 0 * 65536 ^ (2 * 2) ∧ PR.getD i 0 * 65536 ^ (2 * 2) < (R2L.getD i 0 + 1) ^ 2 ∧ R2L.getD i 0 % W32 = H0L.getD i 0 := of_decide_eq_true (by kernel_rfl)
theorem root3_at {i : Nat} (h : i < 64) : rootS (PR.getD i 0) 3 36 % W32 = KT.getD i 0 := by
 obtain ⟨h0, h1, h2, h3⟩ := roots3 i h
 rw [root_is (by decide) h0 h1 h2, h3]
theorem root2_at {i : Nat} (h : i < 8) : rootS (PR.getD i 0) 2 36 % W32 = H0L.getD i 0 := by
 obtain ⟨h0, h1, h2, h3⟩ := roots2 i h
 rw [root_is (by decide) h0 h1 h2, h3]
theorem PR_lt (i : Nat) : PR.getD i 0 < 65536 := getD_ok (by unfold PR ok16; decide) i
theorem Digit_calls (ds : List Nat) (i n : Nat) (A : Option Addr) (c : Nat) (w : World) (hr : RdS w A (dg ds)) (hn : n = ds.length) : Calls Try.prog 70 #[.slice A n c, .int .i64 (i : Int)] w fun e w' => e = .returned (.int .u64 ((ds.getD i 0 : Nat) : Int)) ∧ Hp w [] [] w' := by
 subst hn
 refine calls_G (args := [.slice A ds.length c, vi i]) Try.func70 rfl Try.ntmps70 rfl ?_
 intro Q0 hRet hNor hPan
 have H := Hp.start w
 refine G.sr fun K1 hK2 => ?_
 refine GL.r 1 1 [(0, .slice A ds.length c), (1, vi i)] ?_
 refine GL.q hK2 ?_
 refine G.seqK fun K3 hK4 => ?_
 refine G.sr fun K5 hK6 => ?_
 refine GL.r 4 4 [(0, .slice A ds.length c), (1, vi i), (8, .bool (decide ((i : Int) < (ds.length : Int))))] ?_
 refine GL.q hK6 ?_
 cases hb7 : (decide ((i : Int) < (ds.length : Int)))
 · skip
   have hb7f := of_decide_eq_false hb7
   refine G.no rfl ?_
   refine G.skipK hK4 (fun _ _ h => h) ?_
   refine G.sr fun K8 hK9 => ?_
   refine GL.r 1 1 [(4, lu 0)] ?_
   refine GL.q hK9 ?_
   refine G.ret fun F_ hF_ hM_ => hRet _ _ (bodyPost_1 rfl (RV.tmp rfl) ?_ F_ hF_ hM_)
   rw [show ds.getD i 0 = 0 by rw [List.getD_eq_getElem?_getD, List.getElem?_eq_none (by omega)]; rfl]
   exact ⟨rfl, H.sub (List.nil_sublist _)⟩
 · skip
   have hb7f := of_decide_eq_true hb7
   refine G.yes rfl ?_
   refine G.sr fun K10 hK11 => ?_
   refine GL.r 2 2 [(9, .slice A ds.length c), (10, vi i)] ?_
   refine GL.s 3 (run_idxRd (P := Try.prog) (k := .i64) (t := 34) (A := A) (len := ds.length) (cap := c) (j := i) (by kernel_rfl) rfl (hr.hp H) (by first | exact dg_length _ | rw [dg_length]; first | rfl | assumption | (symm; assumption) | (simp; done) | (rw [List.length_take]; omega) | omega) (by first | rfl | omega | (simp only [List.length_cons, List.length_nil, List.length_drop, List.length_take, List.length_append] <;> omega))) [(11, .pointer (Option.map (fun x => Addr.add x i) A))] ?_
   refine GL.s 4 (run_ldRd (P := Try.prog) (ty := 31) (A := A) (j := i) (v := vu (ds.getD i 0)) (by kernel_rfl) (hr.hp H) (dg_at (getD_at (by omega)))) [(12, vu (ds.getD i 0))] ?_
   refine GL.r 5 1 [(4, vu (ds.getD i 0))] ?_
   refine GL.q hK11 ?_
   refine G.ret fun F_ hF_ hM_ => hRet _ _ (bodyPost_1 rfl (RV.tmp rfl) ?_ F_ hF_ hM_)
   exact ⟨rfl, H.sub (List.nil_sublist _)⟩
theorem Power_calls (x n : Nat) (hx : x < 68719476736) (hn : n ≤ 3) (w : World) : Calls Try.prog 69 #[.int .u64 (x : Int), .int .i64 (n : Int)] w fun e w' => ∃ ds A c, e = .returned (.slice A ds.length c) ∧ Hp w [] [.row A ds.length c 31 1 (dg ds)] w' ∧ ok16 ds ∧ ds.length ≤ 16 ∧ val ds = x ^ n := by
 have hMX : MX = 4611686018427387904 := rfl
 have hK0 : K = 18446744073709551616 := rfl
 have hK40 : K4 = 115792089237316195423570985008687907853269984665640564039457584007913129639936 := rfl
 refine calls_G (args := [vu x, vi n]) Try.func69 rfl Try.ntmps69 rfl ?_
 intro Q0 hRet hNor hPan
 have H := Hp.start w
 refine G.sr fun K1 hK2 => ?_
 refine GL.r 1 1 [(0, vu x), (1, vi n)] ?_
 refine GL.q hK2 ?_
 refine G.sr fun K3 hK4 => ?_
 obtain ⟨p5, w6, r7, H8⟩ := H.madeRow (P := Try.prog) (Instr.buildSlice 34 1 #[(0, lu 1)]) (fun b_ => .slice (some ⟨b_, 0, none⟩) 1 1) [lu 1] 31 1 1 1 (by kernel_rfl) (by decide) (by decide) rfl
 refine GL.s 1 (r7) [(0, vu x), (1, vi n), (9, .slice (some ⟨p5, 0, none⟩) 1 1)] ?_
 refine GL.r 2 1 [(0, vu x), (1, vi n), (5, .slice (some ⟨p5, 0, none⟩) 1 1)] ?_
 refine GL.q hK4 ?_
 refine G.seqK fun K9 hK10 => ?_
 refine G.block ?_
 have H11 : Hp w [] [.row (some ⟨p5, 0, none⟩) ([1].length) 1 31 1 (dg [1])] w6 := H8
 refine G.fit [0, 1, 5] (M' := [(0, vu x), (1, vi n), (5, .slice (some ⟨p5, 0, none⟩) ([1].length) 1)]) (by kernel_rfl) ?_
 refine G.eq (M' := [(0, vu x), (1, vi (n - 0)), (5, .slice (some ⟨p5, 0, none⟩) ([1].length) 1)]) (by rfl) ?_
 refine G.loop (X := Nat × List Nat × Option Addr × Nat) (fun ⟨m, ds, A_, c_⟩ => [(0, vu x), (1, vi (n - m)), (5, .slice A_ ds.length c_)]) (fun ⟨m, ds, A_, c_⟩ w_ => (m ≤ n ∧ ok16 ds ∧ ds.length ≤ 16 ∧ val ds = x ^ m) ∧ Hp w [] [.row A_ ds.length c_ 31 1 (dg ds)] w_) (fun ⟨m, ds, A_, c_⟩ => n - m) ⟨0, [1], (some ⟨p5, 0, none⟩), 1⟩ [0, 1, 5] (by kernel_rfl) ⟨⟨Nat.zero_le _, by intro d hd; rw [List.mem_singleton.1 hd]; decide, by decide, rfl⟩, H11⟩ ?_
 rintro ⟨m, ds, A_, c_⟩ w12 ⟨hi13, H14⟩
 refine G.eq (M' := [(0, vu x), (1, vi (n - m)), (5, .slice A_ ds.length c_)]) rfl ?_
 obtain ⟨hmn, hdok, hdl, hdv⟩ := hi13
 refine G.seqK fun K15 hK16 => ?_
 refine G.sr fun K17 hK18 => ?_
 refine GL.r 2 2 [(0, vu x), (1, vi (n - m)), (5, .slice A_ ds.length c_), (11, .bool (decide (0 < (((n - m) : Nat) : Int))))] ?_
 refine GL.q hK18 ?_
 cases hb19 : (decide (0 < (((n - m) : Nat) : Int)))
 · skip
   have hb19f := of_decide_eq_false hb19
   refine G.no rfl ?_
   refine G.exitK hK10 (fun _ _ h => h) ?_
   refine G.sr fun K20 hK21 => ?_
   refine GL.r 2 2 [(4, .slice A_ ds.length c_)] ?_
   refine GL.q hK21 ?_
   refine G.ret fun F_ hF_ hM_ => hRet _ _ (bodyPost_1 rfl (RV.tmp rfl) ?_ F_ hF_ hM_)
   have hm9 : m = n := by omega
   exact ⟨ds, _, _, rfl, H14, hdok, hdl, by rw [hdv, hm9]⟩
 · skip
   have hb19f := of_decide_eq_true hb19
   refine G.yes rfl ?_
   refine G.skipK hK16 (fun _ _ h => h) ?_
   refine G.seqK fun K22 hK23 => ?_
   refine G.block ?_
   refine G.sr fun K24 hK25 => ?_
   obtain ⟨p26, w27, r28, H29⟩ := H14.madeRow (P := Try.prog) (Instr.buildSlice 34 0 #[]) (fun b_ => .slice (some ⟨b_, 0, none⟩) 0 0) [] 31 0 0 1 (by kernel_rfl) (by decide) (by decide) rfl
   refine GL.s 1 (r28) [(0, vu x), (1, vi (n - m)), (5, .slice A_ ds.length c_), (14, .slice (some ⟨p26, 0, none⟩) 0 0)] ?_
   refine GL.r 2 1 [(0, vu x), (1, vi (n - m)), (5, .slice A_ ds.length c_), (6, .slice (some ⟨p26, 0, none⟩) 0 0)] ?_
   refine GL.q hK25 ?_
   refine G.sr fun K30 hK31 => ?_
   refine GL.r 1 1 [(0, vu x), (1, vi (n - m)), (5, .slice A_ ds.length c_), (6, .slice (some ⟨p26, 0, none⟩) 0 0), (7, lu 0)] ?_
   refine GL.q hK31 ?_
   refine G.seqK fun K32 hK33 => ?_
   refine G.sr fun K34 hK35 => ?_
   refine GL.r 1 1 [(0, vu x), (1, vi (n - m)), (5, .slice A_ ds.length c_), (6, .slice (some ⟨p26, 0, none⟩) 0 0), (7, lu 0), (8, li 0)] ?_
   refine GL.q hK35 ?_
   refine G.block ?_
   have hpr : val ds * x < 65536 ^ 16 := by rw [hdv]; exact pw_room hx (by omega)
   refine G.fit [0, 1, 5, 6, 7, 8] (M' := [(0, vu x), (1, vi (n - m)), (5, .slice A_ ds.length c_), (6, .slice (some ⟨p26, 0, none⟩) 0 0), (7, lu 0), (8, li 0)]) (by kernel_rfl) ?_
   refine G.loop (X := Nat × Nat × List Nat × Option Addr × Nat) (fun ⟨i, cy, xs, X_, d_⟩ => [(0, vu x), (1, vi (n - m)), (5, .slice A_ ds.length c_), (6, .slice X_ i d_), (7, vu cy), (8, vi i)]) (fun ⟨i, cy, xs, X_, d_⟩ w_ => (xs.length = i ∧ ok16 xs ∧ cy < 137438953472 ∧ i ≤ 16 ∧ val xs + 65536 ^ i * cy = val (ds.take i) * x) ∧ Hp w [] [.row A_ ds.length c_ 31 1 (dg ds), .row X_ i d_ 31 1 (dg xs)] w_) (fun ⟨i, cy, xs, X_, d_⟩ => 16 - i) ⟨0, 0, [], (some ⟨p26, 0, none⟩), 0⟩ [0, 1, 5, 6, 7, 8] (by kernel_rfl) ⟨⟨rfl, ok_nil, by decide, by omega, by rw [List.take_zero]; simp [val]⟩, H29⟩ ?_
   rintro ⟨i, cy, xs, X_, d_⟩ w36 ⟨hi37, H38⟩
   refine G.eq (M' := [(0, vu x), (1, vi (n - m)), (5, .slice A_ ds.length c_), (6, .slice X_ i d_), (7, vu cy), (8, vi i)]) rfl ?_
   obtain ⟨hxl, hxok, hcy, hi16, hxv⟩ := hi37
   refine G.seqK fun K39 hK40 => ?_
   refine G.sr fun K41 hK42 => ?_
   refine GL.r 5 5 [(0, vu x), (1, vi (n - m)), (5, .slice A_ ds.length c_), (6, .slice X_ i d_), (7, vu cy), (8, vi i), (19, .bool (decide ((i : Int) < (ds.length : Int))))] ?_
   cases hb43 : (decide ((i : Int) < (ds.length : Int)))
   · skip
     have hb43f := of_decide_eq_false hb43
     refine GL.r 8 3 [(0, vu x), (1, vi (n - m)), (5, .slice A_ ds.length c_), (6, .slice X_ i d_), (7, vu cy), (8, vi i), (22, .bool (decide (0 < (cy : Int))))] ?_
     refine GL.q hK42 ?_
     cases hb44 : (decide (0 < (cy : Int)))
     · skip
       have hb44f := of_decide_eq_false hb44
       have hcy0 : cy = 0 := by omega
       refine G.no rfl ?_
       refine G.exitK hK33 (fun _ _ h => h) ?_
       refine G.region ?_
       refine GL.r 2 2 [(0, vu x), (1, vi (n - m)), (5, .slice X_ i d_)] ?_
       refine GL.q hK23 ?_
       refine G.region ?_
       refine GL.r 3 3 [(0, vu x), (1, li (IntKind.i64.wrap ((((n - m) : Nat) : Int) - 1))), (5, .slice X_ i d_)] ?_
       have e45 : (IntKind.i64.wrap ((((n - m) : Nat) : Int) - 1)) = (((n - m) - 1 : Nat) : Int) := by rw [in_i64 (by omega)]; omega
       rw [e45]
       clear e45
       have H46 : Hp w [] [.row X_ i d_ 31 1 (dg xs)] w36 := H38.sub (List.Sublist.cons _ (List.Sublist.cons_cons _ (List.Sublist.slnil)))
       have hxv2 : val xs = val ds * x := by rw [hcy0, Nat.mul_zero, Nat.add_zero, List.take_of_length_le (by omega)] at hxv; exact hxv
       obtain rfl := hxl
       have H47 : Hp w [] [.row X_ xs.length d_ 31 1 (dg xs)] w36 := H46
       refine GL.fit (ts := [0, 1, 5]) (M' := [(0, vu x), (1, vi ((n - m) - 1)), (5, .slice X_ xs.length d_)]) (by kernel_rfl) ?_
       refine GL.eq (M' := [(0, vu x), (1, vi (n - (m + 1))), (5, .slice X_ xs.length d_)]) (by rw [show n - m - 1 = n - (m + 1) by omega]) ?_
       exact GL.again ⟨(m + 1), xs, X_, d_⟩ [0, 1, 5] rfl (by kernel_rfl) (by show n - (m + 1) < n - m; omega) ⟨⟨by omega, hxok, by omega, by rw [hxv2, hdv, Nat.pow_succ]⟩, H47⟩
     · skip
       have hb44f := of_decide_eq_true hb44
       have hi15 : i < 16 := pw_in hxv hpr hdl (by omega)
       refine G.yes rfl ?_
       refine G.skipK hK40 (fun _ _ h => h) ?_
       refine G.seqK fun K48 hK49 => ?_
       refine G.block ?_
       refine G.seqK fun K50 hK51 => ?_
       refine G.sr fun K52 hK53 => ?_
       refine GL.r 4 4 [(0, vu x), (1, vi (n - m)), (5, .slice A_ ds.length c_), (6, .slice X_ i d_), (7, vu cy), (8, vi i), (28, .bool (decide ((i : Int) < (ds.length : Int))))] ?_
       refine GL.q hK53 ?_
       have hb54 : (decide ((i : Int) < (ds.length : Int))) = false := by assumption
       rw [hb54]
       refine G.no rfl ?_
       refine G.skipK hK51 (fun _ _ h => h) ?_
       refine G.sr fun K55 hK56 => ?_
       refine GL.r 3 3 [(0, vu x), (1, vi (n - m)), (5, .slice A_ ds.length c_), (7, vu cy), (8, vi i), (37, .slice X_ i d_), (39, lu (Int.tmod (cy : Int) 65536))] ?_
       have e57 : (Int.tmod (cy : Int) 65536) = ((cy % 65536 : Nat) : Int) := n_rem _ 65536
       rw [e57]
       clear e57
       obtain ⟨p58, w59, r60, H61⟩ := H38.madeRow (P := Try.prog) (Instr.buildSlice 34 1 #[(0, vu (cy % 65536))]) (fun b_ => .slice (some ⟨b_, 0, none⟩) 1 1) [vu (cy % 65536)] 31 1 1 1 (by kernel_rfl) (by decide) (by decide) rfl
       refine GL.s 4 (r60) [(0, vu x), (1, vi (n - m)), (5, .slice A_ ds.length c_), (7, vu cy), (8, vi i), (37, .slice X_ i d_), (40, .slice (some ⟨p58, 0, none⟩) 1 1)] ?_
       obtain ⟨A62, c63, w64, r65, H66⟩ := H61.append (P := Try.prog) (e := 31) (sz := 1) (by_ := 8) (n := i) (c := d_) (m := 1) (d := 1) (t := 34) (ty := 34) (xs := dg xs) (news := dg [cy % 65536]) 1 rfl (by kernel_rfl) (H61.rdRow 2 rfl) (by simp [dg_length]) (dg_one _) (by omega) (by simp only [maxLen]; omega)
       rw [← dg_append] at H66
       refine GL.s 5 (r65) [(0, vu x), (1, vi (n - m)), (5, .slice A_ ds.length c_), (7, vu cy), (8, vi i), (41, .slice A62 (i + 1) c63)] ?_
       refine GL.r 6 1 [(0, vu x), (1, vi (n - m)), (5, .slice A_ ds.length c_), (6, .slice A62 (i + 1) c63), (7, vu cy), (8, vi i)] ?_
       refine GL.q hK56 ?_
       refine G.region ?_
       refine GL.r 3 3 [(0, vu x), (1, vi (n - m)), (5, .slice A_ ds.length c_), (6, .slice A62 (i + 1) c63), (7, lu (IntKind.u64.wrap (Int.tdiv (cy : Int) 65536))), (8, vi i)] ?_
       have e67 : (IntKind.u64.wrap (Int.tdiv (cy : Int) 65536)) = ((cy / 65536 : Nat) : Int) := n_quo 65536 (by omega)
       rw [e67]
       clear e67
       refine GL.q hK49 ?_
       refine G.region ?_
       refine GL.r 3 3 [(0, vu x), (1, vi (n - m)), (5, .slice A_ ds.length c_), (6, .slice A62 (i + 1) c63), (7, vu (cy / 65536)), (8, li (IntKind.i64.wrap ((i : Int) + 1)))] ?_
       have e68 : (IntKind.i64.wrap ((i : Int) + 1)) = ((i + 1 : Nat) : Int) := by rw [in_i64 (by omega)]; omega
       rw [e68]
       clear e68
       have H69 : Hp w [] [.row A_ ds.length c_ 31 1 (dg ds), .row A62 (i + 1) c63 31 1 (dg (xs ++ [cy % 65536]))] w64 := H66.sub (List.Sublist.cons_cons _ (List.Sublist.cons_cons _ (List.Sublist.cons _ (List.Sublist.slnil))))
       refine GL.fit (ts := [0, 1, 5, 6, 7, 8]) (M' := [(0, vu x), (1, vi (n - m)), (5, .slice A_ ds.length c_), (6, .slice A62 (i + 1) c63), (7, vu (cy / 65536)), (8, vi (i + 1))]) (by kernel_rfl) ?_
       refine GL.eq (M' := [(0, vu x), (1, vi (n - m)), (5, .slice A_ ds.length c_), (6, .slice A62 (i + 1) c63), (7, vu (cy / 65536)), (8, vi (i + 1))]) (by rfl) ?_
       exact GL.again ⟨(i + 1), cy / 65536, (xs ++ [cy % 65536]), A62, c63⟩ [0, 1, 5, 6, 7, 8] rfl (by kernel_rfl) (by show 16 - (i + 1) < 16 - i; omega) ⟨⟨by rw [List.length_append, hxl]; rfl, ok_snoc hxok (Nat.mod_lt _ (by decide)), by omega, by omega, pw_round hxl hxv ((show ds.getD i 0 = 0 by rw [List.getD_eq_getElem?_getD, List.getElem?_eq_none (by omega)]; rfl)) ((by rw [Nat.zero_mul]; rfl))⟩, H69⟩
   · skip
     have hb43f := of_decide_eq_true hb43
     have hi15 : i < 16 := pw_in hxv hpr hdl (by omega)
     refine GL.r 8 3 [(0, vu x), (1, vi (n - m)), (5, .slice A_ ds.length c_), (6, .slice X_ i d_), (7, vu cy), (8, vi i), (22, .bool true)] ?_
     refine GL.q hK42 ?_
     refine G.yes rfl ?_
     refine G.skipK hK40 (fun _ _ h => h) ?_
     refine G.seqK fun K70 hK71 => ?_
     refine G.block ?_
     refine G.seqK fun K72 hK73 => ?_
     refine G.sr fun K74 hK75 => ?_
     refine GL.r 4 4 [(0, vu x), (1, vi (n - m)), (5, .slice A_ ds.length c_), (6, .slice X_ i d_), (7, vu cy), (8, vi i), (28, .bool (decide ((i : Int) < (ds.length : Int))))] ?_
     refine GL.q hK75 ?_
     have hb76 : (decide ((i : Int) < (ds.length : Int))) = true := by assumption
     rw [hb76]
     have hi15 : i < 16 := pw_in hxv hpr hdl (by omega)
     refine G.yes rfl ?_
     refine G.region ?_
     refine GL.r 3 3 [(0, vu x), (1, vi (n - m)), (5, .slice A_ ds.length c_), (6, .slice X_ i d_), (8, vi i), (29, vu cy), (30, .slice A_ ds.length c_), (31, vi i)] ?_
     refine GL.s 4 (run_idxRd (P := Try.prog) (k := .i64) (t := 34) (A := A_) (len := ds.length) (cap := c_) (j := i) (by kernel_rfl) rfl (H38.rdRow 0 rfl) (by first | exact dg_length _ | rw [dg_length]; first | rfl | assumption | (symm; assumption) | (simp; done) | (rw [List.length_take]; omega) | omega) (by first | rfl | omega | (simp only [List.length_cons, List.length_nil, List.length_drop, List.length_take, List.length_append] <;> omega))) [(0, vu x), (1, vi (n - m)), (5, .slice A_ ds.length c_), (6, .slice X_ i d_), (8, vi i), (29, vu cy), (32, .pointer (Option.map (fun x => Addr.add x i) A_))] ?_
     obtain ⟨d77, hd78⟩ : ∃ d : Nat, (ds)[i]? = some d := ⟨_, List.getElem?_eq_getElem (by omega)⟩
     have hpc := pw_carry hx hcy (ok_at hdok hd78)
     refine GL.s 5 (run_ldRd (P := Try.prog) (ty := 31) (A := A_) (j := i) (v := vu d77) (by kernel_rfl) (H38.rdRow 0 rfl) (dg_at hd78)) [(0, vu x), (1, vi (n - m)), (5, .slice A_ ds.length c_), (6, .slice X_ i d_), (8, vi i), (29, vu cy), (33, vu d77)] ?_
     refine GL.r 9 4 [(0, vu x), (1, vi (n - m)), (5, .slice A_ ds.length c_), (6, .slice X_ i d_), (7, lu (IntKind.u64.wrap ((cy : Int) + (IntKind.u64.wrap ((d77 : Int) * (x : Int)))))), (8, vi i)] ?_
     have e79 : (IntKind.u64.wrap ((d77 : Int) * (x : Int))) = ((d77 * x : Nat) : Int) := n_mul' (a := d77) (b := x) (by omega)
     have e80 : (IntKind.u64.wrap ((cy : Int) + ((d77 * x : Nat) : Int))) = ((cy + (d77 * x) : Nat) : Int) := n_add' (a := cy) (b := (d77 * x)) (by omega)
     rw [e79, e80]
     clear e79 e80
     refine GL.q hK73 ?_
     refine G.sr fun K81 hK82 => ?_
     refine GL.r 3 3 [(0, vu x), (1, vi (n - m)), (5, .slice A_ ds.length c_), (7, vu (cy + (d77 * x))), (8, vi i), (37, .slice X_ i d_), (39, lu (Int.tmod ((cy + (d77 * x) : Nat) : Int) 65536))] ?_
     have e83 : (Int.tmod ((cy + (d77 * x) : Nat) : Int) 65536) = (((cy + (d77 * x)) % 65536 : Nat) : Int) := n_rem _ 65536
     rw [e83]
     clear e83
     obtain ⟨p84, w85, r86, H87⟩ := H38.madeRow (P := Try.prog) (Instr.buildSlice 34 1 #[(0, vu ((cy + (d77 * x)) % 65536))]) (fun b_ => .slice (some ⟨b_, 0, none⟩) 1 1) [vu ((cy + (d77 * x)) % 65536)] 31 1 1 1 (by kernel_rfl) (by decide) (by decide) rfl
     refine GL.s 4 (r86) [(0, vu x), (1, vi (n - m)), (5, .slice A_ ds.length c_), (7, vu (cy + (d77 * x))), (8, vi i), (37, .slice X_ i d_), (40, .slice (some ⟨p84, 0, none⟩) 1 1)] ?_
     obtain ⟨A88, c89, w90, r91, H92⟩ := H87.append (P := Try.prog) (e := 31) (sz := 1) (by_ := 8) (n := i) (c := d_) (m := 1) (d := 1) (t := 34) (ty := 34) (xs := dg xs) (news := dg [(cy + (d77 * x)) % 65536]) 1 rfl (by kernel_rfl) (H87.rdRow 2 rfl) (by simp [dg_length]) (dg_one _) (by omega) (by simp only [maxLen]; omega)
     rw [← dg_append] at H92
     refine GL.s 5 (r91) [(0, vu x), (1, vi (n - m)), (5, .slice A_ ds.length c_), (7, vu (cy + (d77 * x))), (8, vi i), (41, .slice A88 (i + 1) c89)] ?_
     refine GL.r 6 1 [(0, vu x), (1, vi (n - m)), (5, .slice A_ ds.length c_), (6, .slice A88 (i + 1) c89), (7, vu (cy + (d77 * x))), (8, vi i)] ?_
     refine GL.q hK82 ?_
     refine G.region ?_
     refine GL.r 3 3 [(0, vu x), (1, vi (n - m)), (5, .slice A_ ds.length c_), (6, .slice A88 (i + 1) c89), (7, lu (IntKind.u64.wrap (Int.tdiv ((cy + (d77 * x) : Nat) : Int) 65536))), (8, vi i)] ?_
     have e93 : (IntKind.u64.wrap (Int.tdiv ((cy + (d77 * x) : Nat) : Int) 65536)) = (((cy + (d77 * x)) / 65536 : Nat) : Int) := n_quo 65536 (by omega)
     rw [e93]
     clear e93
     refine GL.q hK71 ?_
     refine G.region ?_
     refine GL.r 3 3 [(0, vu x), (1, vi (n - m)), (5, .slice A_ ds.length c_), (6, .slice A88 (i + 1) c89), (7, vu ((cy + (d77 * x)) / 65536)), (8, li (IntKind.i64.wrap ((i : Int) + 1)))] ?_
     have e94 : (IntKind.i64.wrap ((i : Int) + 1)) = ((i + 1 : Nat) : Int) := by rw [in_i64 (by omega)]; omega
     rw [e94]
     clear e94
     have H95 : Hp w [] [.row A_ ds.length c_ 31 1 (dg ds), .row A88 (i + 1) c89 31 1 (dg (xs ++ [(cy + (d77 * x)) % 65536]))] w90 := H92.sub (List.Sublist.cons_cons _ (List.Sublist.cons_cons _ (List.Sublist.cons _ (List.Sublist.slnil))))
     refine GL.fit (ts := [0, 1, 5, 6, 7, 8]) (M' := [(0, vu x), (1, vi (n - m)), (5, .slice A_ ds.length c_), (6, .slice A88 (i + 1) c89), (7, vu ((cy + (d77 * x)) / 65536)), (8, vi (i + 1))]) (by kernel_rfl) ?_
     refine GL.eq (M' := [(0, vu x), (1, vi (n - m)), (5, .slice A_ ds.length c_), (6, .slice A88 (i + 1) c89), (7, vu ((cy + (d77 * x)) / 65536)), (8, vi (i + 1))]) (by rfl) ?_
     exact GL.again ⟨(i + 1), (cy + (d77 * x)) / 65536, (xs ++ [(cy + (d77 * x)) % 65536]), A88, c89⟩ [0, 1, 5, 6, 7, 8] rfl (by kernel_rfl) (by show 16 - (i + 1) < 16 - i; omega) ⟨⟨by rw [List.length_append, hxl]; rfl, ok_snoc hxok (Nat.mod_lt _ (by decide)), hpc.2, by omega, pw_round hxl hxv ((by rw [List.getD_eq_getElem?_getD, hd78]; rfl)) (rfl)⟩, H95⟩
theorem Root2_calls (p : Nat) (hp : p < 65536) (w : World) : Calls Try.prog 59 #[.int .u64 (p : Int), .int .i64 2] w fun e w' => e = .returned (.int .u32 ((rootS p 2 36 % W32 : Nat) : Int)) ∧ Hp w [] [] w' := by
 have hMX : MX = 4611686018427387904 := rfl
 have hK0 : K = 18446744073709551616 := rfl
 have hK40 : K4 = 115792089237316195423570985008687907853269984665640564039457584007913129639936 := rfl
 refine calls_G (args := [vu p, li 2]) Try.func59 rfl Try.ntmps59 rfl ?_
 intro Q0 hRet hNor hPan
 have H := Hp.start w
 refine G.sr fun K1 hK2 => ?_
 refine GL.r 1 1 [(0, vu p), (1, li 2)] ?_
 refine GL.q hK2 ?_
 refine G.sr fun K3 hK4 => ?_
 refine GL.r 2 2 [(0, vu p), (1, li 2), (12, li 4)] ?_
 obtain ⟨p5, w6, r7, H8⟩ := H.makeD (P := Try.prog) (t := 34) (e := 31) (n := 4) (kl := .i64) (kc := .i64) (by kernel_rfl) (by omega)
 refine GL.s 3 (r7) [(0, vu p), (1, li 2), (13, .slice (some ⟨p5, 0, none⟩) 4 4)] ?_
 refine GL.r 4 1 [(1, li 2), (13, .slice (some ⟨p5, 0, none⟩) 4 4), (14, vu p)] ?_
 obtain ⟨p9, w10, r11, H12⟩ := H8.madeRow (P := Try.prog) (Instr.buildSlice 34 1 #[(0, vu p)]) (fun b_ => .slice (some ⟨b_, 0, none⟩) 1 1) [vu p] 31 1 1 1 (by kernel_rfl) (by decide) (by decide) rfl
 refine GL.s 5 (r11) [(1, li 2), (13, .slice (some ⟨p5, 0, none⟩) 4 4), (15, .slice (some ⟨p9, 0, none⟩) 1 1)] ?_
 obtain ⟨A13, c14, w15, r16, H17⟩ := H12.append (P := Try.prog) (e := 31) (sz := 1) (by_ := 8) (n := 4) (c := 4) (m := 1) (d := 1) (t := 34) (ty := 34) (xs := dg (List.replicate 4 0)) (news := dg [p]) 0 rfl (by kernel_rfl) (H12.rdRow 1 rfl) (by simp [dg_length]) (dg_one _) (by omega) (by simp only [maxLen]; omega)
 rw [← dg_append] at H17
 refine GL.s 6 (r16) [(1, li 2), (16, .slice A13 (4 + 1) c14)] ?_
 refine GL.r 7 1 [(1, li 2), (5, .slice A13 (4 + 1) c14)] ?_
 refine GL.q hK4 ?_
 refine G.sr fun K18 hK19 => ?_
 refine GL.r 1 1 [(1, li 2), (5, .slice A13 (4 + 1) c14), (6, lu 0)] ?_
 refine GL.q hK19 ?_
 refine G.seqK fun K20 hK21 => ?_
 refine G.sr fun K22 hK23 => ?_
 refine GL.r 1 1 [(1, li 2), (5, .slice A13 (4 + 1) c14), (6, lu 0), (7, li 35)] ?_
 refine GL.q hK23 ?_
 refine G.block ?_
 have hWok : ok16 ((List.replicate 4 0) ++ [p]) := fun d hd => (List.mem_append.1 hd).elim (fun hd => by rw [(List.mem_replicate.1 hd).2]; decide) (fun hd => by rw [List.mem_singleton.1 hd]; exact hp)
 have hWl : ((List.replicate 4 0) ++ [p]).length = 5 := by rw [List.length_append, List.length_replicate]; rfl
 have hWv : val ((List.replicate 4 0) ++ [p]) = p * 65536 ^ (2 * 2) := by rw [val_append, val_zeros, List.length_replicate, Nat.zero_add, Nat.mul_comm]; show (p + 65536 * 0) * _ = _; rw [Nat.mul_zero, Nat.add_zero]
 refine G.fit [1, 5, 6, 7] (M' := [(1, li 2), (5, .slice A13 (4 + 1) c14), (6, lu 0), (7, li 35)]) (by kernel_rfl) ?_
 refine G.eq (M' := [(1, li 2), (5, .slice A13 (4 + 1) c14), (6, lu 0), (7, li (35 - ((0 : Nat) : Int)))]) (by rfl) ?_
 refine G.loop (X := Nat × Nat) (fun ⟨j, x⟩ => [(1, li 2), (5, .slice A13 (4 + 1) c14), (6, vu x), (7, li (35 - (j : Int)))]) (fun ⟨j, x⟩ w_ => (j ≤ 36 ∧ x = rootS p 2 j) ∧ Hp w [] [.row A13 (4 + 1) c14 31 1 (dg ((List.replicate 4 0) ++ [p])), .row (some ⟨p9, 0, none⟩) 1 1 31 1 (dg [p])] w_) (fun ⟨j, x⟩ => 36 - j) ⟨0, 0⟩ [1, 5, 6, 7] (by kernel_rfl) ⟨⟨by omega, rfl⟩, H17⟩ ?_
 rintro ⟨j, x⟩ w24 ⟨hi25, H26⟩
 refine G.eq (M' := [(1, li 2), (5, .slice A13 (4 + 1) c14), (6, vu x), (7, li (35 - (j : Int)))]) rfl ?_
 obtain ⟨hj36, hxj⟩ := hi25
 refine G.seqK fun K27 hK28 => ?_
 refine G.sr fun K29 hK30 => ?_
 refine GL.r 2 2 [(1, li 2), (5, .slice A13 (4 + 1) c14), (6, vu x), (7, li (35 - (j : Int))), (18, .bool (decide (0 ≤ (35 - (j : Int)))))] ?_
 refine GL.q hK30 ?_
 cases hb31 : (decide (0 ≤ (35 - (j : Int))))
 · skip
   have hb31f := of_decide_eq_false hb31
   refine G.no rfl ?_
   refine G.exitK hK21 (fun _ _ h => h) ?_
   refine G.sr fun K32 hK33 => ?_
   refine GL.r 3 3 [(4, lw (IntKind.u32.wrap (x : Int)))] ?_
   have e34 : (IntKind.u32.wrap (x : Int)) = (((x % W32) : Nat) : Int) := w_u32 _
   rw [e34]
   clear e34
   refine GL.q hK33 ?_
   refine G.ret fun F_ hF_ hM_ => hRet _ _ (bodyPost_1 rfl (RV.tmp rfl) ?_ F_ hF_ hM_)
   rw [show rootS p 2 36 = x by rw [hxj, show j = 36 by omega]]
   exact ⟨rfl, H26.sub (List.nil_sublist _)⟩
 · skip
   have hb31f := of_decide_eq_true hb31
   have ei : (35 - (j : Int)) = ((35 - j : Nat) : Int) := by omega
   refine G.eq (M' := [(1, li 2), (5, .slice A13 (4 + 1) c14), (6, vu x), (7, vi (35 - j)), (18, .bool true)]) (by rw [ei]) ?_
   have hroom : x + 2 ^ (35 - j) < 68719476736 := by rw [hxj]; exact rootS_room (by omega)
   have h2p : 2 ^ (35 - j) ≤ 68719476736 := by omega
   refine G.yes rfl ?_
   refine G.skipK hK28 (fun _ _ h => h) ?_
   refine G.seqK fun K35 hK36 => ?_
   refine G.block ?_
   refine G.sr fun K37 hK38 => ?_
   refine GL.r 2 2 [(1, li 2), (5, .slice A13 (4 + 1) c14), (6, vu x), (7, vi (35 - j)), (21, vu x), (22, vi (35 - j))] ?_
   refine GL.s 3 (run_shl1 (P := Try.prog) (k' := .i64) (t := 31) (r := (35 - j)) (by omega) _) [(1, li 2), (5, .slice A13 (4 + 1) c14), (6, vu x), (7, vi (35 - j)), (21, vu x), (23, vu (2 ^ (35 - j)))] ?_
   refine GL.r 5 2 [(1, li 2), (5, .slice A13 (4 + 1) c14), (6, vu x), (7, vi (35 - j)), (24, lu (IntKind.u64.wrap ((x : Int) + (((2 ^ (35 - j)) : Nat) : Int)))), (25, li 2)] ?_
   have e39 : (IntKind.u64.wrap ((x : Int) + (((2 ^ (35 - j)) : Nat) : Int))) = ((x + 2 ^ (35 - j) : Nat) : Int) := n_add' (a := x) (b := 2 ^ (35 - j)) (by omega)
   rw [e39]
   clear e39
   refine GL.call (j := 6) (Power_calls (x + 2 ^ (35 - j)) 2 (by omega) (by omega) w24) (by kernel_rfl) rfl (fun e_ w44 hR => ?_)
   obtain ⟨ds, A40, c41, rfl, H43, hdok, hdl, hdv⟩ := hR
   have H42 : Hp w [] [.row A13 (4 + 1) c14 31 1 (dg ((List.replicate 4 0) ++ [p])), .row (some ⟨p9, 0, none⟩) 1 1 31 1 (dg [p]), .row A40 ds.length c41 31 1 (dg ds)] w44 := H26.callNew H43
   refine ⟨_, rfl, [1, 5, 6, 7, 26], [(1, li 2), (5, .slice A13 (4 + 1) c14), (6, vu x), (7, vi (35 - j)), (26, .slice A40 ds.length c41)], by kernel_rfl, ?_⟩
   refine GL.r 7 1 [(1, li 2), (5, .slice A13 (4 + 1) c14), (6, vu x), (7, vi (35 - j)), (8, .slice A40 ds.length c41)] ?_
   refine GL.q hK38 ?_
   refine G.sr fun K45 hK46 => ?_
   refine GL.r 1 1 [(1, li 2), (5, .slice A13 (4 + 1) c14), (6, vu x), (7, vi (35 - j)), (8, .slice A40 ds.length c41), (9, .bool false)] ?_
   refine GL.q hK46 ?_
   refine G.seqK fun K47 hK48 => ?_
   refine G.sr fun K49 hK50 => ?_
   refine GL.r 1 1 [(1, li 2), (5, .slice A13 (4 + 1) c14), (6, vu x), (7, vi (35 - j)), (8, .slice A40 ds.length c41), (9, .bool false), (10, li 0)] ?_
   refine GL.q hK50 ?_
   refine G.block ?_
   refine G.fit [1, 5, 6, 7, 8, 9, 10] (M' := [(1, li 2), (5, .slice A13 (4 + 1) c14), (6, vu x), (7, vi (35 - j)), (8, .slice A40 ds.length c41), (9, .bool false), (10, li 0)]) (by kernel_rfl) ?_
   refine G.loop (X := Nat × Bool) (fun ⟨i, o⟩ => [(1, li 2), (5, .slice A13 (4 + 1) c14), (6, vu x), (7, vi (35 - j)), (8, .slice A40 ds.length c41), (9, .bool o), (10, vi i)]) (fun ⟨i, o⟩ w_ => (i ≤ 16 ∧ o = decide (val (((List.replicate 4 0) ++ [p]).take i) < val (ds.take i))) ∧ Hp w [] [.row A13 (4 + 1) c14 31 1 (dg ((List.replicate 4 0) ++ [p])), .row (some ⟨p9, 0, none⟩) 1 1 31 1 (dg [p]), .row A40 ds.length c41 31 1 (dg ds)] w_) (fun ⟨i, o⟩ => 16 - i) ⟨0, false⟩ [1, 5, 6, 7, 8, 9, 10] (by kernel_rfl) ⟨⟨by omega, by rw [List.take_zero, List.take_zero]; exact (decide_eq_false (Nat.lt_irrefl _)).symm⟩, H42⟩ ?_
   rintro ⟨i, o⟩ w51 ⟨hi52, H53⟩
   refine G.eq (M' := [(1, li 2), (5, .slice A13 (4 + 1) c14), (6, vu x), (7, vi (35 - j)), (8, .slice A40 ds.length c41), (9, .bool o), (10, vi i)]) rfl ?_
   obtain ⟨hi16, hov⟩ := hi52
   refine G.seqK fun K54 hK55 => ?_
   refine G.sr fun K56 hK57 => ?_
   refine GL.r 2 2 [(1, li 2), (5, .slice A13 (4 + 1) c14), (6, vu x), (7, vi (35 - j)), (8, .slice A40 ds.length c41), (9, .bool o), (10, vi i), (28, .bool (decide ((i : Int) < 16)))] ?_
   refine GL.q hK57 ?_
   cases hb58 : (decide ((i : Int) < 16))
   · skip
     have hb58f := of_decide_eq_false hb58
     refine G.no rfl ?_
     refine G.exitK hK48 (fun _ _ h => h) ?_
     refine G.sr fun K59 hK60 => ?_
     refine GL.r 2 2 [(1, li 2), (5, .slice A13 (4 + 1) c14), (6, vu x), (7, vi (35 - j)), (46, .bool (!o))] ?_
     refine GL.q hK60 ?_
     rcases (Bool.eq_false_or_eq_true o).symm with hb61 | hb61
     · skip
       refine G.eq (M' := [(1, li 2), (5, .slice A13 (4 + 1) c14), (6, vu x), (7, vi (35 - j)), (46, .bool true)]) (by first | (rw [hb61]; done) | (rw [hb61]; rfl)) ?_
       refine G.yes rfl ?_
       refine G.region ?_
       refine GL.r 2 2 [(1, li 2), (5, .slice A13 (4 + 1) c14), (7, vi (35 - j)), (47, vu x), (48, vi (35 - j))] ?_
       refine GL.s 3 (run_shl1 (P := Try.prog) (k' := .i64) (t := 31) (r := (35 - j)) (by omega) _) [(1, li 2), (5, .slice A13 (4 + 1) c14), (7, vi (35 - j)), (47, vu x), (49, vu (2 ^ (35 - j)))] ?_
       refine GL.r 5 2 [(1, li 2), (5, .slice A13 (4 + 1) c14), (6, lu (IntKind.u64.wrap ((x : Int) + (((2 ^ (35 - j)) : Nat) : Int)))), (7, vi (35 - j))] ?_
       have e62 : (IntKind.u64.wrap ((x : Int) + (((2 ^ (35 - j)) : Nat) : Int))) = ((x + 2 ^ (35 - j) : Nat) : Int) := n_add' (a := x) (b := 2 ^ (35 - j)) (by omega)
       rw [e62]
       clear e62
       refine GL.q hK36 ?_
       refine G.region ?_
       refine GL.r 3 3 [(1, li 2), (5, .slice A13 (4 + 1) c14), (6, vu (x + 2 ^ (35 - j))), (7, li (IntKind.i64.wrap ((((35 - j) : Nat) : Int) - 1)))] ?_
       have e63 : (IntKind.i64.wrap ((((35 - j) : Nat) : Int) - 1)) = (34 - (j : Int)) := by rw [in_i64 (by omega)]; omega
       rw [e63]
       clear e63
       have H64 : Hp w [] [.row A13 (4 + 1) c14 31 1 (dg ((List.replicate 4 0) ++ [p])), .row (some ⟨p9, 0, none⟩) 1 1 31 1 (dg [p])] w51 := H53.sub (List.Sublist.cons_cons _ (List.Sublist.cons_cons _ (List.Sublist.cons _ (List.Sublist.slnil))))
       have hcmp : o = decide (p * 65536 ^ (2 * 2) < (x + 2 ^ (35 - j)) ^ 2) := by rw [hov, show i = 16 by omega, List.take_of_length_le (by omega), List.take_of_length_le (by omega), hWv, hdv]
       have hroot : rootS p 2 (j + 1) = (x + 2 ^ (35 - j)) := by rw [rootS, ← hxj, if_pos (by have := of_decide_eq_false (hcmp.symm.trans hb61); omega)]
       refine GL.fit (ts := [1, 5, 6, 7]) (M' := [(1, li 2), (5, .slice A13 (4 + 1) c14), (6, vu (x + 2 ^ (35 - j))), (7, li (34 - (j : Int)))]) (by kernel_rfl) ?_
       refine GL.eq (M' := [(1, li 2), (5, .slice A13 (4 + 1) c14), (6, vu (x + 2 ^ (35 - j))), (7, li (35 - (((j + 1) : Nat) : Int)))]) (by rw [show (34 - (j : Int)) = 35 - ((j + 1 : Nat) : Int) by omega]) ?_
       exact GL.again ⟨(j + 1), (x + 2 ^ (35 - j))⟩ [1, 5, 6, 7] rfl (by kernel_rfl) (by show 36 - (j + 1) < 36 - j; omega) ⟨⟨by omega, hroot.symm⟩, H64⟩
     · skip
       refine G.eq (M' := [(1, li 2), (5, .slice A13 (4 + 1) c14), (6, vu x), (7, vi (35 - j)), (46, .bool false)]) (by first | (rw [hb61]; done) | (rw [hb61]; rfl)) ?_
       refine G.no rfl ?_
       refine G.skipK hK36 (fun _ _ h => h) ?_
       refine G.region ?_
       refine GL.r 3 3 [(1, li 2), (5, .slice A13 (4 + 1) c14), (6, vu x), (7, li (IntKind.i64.wrap ((((35 - j) : Nat) : Int) - 1)))] ?_
       have e65 : (IntKind.i64.wrap ((((35 - j) : Nat) : Int) - 1)) = (34 - (j : Int)) := by rw [in_i64 (by omega)]; omega
       rw [e65]
       clear e65
       have H66 : Hp w [] [.row A13 (4 + 1) c14 31 1 (dg ((List.replicate 4 0) ++ [p])), .row (some ⟨p9, 0, none⟩) 1 1 31 1 (dg [p])] w51 := H53.sub (List.Sublist.cons_cons _ (List.Sublist.cons_cons _ (List.Sublist.cons _ (List.Sublist.slnil))))
       have hcmp : o = decide (p * 65536 ^ (2 * 2) < (x + 2 ^ (35 - j)) ^ 2) := by rw [hov, show i = 16 by omega, List.take_of_length_le (by omega), List.take_of_length_le (by omega), hWv, hdv]
       have hroot : rootS p 2 (j + 1) = x := by rw [rootS, ← hxj, if_neg (by have := of_decide_eq_true (hcmp.symm.trans hb61); omega)]
       refine GL.fit (ts := [1, 5, 6, 7]) (M' := [(1, li 2), (5, .slice A13 (4 + 1) c14), (6, vu x), (7, li (34 - (j : Int)))]) (by kernel_rfl) ?_
       refine GL.eq (M' := [(1, li 2), (5, .slice A13 (4 + 1) c14), (6, vu x), (7, li (35 - (((j + 1) : Nat) : Int)))]) (by rw [show (34 - (j : Int)) = 35 - ((j + 1 : Nat) : Int) by omega]) ?_
       exact GL.again ⟨(j + 1), x⟩ [1, 5, 6, 7] rfl (by kernel_rfl) (by show 36 - (j + 1) < 36 - j; omega) ⟨⟨by omega, hroot.symm⟩, H66⟩
   · skip
     have hb58f := of_decide_eq_true hb58
     refine G.yes rfl ?_
     refine G.skipK hK55 (fun _ _ h => h) ?_
     refine G.seqK fun K67 hK68 => ?_
     refine G.block ?_
     refine G.sr fun K69 hK70 => ?_
     refine GL.r 2 2 [(1, li 2), (5, .slice A13 (4 + 1) c14), (6, vu x), (7, vi (35 - j)), (8, .slice A40 ds.length c41), (9, .bool o), (10, vi i), (31, .slice A40 ds.length c41), (32, vi i)] ?_
     refine GL.call (j := 3) (Digit_calls ds i ds.length A40 c41 w51 (H53.rdRow 2 rfl) (rfl)) (by kernel_rfl) rfl (fun e_ w71 hR => ?_)
     obtain ⟨rfl, H73⟩ := hR
     have H72 : Hp w [] [.row A13 (4 + 1) c14 31 1 (dg ((List.replicate 4 0) ++ [p])), .row (some ⟨p9, 0, none⟩) 1 1 31 1 (dg [p]), .row A40 ds.length c41 31 1 (dg ds)] w71 := H53.callNil H73
     refine ⟨_, rfl, [1, 5, 6, 7, 8, 9, 10, 33], [(1, li 2), (5, .slice A13 (4 + 1) c14), (6, vu x), (7, vi (35 - j)), (8, .slice A40 ds.length c41), (9, .bool o), (10, vi i), (33, vu (ds.getD i 0))], by kernel_rfl, ?_⟩
     refine GL.r 5 2 [(1, li 2), (5, .slice A13 (4 + 1) c14), (6, vu x), (7, vi (35 - j)), (8, .slice A40 ds.length c41), (9, .bool o), (10, vi i), (33, vu (ds.getD i 0)), (34, .slice A13 (4 + 1) c14), (35, vi i)] ?_
     refine GL.call (j := 6) (Digit_calls ((List.replicate 4 0) ++ [p]) i (4 + 1) A13 c14 w71 (H72.rdRow 0 rfl) (by omega)) (by kernel_rfl) rfl (fun e_ w74 hR => ?_)
     obtain ⟨rfl, H76⟩ := hR
     have H75 : Hp w [] [.row A13 (4 + 1) c14 31 1 (dg ((List.replicate 4 0) ++ [p])), .row (some ⟨p9, 0, none⟩) 1 1 31 1 (dg [p]), .row A40 ds.length c41 31 1 (dg ds)] w74 := H72.callNil H76
     refine ⟨_, rfl, [1, 5, 6, 7, 8, 9, 10, 33, 36], [(1, li 2), (5, .slice A13 (4 + 1) c14), (6, vu x), (7, vi (35 - j)), (8, .slice A40 ds.length c41), (9, .bool o), (10, vi i), (33, vu (ds.getD i 0)), (36, vu (((List.replicate 4 0) ++ [p]).getD i 0))], by kernel_rfl, ?_⟩
     refine GL.r 7 1 [(1, li 2), (5, .slice A13 (4 + 1) c14), (6, vu x), (7, vi (35 - j)), (8, .slice A40 ds.length c41), (9, .bool o), (10, vi i), (37, .bool ((((ds.getD i 0) : Nat) : Int) != (((((List.replicate 4 0) ++ [p]).getD i 0) : Nat) : Int)))] ?_
     refine GL.q hK70 ?_
     cases hb77 : ((((ds.getD i 0) : Nat) : Int) != (((((List.replicate 4 0) ++ [p]).getD i 0) : Nat) : Int))
     · skip
       have hb77f : (((ds.getD i 0) : Nat) : Int) = (((((List.replicate 4 0) ++ [p]).getD i 0) : Nat) : Int) := bne_eq_false_iff_eq.1 hb77
       refine G.no rfl ?_
       refine G.skipK hK68 (fun _ _ h => h) ?_
       refine G.region ?_
       refine GL.r 3 3 [(1, li 2), (5, .slice A13 (4 + 1) c14), (6, vu x), (7, vi (35 - j)), (8, .slice A40 ds.length c41), (9, .bool o), (10, li (IntKind.i64.wrap ((i : Int) + 1)))] ?_
       have e78 : (IntKind.i64.wrap ((i : Int) + 1)) = ((i + 1 : Nat) : Int) := by rw [in_i64 (by omega)]; omega
       rw [e78]
       clear e78
       refine GL.fit (ts := [1, 5, 6, 7, 8, 9, 10]) (M' := [(1, li 2), (5, .slice A13 (4 + 1) c14), (6, vu x), (7, vi (35 - j)), (8, .slice A40 ds.length c41), (9, .bool o), (10, vi (i + 1))]) (by kernel_rfl) ?_
       refine GL.eq (M' := [(1, li 2), (5, .slice A13 (4 + 1) c14), (6, vu x), (7, vi (35 - j)), (8, .slice A40 ds.length c41), (9, .bool o), (10, vi (i + 1))]) (by rfl) ?_
       exact GL.again ⟨(i + 1), o⟩ [1, 5, 6, 7, 8, 9, 10] rfl (by kernel_rfl) (by show 16 - (i + 1) < 16 - i; omega) ⟨⟨by omega, by rw [(cmp_step (i := i) hdok hWok).2 (by omega), hov]⟩, H75⟩
     · skip
       have hb77f : (((ds.getD i 0) : Nat) : Int) ≠ (((((List.replicate 4 0) ++ [p]).getD i 0) : Nat) : Int) := bne_iff_ne.1 hb77
       refine G.yes rfl ?_
       refine G.region ?_
       refine GL.r 2 2 [(1, li 2), (5, .slice A13 (4 + 1) c14), (6, vu x), (7, vi (35 - j)), (8, .slice A40 ds.length c41), (10, vi i), (38, .slice A40 ds.length c41), (39, vi i)] ?_
       refine GL.call (j := 3) (Digit_calls ds i ds.length A40 c41 w74 (H75.rdRow 2 rfl) (rfl)) (by kernel_rfl) rfl (fun e_ w79 hR => ?_)
       obtain ⟨rfl, H81⟩ := hR
       have H80 : Hp w [] [.row A13 (4 + 1) c14 31 1 (dg ((List.replicate 4 0) ++ [p])), .row (some ⟨p9, 0, none⟩) 1 1 31 1 (dg [p]), .row A40 ds.length c41 31 1 (dg ds)] w79 := H75.callNil H81
       refine ⟨_, rfl, [1, 5, 6, 7, 8, 10, 40], [(1, li 2), (5, .slice A13 (4 + 1) c14), (6, vu x), (7, vi (35 - j)), (8, .slice A40 ds.length c41), (10, vi i), (40, vu (ds.getD i 0))], by kernel_rfl, ?_⟩
       refine GL.r 5 2 [(1, li 2), (5, .slice A13 (4 + 1) c14), (6, vu x), (7, vi (35 - j)), (8, .slice A40 ds.length c41), (10, vi i), (40, vu (ds.getD i 0)), (41, .slice A13 (4 + 1) c14), (42, vi i)] ?_
       refine GL.call (j := 6) (Digit_calls ((List.replicate 4 0) ++ [p]) i (4 + 1) A13 c14 w79 (H80.rdRow 0 rfl) (by omega)) (by kernel_rfl) rfl (fun e_ w82 hR => ?_)
       obtain ⟨rfl, H84⟩ := hR
       have H83 : Hp w [] [.row A13 (4 + 1) c14 31 1 (dg ((List.replicate 4 0) ++ [p])), .row (some ⟨p9, 0, none⟩) 1 1 31 1 (dg [p]), .row A40 ds.length c41 31 1 (dg ds)] w82 := H80.callNil H84
       refine ⟨_, rfl, [1, 5, 6, 7, 8, 10, 40, 43], [(1, li 2), (5, .slice A13 (4 + 1) c14), (6, vu x), (7, vi (35 - j)), (8, .slice A40 ds.length c41), (10, vi i), (40, vu (ds.getD i 0)), (43, vu (((List.replicate 4 0) ++ [p]).getD i 0))], by kernel_rfl, ?_⟩
       refine GL.r 8 2 [(1, li 2), (5, .slice A13 (4 + 1) c14), (6, vu x), (7, vi (35 - j)), (8, .slice A40 ds.length c41), (9, .bool (decide ((((((List.replicate 4 0) ++ [p]).getD i 0) : Nat) : Int) < (((ds.getD i 0) : Nat) : Int)))), (10, vi i)] ?_
       refine GL.q hK68 ?_
       refine G.region ?_
       refine GL.r 3 3 [(1, li 2), (5, .slice A13 (4 + 1) c14), (6, vu x), (7, vi (35 - j)), (8, .slice A40 ds.length c41), (9, .bool (decide ((((((List.replicate 4 0) ++ [p]).getD i 0) : Nat) : Int) < (((ds.getD i 0) : Nat) : Int)))), (10, li (IntKind.i64.wrap ((i : Int) + 1)))] ?_
       have e85 : (IntKind.i64.wrap ((i : Int) + 1)) = ((i + 1 : Nat) : Int) := by rw [in_i64 (by omega)]; omega
       rw [e85]
       clear e85
       refine GL.fit (ts := [1, 5, 6, 7, 8, 9, 10]) (M' := [(1, li 2), (5, .slice A13 (4 + 1) c14), (6, vu x), (7, vi (35 - j)), (8, .slice A40 ds.length c41), (9, .bool (decide ((((((List.replicate 4 0) ++ [p]).getD i 0) : Nat) : Int) < (((ds.getD i 0) : Nat) : Int)))), (10, vi (i + 1))]) (by kernel_rfl) ?_
       refine GL.eq (M' := [(1, li 2), (5, .slice A13 (4 + 1) c14), (6, vu x), (7, vi (35 - j)), (8, .slice A40 ds.length c41), (9, .bool (decide ((((((List.replicate 4 0) ++ [p]).getD i 0) : Nat) : Int) < (((ds.getD i 0) : Nat) : Int)))), (10, vi (i + 1))]) (by rfl) ?_
       exact GL.again ⟨(i + 1), (decide ((((((List.replicate 4 0) ++ [p]).getD i 0) : Nat) : Int) < (((ds.getD i 0) : Nat) : Int)))⟩ [1, 5, 6, 7, 8, 9, 10] rfl (by kernel_rfl) (by show 16 - (i + 1) < 16 - i; omega) ⟨⟨by omega, by rw [(cmp_step (i := i) hdok hWok).1 (by omega), decide_eq_decide]; omega⟩, H83⟩
theorem Root3_calls (p : Nat) (hp : p < 65536) (w : World) : Calls Try.prog 59 #[.int .u64 (p : Int), .int .i64 3] w fun e w' => e = .returned (.int .u32 ((rootS p 3 36 % W32 : Nat) : Int)) ∧ Hp w [] [] w' := by
 have hMX : MX = 4611686018427387904 := rfl
 have hK0 : K = 18446744073709551616 := rfl
 have hK40 : K4 = 115792089237316195423570985008687907853269984665640564039457584007913129639936 := rfl
 refine calls_G (args := [vu p, li 3]) Try.func59 rfl Try.ntmps59 rfl ?_
 intro Q0 hRet hNor hPan
 have H := Hp.start w
 refine G.sr fun K1 hK2 => ?_
 refine GL.r 1 1 [(0, vu p), (1, li 3)] ?_
 refine GL.q hK2 ?_
 refine G.sr fun K3 hK4 => ?_
 refine GL.r 2 2 [(0, vu p), (1, li 3), (12, li 6)] ?_
 obtain ⟨p5, w6, r7, H8⟩ := H.makeD (P := Try.prog) (t := 34) (e := 31) (n := 6) (kl := .i64) (kc := .i64) (by kernel_rfl) (by omega)
 refine GL.s 3 (r7) [(0, vu p), (1, li 3), (13, .slice (some ⟨p5, 0, none⟩) 6 6)] ?_
 refine GL.r 4 1 [(1, li 3), (13, .slice (some ⟨p5, 0, none⟩) 6 6), (14, vu p)] ?_
 obtain ⟨p9, w10, r11, H12⟩ := H8.madeRow (P := Try.prog) (Instr.buildSlice 34 1 #[(0, vu p)]) (fun b_ => .slice (some ⟨b_, 0, none⟩) 1 1) [vu p] 31 1 1 1 (by kernel_rfl) (by decide) (by decide) rfl
 refine GL.s 5 (r11) [(1, li 3), (13, .slice (some ⟨p5, 0, none⟩) 6 6), (15, .slice (some ⟨p9, 0, none⟩) 1 1)] ?_
 obtain ⟨A13, c14, w15, r16, H17⟩ := H12.append (P := Try.prog) (e := 31) (sz := 1) (by_ := 8) (n := 6) (c := 6) (m := 1) (d := 1) (t := 34) (ty := 34) (xs := dg (List.replicate 6 0)) (news := dg [p]) 0 rfl (by kernel_rfl) (H12.rdRow 1 rfl) (by simp [dg_length]) (dg_one _) (by omega) (by simp only [maxLen]; omega)
 rw [← dg_append] at H17
 refine GL.s 6 (r16) [(1, li 3), (16, .slice A13 (6 + 1) c14)] ?_
 refine GL.r 7 1 [(1, li 3), (5, .slice A13 (6 + 1) c14)] ?_
 refine GL.q hK4 ?_
 refine G.sr fun K18 hK19 => ?_
 refine GL.r 1 1 [(1, li 3), (5, .slice A13 (6 + 1) c14), (6, lu 0)] ?_
 refine GL.q hK19 ?_
 refine G.seqK fun K20 hK21 => ?_
 refine G.sr fun K22 hK23 => ?_
 refine GL.r 1 1 [(1, li 3), (5, .slice A13 (6 + 1) c14), (6, lu 0), (7, li 35)] ?_
 refine GL.q hK23 ?_
 refine G.block ?_
 have hWok : ok16 ((List.replicate 6 0) ++ [p]) := fun d hd => (List.mem_append.1 hd).elim (fun hd => by rw [(List.mem_replicate.1 hd).2]; decide) (fun hd => by rw [List.mem_singleton.1 hd]; exact hp)
 have hWl : ((List.replicate 6 0) ++ [p]).length = 7 := by rw [List.length_append, List.length_replicate]; rfl
 have hWv : val ((List.replicate 6 0) ++ [p]) = p * 65536 ^ (2 * 3) := by rw [val_append, val_zeros, List.length_replicate, Nat.zero_add, Nat.mul_comm]; show (p + 65536 * 0) * _ = _; rw [Nat.mul_zero, Nat.add_zero]
 refine G.fit [1, 5, 6, 7] (M' := [(1, li 3), (5, .slice A13 (6 + 1) c14), (6, lu 0), (7, li 35)]) (by kernel_rfl) ?_
 refine G.eq (M' := [(1, li 3), (5, .slice A13 (6 + 1) c14), (6, lu 0), (7, li (35 - ((0 : Nat) : Int)))]) (by rfl) ?_
 refine G.loop (X := Nat × Nat) (fun ⟨j, x⟩ => [(1, li 3), (5, .slice A13 (6 + 1) c14), (6, vu x), (7, li (35 - (j : Int)))]) (fun ⟨j, x⟩ w_ => (j ≤ 36 ∧ x = rootS p 3 j) ∧ Hp w [] [.row A13 (6 + 1) c14 31 1 (dg ((List.replicate 6 0) ++ [p])), .row (some ⟨p9, 0, none⟩) 1 1 31 1 (dg [p])] w_) (fun ⟨j, x⟩ => 36 - j) ⟨0, 0⟩ [1, 5, 6, 7] (by kernel_rfl) ⟨⟨by omega, rfl⟩, H17⟩ ?_
 rintro ⟨j, x⟩ w24 ⟨hi25, H26⟩
 refine G.eq (M' := [(1, li 3), (5, .slice A13 (6 + 1) c14), (6, vu x), (7, li (35 - (j : Int)))]) rfl ?_
 obtain ⟨hj36, hxj⟩ := hi25
 refine G.seqK fun K27 hK28 => ?_
 refine G.sr fun K29 hK30 => ?_
 refine GL.r 2 2 [(1, li 3), (5, .slice A13 (6 + 1) c14), (6, vu x), (7, li (35 - (j : Int))), (18, .bool (decide (0 ≤ (35 - (j : Int)))))] ?_
 refine GL.q hK30 ?_
 cases hb31 : (decide (0 ≤ (35 - (j : Int))))
 · skip
   have hb31f := of_decide_eq_false hb31
   refine G.no rfl ?_
   refine G.exitK hK21 (fun _ _ h => h) ?_
   refine G.sr fun K32 hK33 => ?_
   refine GL.r 3 3 [(4, lw (IntKind.u32.wrap (x : Int)))] ?_
   have e34 : (IntKind.u32.wrap (x : Int)) = (((x % W32) : Nat) : Int) := w_u32 _
   rw [e34]
   clear e34
   refine GL.q hK33 ?_
   refine G.ret fun F_ hF_ hM_ => hRet _ _ (bodyPost_1 rfl (RV.tmp rfl) ?_ F_ hF_ hM_)
   rw [show rootS p 3 36 = x by rw [hxj, show j = 36 by omega]]
   exact ⟨rfl, H26.sub (List.nil_sublist _)⟩
 · skip
   have hb31f := of_decide_eq_true hb31
   have ei : (35 - (j : Int)) = ((35 - j : Nat) : Int) := by omega
   refine G.eq (M' := [(1, li 3), (5, .slice A13 (6 + 1) c14), (6, vu x), (7, vi (35 - j)), (18, .bool true)]) (by rw [ei]) ?_
   have hroom : x + 2 ^ (35 - j) < 68719476736 := by rw [hxj]; exact rootS_room (by omega)
   have h2p : 2 ^ (35 - j) ≤ 68719476736 := by omega
   refine G.yes rfl ?_
   refine G.skipK hK28 (fun _ _ h => h) ?_
   refine G.seqK fun K35 hK36 => ?_
   refine G.block ?_
   refine G.sr fun K37 hK38 => ?_
   refine GL.r 2 2 [(1, li 3), (5, .slice A13 (6 + 1) c14), (6, vu x), (7, vi (35 - j)), (21, vu x), (22, vi (35 - j))] ?_
   refine GL.s 3 (run_shl1 (P := Try.prog) (k' := .i64) (t := 31) (r := (35 - j)) (by omega) _) [(1, li 3), (5, .slice A13 (6 + 1) c14), (6, vu x), (7, vi (35 - j)), (21, vu x), (23, vu (2 ^ (35 - j)))] ?_
   refine GL.r 5 2 [(1, li 3), (5, .slice A13 (6 + 1) c14), (6, vu x), (7, vi (35 - j)), (24, lu (IntKind.u64.wrap ((x : Int) + (((2 ^ (35 - j)) : Nat) : Int)))), (25, li 3)] ?_
   have e39 : (IntKind.u64.wrap ((x : Int) + (((2 ^ (35 - j)) : Nat) : Int))) = ((x + 2 ^ (35 - j) : Nat) : Int) := n_add' (a := x) (b := 2 ^ (35 - j)) (by omega)
   rw [e39]
   clear e39
   refine GL.call (j := 6) (Power_calls (x + 2 ^ (35 - j)) 3 (by omega) (by omega) w24) (by kernel_rfl) rfl (fun e_ w44 hR => ?_)
   obtain ⟨ds, A40, c41, rfl, H43, hdok, hdl, hdv⟩ := hR
   have H42 : Hp w [] [.row A13 (6 + 1) c14 31 1 (dg ((List.replicate 6 0) ++ [p])), .row (some ⟨p9, 0, none⟩) 1 1 31 1 (dg [p]), .row A40 ds.length c41 31 1 (dg ds)] w44 := H26.callNew H43
   refine ⟨_, rfl, [1, 5, 6, 7, 26], [(1, li 3), (5, .slice A13 (6 + 1) c14), (6, vu x), (7, vi (35 - j)), (26, .slice A40 ds.length c41)], by kernel_rfl, ?_⟩
   refine GL.r 7 1 [(1, li 3), (5, .slice A13 (6 + 1) c14), (6, vu x), (7, vi (35 - j)), (8, .slice A40 ds.length c41)] ?_
   refine GL.q hK38 ?_
   refine G.sr fun K45 hK46 => ?_
   refine GL.r 1 1 [(1, li 3), (5, .slice A13 (6 + 1) c14), (6, vu x), (7, vi (35 - j)), (8, .slice A40 ds.length c41), (9, .bool false)] ?_
   refine GL.q hK46 ?_
   refine G.seqK fun K47 hK48 => ?_
   refine G.sr fun K49 hK50 => ?_
   refine GL.r 1 1 [(1, li 3), (5, .slice A13 (6 + 1) c14), (6, vu x), (7, vi (35 - j)), (8, .slice A40 ds.length c41), (9, .bool false), (10, li 0)] ?_
   refine GL.q hK50 ?_
   refine G.block ?_
   refine G.fit [1, 5, 6, 7, 8, 9, 10] (M' := [(1, li 3), (5, .slice A13 (6 + 1) c14), (6, vu x), (7, vi (35 - j)), (8, .slice A40 ds.length c41), (9, .bool false), (10, li 0)]) (by kernel_rfl) ?_
   refine G.loop (X := Nat × Bool) (fun ⟨i, o⟩ => [(1, li 3), (5, .slice A13 (6 + 1) c14), (6, vu x), (7, vi (35 - j)), (8, .slice A40 ds.length c41), (9, .bool o), (10, vi i)]) (fun ⟨i, o⟩ w_ => (i ≤ 16 ∧ o = decide (val (((List.replicate 6 0) ++ [p]).take i) < val (ds.take i))) ∧ Hp w [] [.row A13 (6 + 1) c14 31 1 (dg ((List.replicate 6 0) ++ [p])), .row (some ⟨p9, 0, none⟩) 1 1 31 1 (dg [p]), .row A40 ds.length c41 31 1 (dg ds)] w_) (fun ⟨i, o⟩ => 16 - i) ⟨0, false⟩ [1, 5, 6, 7, 8, 9, 10] (by kernel_rfl) ⟨⟨by omega, by rw [List.take_zero, List.take_zero]; exact (decide_eq_false (Nat.lt_irrefl _)).symm⟩, H42⟩ ?_
   rintro ⟨i, o⟩ w51 ⟨hi52, H53⟩
   refine G.eq (M' := [(1, li 3), (5, .slice A13 (6 + 1) c14), (6, vu x), (7, vi (35 - j)), (8, .slice A40 ds.length c41), (9, .bool o), (10, vi i)]) rfl ?_
   obtain ⟨hi16, hov⟩ := hi52
   refine G.seqK fun K54 hK55 => ?_
   refine G.sr fun K56 hK57 => ?_
   refine GL.r 2 2 [(1, li 3), (5, .slice A13 (6 + 1) c14), (6, vu x), (7, vi (35 - j)), (8, .slice A40 ds.length c41), (9, .bool o), (10, vi i), (28, .bool (decide ((i : Int) < 16)))] ?_
   refine GL.q hK57 ?_
   cases hb58 : (decide ((i : Int) < 16))
   · skip
     have hb58f := of_decide_eq_false hb58
     refine G.no rfl ?_
     refine G.exitK hK48 (fun _ _ h => h) ?_
     refine G.sr fun K59 hK60 => ?_
     refine GL.r 2 2 [(1, li 3), (5, .slice A13 (6 + 1) c14), (6, vu x), (7, vi (35 - j)), (46, .bool (!o))] ?_
     refine GL.q hK60 ?_
     rcases (Bool.eq_false_or_eq_true o).symm with hb61 | hb61
     · skip
       refine G.eq (M' := [(1, li 3), (5, .slice A13 (6 + 1) c14), (6, vu x), (7, vi (35 - j)), (46, .bool true)]) (by first | (rw [hb61]; done) | (rw [hb61]; rfl)) ?_
       refine G.yes rfl ?_
       refine G.region ?_
       refine GL.r 2 2 [(1, li 3), (5, .slice A13 (6 + 1) c14), (7, vi (35 - j)), (47, vu x), (48, vi (35 - j))] ?_
       refine GL.s 3 (run_shl1 (P := Try.prog) (k' := .i64) (t := 31) (r := (35 - j)) (by omega) _) [(1, li 3), (5, .slice A13 (6 + 1) c14), (7, vi (35 - j)), (47, vu x), (49, vu (2 ^ (35 - j)))] ?_
       refine GL.r 5 2 [(1, li 3), (5, .slice A13 (6 + 1) c14), (6, lu (IntKind.u64.wrap ((x : Int) + (((2 ^ (35 - j)) : Nat) : Int)))), (7, vi (35 - j))] ?_
       have e62 : (IntKind.u64.wrap ((x : Int) + (((2 ^ (35 - j)) : Nat) : Int))) = ((x + 2 ^ (35 - j) : Nat) : Int) := n_add' (a := x) (b := 2 ^ (35 - j)) (by omega)
       rw [e62]
       clear e62
       refine GL.q hK36 ?_
       refine G.region ?_
       refine GL.r 3 3 [(1, li 3), (5, .slice A13 (6 + 1) c14), (6, vu (x + 2 ^ (35 - j))), (7, li (IntKind.i64.wrap ((((35 - j) : Nat) : Int) - 1)))] ?_
       have e63 : (IntKind.i64.wrap ((((35 - j) : Nat) : Int) - 1)) = (34 - (j : Int)) := by rw [in_i64 (by omega)]; omega
       rw [e63]
       clear e63
       have H64 : Hp w [] [.row A13 (6 + 1) c14 31 1 (dg ((List.replicate 6 0) ++ [p])), .row (some ⟨p9, 0, none⟩) 1 1 31 1 (dg [p])] w51 := H53.sub (List.Sublist.cons_cons _ (List.Sublist.cons_cons _ (List.Sublist.cons _ (List.Sublist.slnil))))
       have hcmp : o = decide (p * 65536 ^ (2 * 3) < (x + 2 ^ (35 - j)) ^ 3) := by rw [hov, show i = 16 by omega, List.take_of_length_le (by omega), List.take_of_length_le (by omega), hWv, hdv]
       have hroot : rootS p 3 (j + 1) = (x + 2 ^ (35 - j)) := by rw [rootS, ← hxj, if_pos (by have := of_decide_eq_false (hcmp.symm.trans hb61); omega)]
       refine GL.fit (ts := [1, 5, 6, 7]) (M' := [(1, li 3), (5, .slice A13 (6 + 1) c14), (6, vu (x + 2 ^ (35 - j))), (7, li (34 - (j : Int)))]) (by kernel_rfl) ?_
       refine GL.eq (M' := [(1, li 3), (5, .slice A13 (6 + 1) c14), (6, vu (x + 2 ^ (35 - j))), (7, li (35 - (((j + 1) : Nat) : Int)))]) (by rw [show (34 - (j : Int)) = 35 - ((j + 1 : Nat) : Int) by omega]) ?_
       exact GL.again ⟨(j + 1), (x + 2 ^ (35 - j))⟩ [1, 5, 6, 7] rfl (by kernel_rfl) (by show 36 - (j + 1) < 36 - j; omega) ⟨⟨by omega, hroot.symm⟩, H64⟩
     · skip
       refine G.eq (M' := [(1, li 3), (5, .slice A13 (6 + 1) c14), (6, vu x), (7, vi (35 - j)), (46, .bool false)]) (by first | (rw [hb61]; done) | (rw [hb61]; rfl)) ?_
       refine G.no rfl ?_
       refine G.skipK hK36 (fun _ _ h => h) ?_
       refine G.region ?_
       refine GL.r 3 3 [(1, li 3), (5, .slice A13 (6 + 1) c14), (6, vu x), (7, li (IntKind.i64.wrap ((((35 - j) : Nat) : Int) - 1)))] ?_
       have e65 : (IntKind.i64.wrap ((((35 - j) : Nat) : Int) - 1)) = (34 - (j : Int)) := by rw [in_i64 (by omega)]; omega
       rw [e65]
       clear e65
       have H66 : Hp w [] [.row A13 (6 + 1) c14 31 1 (dg ((List.replicate 6 0) ++ [p])), .row (some ⟨p9, 0, none⟩) 1 1 31 1 (dg [p])] w51 := H53.sub (List.Sublist.cons_cons _ (List.Sublist.cons_cons _ (List.Sublist.cons _ (List.Sublist.slnil))))
       have hcmp : o = decide (p * 65536 ^ (2 * 3) < (x + 2 ^ (35 - j)) ^ 3) := by rw [hov, show i = 16 by omega, List.take_of_length_le (by omega), List.take_of_length_le (by omega), hWv, hdv]
       have hroot : rootS p 3 (j + 1) = x := by rw [rootS, ← hxj, if_neg (by have := of_decide_eq_true (hcmp.symm.trans hb61); omega)]
       refine GL.fit (ts := [1, 5, 6, 7]) (M' := [(1, li 3), (5, .slice A13 (6 + 1) c14), (6, vu x), (7, li (34 - (j : Int)))]) (by kernel_rfl) ?_
       refine GL.eq (M' := [(1, li 3), (5, .slice A13 (6 + 1) c14), (6, vu x), (7, li (35 - (((j + 1) : Nat) : Int)))]) (by rw [show (34 - (j : Int)) = 35 - ((j + 1 : Nat) : Int) by omega]) ?_
       exact GL.again ⟨(j + 1), x⟩ [1, 5, 6, 7] rfl (by kernel_rfl) (by show 36 - (j + 1) < 36 - j; omega) ⟨⟨by omega, hroot.symm⟩, H66⟩
   · skip
     have hb58f := of_decide_eq_true hb58
     refine G.yes rfl ?_
     refine G.skipK hK55 (fun _ _ h => h) ?_
     refine G.seqK fun K67 hK68 => ?_
     refine G.block ?_
     refine G.sr fun K69 hK70 => ?_
     refine GL.r 2 2 [(1, li 3), (5, .slice A13 (6 + 1) c14), (6, vu x), (7, vi (35 - j)), (8, .slice A40 ds.length c41), (9, .bool o), (10, vi i), (31, .slice A40 ds.length c41), (32, vi i)] ?_
     refine GL.call (j := 3) (Digit_calls ds i ds.length A40 c41 w51 (H53.rdRow 2 rfl) (rfl)) (by kernel_rfl) rfl (fun e_ w71 hR => ?_)
     obtain ⟨rfl, H73⟩ := hR
     have H72 : Hp w [] [.row A13 (6 + 1) c14 31 1 (dg ((List.replicate 6 0) ++ [p])), .row (some ⟨p9, 0, none⟩) 1 1 31 1 (dg [p]), .row A40 ds.length c41 31 1 (dg ds)] w71 := H53.callNil H73
     refine ⟨_, rfl, [1, 5, 6, 7, 8, 9, 10, 33], [(1, li 3), (5, .slice A13 (6 + 1) c14), (6, vu x), (7, vi (35 - j)), (8, .slice A40 ds.length c41), (9, .bool o), (10, vi i), (33, vu (ds.getD i 0))], by kernel_rfl, ?_⟩
     refine GL.r 5 2 [(1, li 3), (5, .slice A13 (6 + 1) c14), (6, vu x), (7, vi (35 - j)), (8, .slice A40 ds.length c41), (9, .bool o), (10, vi i), (33, vu (ds.getD i 0)), (34, .slice A13 (6 + 1) c14), (35, vi i)] ?_
     refine GL.call (j := 6) (Digit_calls ((List.replicate 6 0) ++ [p]) i (6 + 1) A13 c14 w71 (H72.rdRow 0 rfl) (by omega)) (by kernel_rfl) rfl (fun e_ w74 hR => ?_)
     obtain ⟨rfl, H76⟩ := hR
     have H75 : Hp w [] [.row A13 (6 + 1) c14 31 1 (dg ((List.replicate 6 0) ++ [p])), .row (some ⟨p9, 0, none⟩) 1 1 31 1 (dg [p]), .row A40 ds.length c41 31 1 (dg ds)] w74 := H72.callNil H76
     refine ⟨_, rfl, [1, 5, 6, 7, 8, 9, 10, 33, 36], [(1, li 3), (5, .slice A13 (6 + 1) c14), (6, vu x), (7, vi (35 - j)), (8, .slice A40 ds.length c41), (9, .bool o), (10, vi i), (33, vu (ds.getD i 0)), (36, vu (((List.replicate 6 0) ++ [p]).getD i 0))], by kernel_rfl, ?_⟩
     refine GL.r 7 1 [(1, li 3), (5, .slice A13 (6 + 1) c14), (6, vu x), (7, vi (35 - j)), (8, .slice A40 ds.length c41), (9, .bool o), (10, vi i), (37, .bool ((((ds.getD i 0) : Nat) : Int) != (((((List.replicate 6 0) ++ [p]).getD i 0) : Nat) : Int)))] ?_
     refine GL.q hK70 ?_
     cases hb77 : ((((ds.getD i 0) : Nat) : Int) != (((((List.replicate 6 0) ++ [p]).getD i 0) : Nat) : Int))
     · skip
       have hb77f : (((ds.getD i 0) : Nat) : Int) = (((((List.replicate 6 0) ++ [p]).getD i 0) : Nat) : Int) := bne_eq_false_iff_eq.1 hb77
       refine G.no rfl ?_
       refine G.skipK hK68 (fun _ _ h => h) ?_
       refine G.region ?_
       refine GL.r 3 3 [(1, li 3), (5, .slice A13 (6 + 1) c14), (6, vu x), (7, vi (35 - j)), (8, .slice A40 ds.length c41), (9, .bool o), (10, li (IntKind.i64.wrap ((i : Int) + 1)))] ?_
       have e78 : (IntKind.i64.wrap ((i : Int) + 1)) = ((i + 1 : Nat) : Int) := by rw [in_i64 (by omega)]; omega
       rw [e78]
       clear e78
       refine GL.fit (ts := [1, 5, 6, 7, 8, 9, 10]) (M' := [(1, li 3), (5, .slice A13 (6 + 1) c14), (6, vu x), (7, vi (35 - j)), (8, .slice A40 ds.length c41), (9, .bool o), (10, vi (i + 1))]) (by kernel_rfl) ?_
       refine GL.eq (M' := [(1, li 3), (5, .slice A13 (6 + 1) c14), (6, vu x), (7, vi (35 - j)), (8, .slice A40 ds.length c41), (9, .bool o), (10, vi (i + 1))]) (by rfl) ?_
       exact GL.again ⟨(i + 1), o⟩ [1, 5, 6, 7, 8, 9, 10] rfl (by kernel_rfl) (by show 16 - (i + 1) < 16 - i; omega) ⟨⟨by omega, by rw [(cmp_step (i := i) hdok hWok).2 (by omega), hov]⟩, H75⟩
     · skip
       have hb77f : (((ds.getD i 0) : Nat) : Int) ≠ (((((List.replicate 6 0) ++ [p]).getD i 0) : Nat) : Int) := bne_iff_ne.1 hb77
       refine G.yes rfl ?_
       refine G.region ?_
       refine GL.r 2 2 [(1, li 3), (5, .slice A13 (6 + 1) c14), (6, vu x), (7, vi (35 - j)), (8, .slice A40 ds.length c41), (10, vi i), (38, .slice A40 ds.length c41), (39, vi i)] ?_
       refine GL.call (j := 3) (Digit_calls ds i ds.length A40 c41 w74 (H75.rdRow 2 rfl) (rfl)) (by kernel_rfl) rfl (fun e_ w79 hR => ?_)
       obtain ⟨rfl, H81⟩ := hR
       have H80 : Hp w [] [.row A13 (6 + 1) c14 31 1 (dg ((List.replicate 6 0) ++ [p])), .row (some ⟨p9, 0, none⟩) 1 1 31 1 (dg [p]), .row A40 ds.length c41 31 1 (dg ds)] w79 := H75.callNil H81
       refine ⟨_, rfl, [1, 5, 6, 7, 8, 10, 40], [(1, li 3), (5, .slice A13 (6 + 1) c14), (6, vu x), (7, vi (35 - j)), (8, .slice A40 ds.length c41), (10, vi i), (40, vu (ds.getD i 0))], by kernel_rfl, ?_⟩
       refine GL.r 5 2 [(1, li 3), (5, .slice A13 (6 + 1) c14), (6, vu x), (7, vi (35 - j)), (8, .slice A40 ds.length c41), (10, vi i), (40, vu (ds.getD i 0)), (41, .slice A13 (6 + 1) c14), (42, vi i)] ?_
       refine GL.call (j := 6) (Digit_calls ((List.replicate 6 0) ++ [p]) i (6 + 1) A13 c14 w79 (H80.rdRow 0 rfl) (by omega)) (by kernel_rfl) rfl (fun e_ w82 hR => ?_)
       obtain ⟨rfl, H84⟩ := hR
       have H83 : Hp w [] [.row A13 (6 + 1) c14 31 1 (dg ((List.replicate 6 0) ++ [p])), .row (some ⟨p9, 0, none⟩) 1 1 31 1 (dg [p]), .row A40 ds.length c41 31 1 (dg ds)] w82 := H80.callNil H84
       refine ⟨_, rfl, [1, 5, 6, 7, 8, 10, 40, 43], [(1, li 3), (5, .slice A13 (6 + 1) c14), (6, vu x), (7, vi (35 - j)), (8, .slice A40 ds.length c41), (10, vi i), (40, vu (ds.getD i 0)), (43, vu (((List.replicate 6 0) ++ [p]).getD i 0))], by kernel_rfl, ?_⟩
       refine GL.r 8 2 [(1, li 3), (5, .slice A13 (6 + 1) c14), (6, vu x), (7, vi (35 - j)), (8, .slice A40 ds.length c41), (9, .bool (decide ((((((List.replicate 6 0) ++ [p]).getD i 0) : Nat) : Int) < (((ds.getD i 0) : Nat) : Int)))), (10, vi i)] ?_
       refine GL.q hK68 ?_
       refine G.region ?_
       refine GL.r 3 3 [(1, li 3), (5, .slice A13 (6 + 1) c14), (6, vu x), (7, vi (35 - j)), (8, .slice A40 ds.length c41), (9, .bool (decide ((((((List.replicate 6 0) ++ [p]).getD i 0) : Nat) : Int) < (((ds.getD i 0) : Nat) : Int)))), (10, li (IntKind.i64.wrap ((i : Int) + 1)))] ?_
       have e85 : (IntKind.i64.wrap ((i : Int) + 1)) = ((i + 1 : Nat) : Int) := by rw [in_i64 (by omega)]; omega
       rw [e85]
       clear e85
       refine GL.fit (ts := [1, 5, 6, 7, 8, 9, 10]) (M' := [(1, li 3), (5, .slice A13 (6 + 1) c14), (6, vu x), (7, vi (35 - j)), (8, .slice A40 ds.length c41), (9, .bool (decide ((((((List.replicate 6 0) ++ [p]).getD i 0) : Nat) : Int) < (((ds.getD i 0) : Nat) : Int)))), (10, vi (i + 1))]) (by kernel_rfl) ?_
       refine GL.eq (M' := [(1, li 3), (5, .slice A13 (6 + 1) c14), (6, vu x), (7, vi (35 - j)), (8, .slice A40 ds.length c41), (9, .bool (decide ((((((List.replicate 6 0) ++ [p]).getD i 0) : Nat) : Int) < (((ds.getD i 0) : Nat) : Int)))), (10, vi (i + 1))]) (by rfl) ?_
       exact GL.again ⟨(i + 1), (decide ((((((List.replicate 6 0) ++ [p]).getD i 0) : Nat) : Int) < (((ds.getD i 0) : Nat) : Int)))⟩ [1, 5, 6, 7, 8, 9, 10] rfl (by kernel_rfl) (by show 16 - (i + 1) < 16 - i; omega) ⟨⟨by omega, by rw [(cmp_step (i := i) hdok hWok).1 (by omega), decide_eq_decide]; omega⟩, H83⟩
theorem Primes_calls (w : World) : Calls Try.prog 58 #[.int .i64 64] w fun e w' => ∃ A c, e = .returned (.slice A 64 c) ∧ Hp w [] [.row A 64 c 31 1 (dg PR)] w' := by
 have hMX : MX = 4611686018427387904 := rfl
 have hK0 : K = 18446744073709551616 := rfl
 have hK40 : K4 = 115792089237316195423570985008687907853269984665640564039457584007913129639936 := rfl
 refine calls_G (args := [li 64]) Try.func58 rfl Try.ntmps58 rfl ?_
 intro Q0 hRet hNor hPan
 have H := Hp.start w
 refine G.sr fun K1 hK2 => ?_
 refine GL.r 1 1 [(0, li 64)] ?_
 refine GL.q hK2 ?_
 refine G.sr fun K3 hK4 => ?_
 obtain ⟨p5, w6, r7, H8⟩ := H.madeRow (P := Try.prog) (Instr.buildSlice 34 0 #[]) (fun b_ => .slice (some ⟨b_, 0, none⟩) 0 0) [] 31 0 0 1 (by kernel_rfl) (by decide) (by decide) rfl
 refine GL.s 1 (r7) [(0, li 64), (8, .slice (some ⟨p5, 0, none⟩) 0 0)] ?_
 refine GL.r 2 1 [(0, li 64), (3, .slice (some ⟨p5, 0, none⟩) 0 0)] ?_
 refine GL.q hK4 ?_
 refine G.seqK fun K9 hK10 => ?_
 refine G.sr fun K11 hK12 => ?_
 refine GL.r 1 1 [(0, li 64), (3, .slice (some ⟨p5, 0, none⟩) 0 0), (4, lu 2)] ?_
 refine GL.q hK12 ?_
 refine G.block ?_
 have H13 : Hp w [] [.row (some ⟨p5, 0, none⟩) ((prF 0).length) 0 31 1 (dg (prF 0))] w6 := H8
 refine G.fit [0, 3, 4] (M' := [(0, li 64), (3, .slice (some ⟨p5, 0, none⟩) ((prF 0).length) 0), (4, lu 2)]) (by kernel_rfl) ?_
 refine G.eq (M' := [(0, li 64), (3, .slice (some ⟨p5, 0, none⟩) ((prF 0).length) 0), (4, vu (0 + 2))]) (by rfl) ?_
 refine G.loop (X := Nat × Option Addr × Nat) (fun ⟨k, A_, c_⟩ => [(0, li 64), (3, .slice A_ ((prF k).length) c_), (4, vu (k + 2))]) (fun ⟨k, A_, c_⟩ w_ => (k ≤ 310) ∧ Hp w [] [.row A_ ((prF k).length) c_ 31 1 (dg (prF k))] w_) (fun ⟨k, A_, c_⟩ => 310 - k) ⟨0, (some ⟨p5, 0, none⟩), 0⟩ [0, 3, 4] (by kernel_rfl) ⟨by omega, H13⟩ ?_
 rintro ⟨k, A_, c_⟩ w14 ⟨hi15, H16⟩
 refine G.eq (M' := [(0, li 64), (3, .slice A_ ((prF k).length) c_), (4, vu (k + 2))]) rfl ?_
 have hk310 := hi15
 refine G.seqK fun K17 hK18 => ?_
 refine G.sr fun K19 hK20 => ?_
 refine GL.r 4 4 [(0, li 64), (3, .slice A_ ((prF k).length) c_), (4, vu (k + 2)), (12, .bool (decide ((((prF k).length : Nat) : Int) < 64)))] ?_
 refine GL.q hK20 ?_
 cases hb21 : (decide ((((prF k).length : Nat) : Int) < 64))
 · skip
   have hb21f := of_decide_eq_false hb21
   have hkE : k = 310 := prF_out hk310 (by omega)
   refine G.no rfl ?_
   refine G.exitK hK10 (fun _ _ h => h) ?_
   refine G.sr fun K22 hK23 => ?_
   refine GL.r 2 2 [(2, .slice A_ ((prF k).length) c_)] ?_
   refine GL.q hK23 ?_
   refine G.ret fun F_ hF_ hM_ => hRet _ _ (bodyPost_1 rfl (RV.tmp rfl) ?_ F_ hF_ hM_)
   have H24 := H16
   rw [hkE, prF_all] at H24
   refine ⟨A_, c_, ?_, H24⟩
   rw [hkE, prF_all]
   rfl
 · skip
   have hb21f := of_decide_eq_true hb21
   have hk9 : k < 310 := prF_in (by omega)
   refine G.yes rfl ?_
   refine G.skipK hK18 (fun _ _ h => h) ?_
   refine G.seqK fun K25 hK26 => ?_
   refine G.block ?_
   refine G.sr fun K27 hK28 => ?_
   refine GL.r 1 1 [(0, li 64), (3, .slice A_ ((prF k).length) c_), (4, vu (k + 2)), (5, .bool true)] ?_
   refine GL.q hK28 ?_
   refine G.seqK fun K29 hK30 => ?_
   refine G.sr fun K31 hK32 => ?_
   refine GL.r 3 3 [(0, li 64), (3, .slice A_ ((prF k).length) c_), (4, vu (k + 2)), (5, .bool true), (15, .slice A_ ((prF k).length) c_), (16, vi ((prF k).length)), (17, li 0)] ?_
   refine GL.q hK32 ?_
   refine G.block ?_
   refine G.fit [0, 3, 4, 5, 15, 16, 17] (M' := [(0, li 64), (3, .slice A_ ((prF k).length) c_), (4, vu (k + 2)), (5, .bool true), (15, .slice A_ ((prF k).length) c_), (16, vi ((prF k).length)), (17, li 0)]) (by kernel_rfl) ?_
   refine G.loop (X := Nat × Bool) (fun ⟨j, b⟩ => [(0, li 64), (3, .slice A_ ((prF k).length) c_), (4, vu (k + 2)), (5, .bool b), (15, .slice A_ ((prF k).length) c_), (16, vi ((prF k).length)), (17, vi j)]) (fun ⟨j, b⟩ w_ => (j ≤ (prF k).length ∧ b = ((prF k).take j).all (fun q => decide ((k + 2) % q ≠ 0))) ∧ Hp w [] [.row A_ ((prF k).length) c_ 31 1 (dg (prF k))] w_) (fun ⟨j, b⟩ => (prF k).length - j) ⟨0, true⟩ [0, 3, 4, 5, 15, 16, 17] (by kernel_rfl) ⟨⟨Nat.zero_le _, by rw [List.take_zero]; rfl⟩, H16⟩ ?_
   rintro ⟨j, b⟩ w33 ⟨hi34, H35⟩
   refine G.eq (M' := [(0, li 64), (3, .slice A_ ((prF k).length) c_), (4, vu (k + 2)), (5, .bool b), (15, .slice A_ ((prF k).length) c_), (16, vi ((prF k).length)), (17, vi j)]) rfl ?_
   obtain ⟨hjl, hbj⟩ := hi34
   refine G.sr fun K36 hK37 => ?_
   refine GL.r 1 1 [(0, li 64), (3, .slice A_ ((prF k).length) c_), (4, vu (k + 2)), (5, .bool b), (15, .slice A_ ((prF k).length) c_), (16, vi ((prF k).length)), (17, vi j), (18, .bool (decide ((j : Int) < (((prF k).length : Nat) : Int))))] ?_
   refine GL.q hK37 ?_
   refine G.seqK fun K38 hK39 => ?_
   cases hb40 : (decide ((j : Int) < (((prF k).length : Nat) : Int)))
   · skip
     have hb40f := of_decide_eq_false hb40
     have hbw : b = (prF k).all (fun q => decide ((k + 2) % q ≠ 0)) := by rw [hbj, List.take_of_length_le (by omega)]
     refine G.no rfl ?_
     refine G.exitK hK30 (fun _ _ h => h) ?_
     refine G.sr fun K41 hK42 => ?_
     refine GL.r 1 1 [(0, li 64), (3, .slice A_ ((prF k).length) c_), (4, vu (k + 2)), (29, .bool b)] ?_
     refine GL.q hK42 ?_
     rcases (Bool.eq_false_or_eq_true b).symm with hb43 | hb43
     · skip
       refine G.eq (M' := [(0, li 64), (3, .slice A_ ((prF k).length) c_), (4, vu (k + 2)), (29, .bool false)]) (by first | (rw [hb43]; done) | (rw [hb43]; rfl)) ?_
       refine G.no rfl ?_
       refine G.skipK hK26 (fun _ _ h => h) ?_
       refine G.region ?_
       refine GL.r 3 3 [(0, li 64), (3, .slice A_ ((prF k).length) c_), (4, lu (IntKind.u64.wrap ((((k + 2) : Nat) : Int) + 1)))] ?_
       have e44 : (IntKind.u64.wrap ((((k + 2) : Nat) : Int) + 1)) = ((k + 1 + 2 : Nat) : Int) := (n_add' (a := k + 2) (b := 1) (by omega))
       rw [e44]
       clear e44
       have hst : prF (k + 1) = prF k := by rw [prF, if_neg (by rw [← hbw]; rw [hb43]; decide)]
       have H45 : Hp w [] [.row A_ ((prF (k + 1)).length) c_ 31 1 (dg (prF (k + 1)))] w33 := by rw [hst]; exact H35
       refine GL.fit (ts := [0, 3, 4]) (M' := [(0, li 64), (3, .slice A_ ((prF k).length) c_), (4, vu (k + 1 + 2))]) (by kernel_rfl) ?_
       refine GL.eq (M' := [(0, li 64), (3, .slice A_ ((prF (k + 1)).length) c_), (4, vu ((k + 1) + 2))]) (by first | (rw [hst]; done) | (rw [hst]; rfl)) ?_
       exact GL.again ⟨(k + 1), A_, c_⟩ [0, 3, 4] rfl (by kernel_rfl) (by show 310 - (k + 1) < 310 - k; omega) ⟨by omega, H45⟩
     · skip
       refine G.eq (M' := [(0, li 64), (3, .slice A_ ((prF k).length) c_), (4, vu (k + 2)), (29, .bool true)]) (by first | (rw [hb43]; done) | (rw [hb43]; rfl)) ?_
       refine G.yes rfl ?_
       refine G.region ?_
       refine GL.r 2 2 [(0, li 64), (4, vu (k + 2)), (30, .slice A_ ((prF k).length) c_), (31, vu (k + 2))] ?_
       obtain ⟨p46, w47, r48, H49⟩ := H35.madeRow (P := Try.prog) (Instr.buildSlice 34 1 #[(0, vu (k + 2))]) (fun b_ => .slice (some ⟨b_, 0, none⟩) 1 1) [vu (k + 2)] 31 1 1 1 (by kernel_rfl) (by decide) (by decide) rfl
       refine GL.s 3 (r48) [(0, li 64), (4, vu (k + 2)), (30, .slice A_ ((prF k).length) c_), (32, .slice (some ⟨p46, 0, none⟩) 1 1)] ?_
       obtain ⟨A50, c51, w52, r53, H54⟩ := H49.append (P := Try.prog) (e := 31) (sz := 1) (by_ := 8) (n := (prF k).length) (c := c_) (m := 1) (d := 1) (t := 34) (ty := 34) (xs := dg (prF k)) (news := dg [(k + 2)]) 0 rfl (by kernel_rfl) (H49.rdRow 1 rfl) (by simp [dg_length]) (dg_one _) (by omega) (by simp only [maxLen]; omega)
       rw [← dg_append] at H54
       refine GL.s 4 (r53) [(0, li 64), (4, vu (k + 2)), (33, .slice A50 ((prF k).length + 1) c51)] ?_
       refine GL.r 5 1 [(0, li 64), (3, .slice A50 ((prF k).length + 1) c51), (4, vu (k + 2))] ?_
       refine GL.q hK26 ?_
       refine G.region ?_
       refine GL.r 3 3 [(0, li 64), (3, .slice A50 ((prF k).length + 1) c51), (4, lu (IntKind.u64.wrap ((((k + 2) : Nat) : Int) + 1)))] ?_
       have e55 : (IntKind.u64.wrap ((((k + 2) : Nat) : Int) + 1)) = ((k + 1 + 2 : Nat) : Int) := (n_add' (a := k + 2) (b := 1) (by omega))
       rw [e55]
       clear e55
       have H56 : Hp w [] [.row A50 ((prF k).length + 1) c51 31 1 (dg ((prF k) ++ [(k + 2)]))] w52 := H54.sub (List.Sublist.cons_cons _ (List.Sublist.cons _ (List.Sublist.slnil)))
       have hst : prF (k + 1) = prF k ++ [k + 2] := by rw [prF, if_pos (by rw [← hbw]; exact hb43)]
       have H57 : Hp w [] [.row A50 ((prF (k + 1)).length) c51 31 1 (dg (prF (k + 1)))] w52 := by rw [hst, List.length_append]; exact H56
       refine GL.fit (ts := [0, 3, 4]) (M' := [(0, li 64), (3, .slice A50 ((prF k).length + 1) c51), (4, vu (k + 1 + 2))]) (by kernel_rfl) ?_
       refine GL.eq (M' := [(0, li 64), (3, .slice A50 ((prF (k + 1)).length) c51), (4, vu ((k + 1) + 2))]) (by first | (rw [hst, List.length_append]; done) | (rw [hst, List.length_append]; rfl)) ?_
       exact GL.again ⟨(k + 1), A50, c51⟩ [0, 3, 4] rfl (by kernel_rfl) (by show 310 - (k + 1) < 310 - k; omega) ⟨by omega, H57⟩
   · skip
     have hb40f := of_decide_eq_true hb40
     refine G.yes rfl ?_
     refine G.skipK hK39 (fun _ _ h => h) ?_
     refine G.seqK fun K58 hK59 => ?_
     refine G.block ?_
     refine G.sr fun K60 hK61 => ?_
     refine GL.s 1 (run_idxRd (P := Try.prog) (k := .i64) (t := 34) (A := A_) (len := (prF k).length) (cap := c_) (j := j) (by kernel_rfl) rfl (H35.rdRow 0 rfl) (by first | exact dg_length _ | rw [dg_length]; first | rfl | assumption | (symm; assumption) | (simp; done) | (rw [List.length_take]; omega) | omega) (by first | rfl | omega | (simp only [List.length_cons, List.length_nil, List.length_drop, List.length_take, List.length_append] <;> omega))) [(0, li 64), (3, .slice A_ ((prF k).length) c_), (4, vu (k + 2)), (5, .bool b), (15, .slice A_ ((prF k).length) c_), (16, vi ((prF k).length)), (17, vi j), (19, .pointer (Option.map (fun x => Addr.add x j) A_))] ?_
     obtain ⟨d62, hd63⟩ : ∃ d : Nat, ((prF k))[j]? = some d := ⟨_, List.getElem?_eq_getElem (by omega)⟩
     have hge := prF_ge k _ (List.mem_of_getElem? hd63)
     refine GL.s 2 (run_ldRd (P := Try.prog) (ty := 31) (A := A_) (j := j) (v := vu d62) (by kernel_rfl) (H35.rdRow 0 rfl) (dg_at hd63)) [(0, li 64), (3, .slice A_ ((prF k).length) c_), (4, vu (k + 2)), (5, .bool b), (15, .slice A_ ((prF k).length) c_), (16, vi ((prF k).length)), (17, vi j), (20, vu d62)] ?_
     refine GL.r 3 1 [(0, li 64), (3, .slice A_ ((prF k).length) c_), (4, vu (k + 2)), (5, .bool b), (7, vu d62), (15, .slice A_ ((prF k).length) c_), (16, vi ((prF k).length)), (17, vi j)] ?_
     refine GL.q hK61 ?_
     refine G.region ?_
     refine GL.r 2 2 [(0, li 64), (3, .slice A_ ((prF k).length) c_), (4, vu (k + 2)), (7, vu d62), (15, .slice A_ ((prF k).length) c_), (16, vi ((prF k).length)), (17, vi j), (22, .bool b)] ?_
     rcases (Bool.eq_false_or_eq_true b).symm with hb64 | hb64
     · skip
       refine GL.eq (M' := [(0, li 64), (3, .slice A_ ((prF k).length) c_), (4, vu (k + 2)), (7, vu d62), (15, .slice A_ ((prF k).length) c_), (16, vi ((prF k).length)), (17, vi j), (22, .bool false)]) (by first | (rw [hb64]; done) | (rw [hb64]; rfl)) ?_
       refine GL.r 8 6 [(0, li 64), (3, .slice A_ ((prF k).length) c_), (4, vu (k + 2)), (5, .bool false), (15, .slice A_ ((prF k).length) c_), (16, vi ((prF k).length)), (17, vi j)] ?_
       refine GL.q hK59 ?_
       refine G.region ?_
       refine GL.r 2 2 [(0, li 64), (3, .slice A_ ((prF k).length) c_), (4, vu (k + 2)), (5, .bool false), (15, .slice A_ ((prF k).length) c_), (16, vi ((prF k).length)), (17, li (IntKind.i64.wrap ((j : Int) + 1)))] ?_
       have e65 : (IntKind.i64.wrap ((j : Int) + 1)) = ((j + 1 : Nat) : Int) := by rw [in_i64 (by omega)]; omega
       rw [e65]
       clear e65
       have hstep : false = ((prF k).take (j + 1)).all (fun q => decide ((k + 2) % q ≠ 0)) := by
         rw [all_take hd63, ← hbj, hb64]
         rfl
       refine GL.fit (ts := [0, 3, 4, 5, 15, 16, 17]) (M' := [(0, li 64), (3, .slice A_ ((prF k).length) c_), (4, vu (k + 2)), (5, .bool false), (15, .slice A_ ((prF k).length) c_), (16, vi ((prF k).length)), (17, vi (j + 1))]) (by kernel_rfl) ?_
       refine GL.eq (M' := [(0, li 64), (3, .slice A_ ((prF k).length) c_), (4, vu (k + 2)), (5, .bool false), (15, .slice A_ ((prF k).length) c_), (16, vi ((prF k).length)), (17, vi (j + 1))]) (by rfl) ?_
       exact GL.again ⟨(j + 1), false⟩ [0, 3, 4, 5, 15, 16, 17] rfl (by kernel_rfl) (by show (prF k).length - (j + 1) < (prF k).length - j; omega) ⟨⟨by omega, hstep⟩, H35⟩
     · skip
       refine GL.eq (M' := [(0, li 64), (3, .slice A_ ((prF k).length) c_), (4, vu (k + 2)), (7, vu d62), (15, .slice A_ ((prF k).length) c_), (16, vi ((prF k).length)), (17, vi j), (22, .bool true)]) (by first | (rw [hb64]; done) | (rw [hb64]; rfl)) ?_
       refine GL.r 4 2 [(0, li 64), (3, .slice A_ ((prF k).length) c_), (4, vu (k + 2)), (15, .slice A_ ((prF k).length) c_), (16, vi ((prF k).length)), (17, vi j), (22, .bool true), (23, vu (k + 2)), (24, vu d62)] ?_
       refine GL.s 5 (run_remN (P := Try.prog) (t := 31) (a := k + 2) (b := d62) (v := (k + 2) % d62) (by omega) rfl _) [(0, li 64), (3, .slice A_ ((prF k).length) c_), (4, vu (k + 2)), (15, .slice A_ ((prF k).length) c_), (16, vi ((prF k).length)), (17, vi j), (22, .bool true), (25, vu ((k + 2) % d62))] ?_
       refine GL.r 8 3 [(0, li 64), (3, .slice A_ ((prF k).length) c_), (4, vu (k + 2)), (5, .bool (((((k + 2) % d62) : Nat) : Int) != 0)), (15, .slice A_ ((prF k).length) c_), (16, vi ((prF k).length)), (17, vi j)] ?_
       refine GL.q hK59 ?_
       refine G.region ?_
       refine GL.r 2 2 [(0, li 64), (3, .slice A_ ((prF k).length) c_), (4, vu (k + 2)), (5, .bool (((((k + 2) % d62) : Nat) : Int) != 0)), (15, .slice A_ ((prF k).length) c_), (16, vi ((prF k).length)), (17, li (IntKind.i64.wrap ((j : Int) + 1)))] ?_
       have e66 : (IntKind.i64.wrap ((j : Int) + 1)) = ((j + 1 : Nat) : Int) := by rw [in_i64 (by omega)]; omega
       rw [e66]
       clear e66
       have hstep : (((((k + 2) % d62) : Nat) : Int) != 0) = ((prF k).take (j + 1)).all (fun q => decide ((k + 2) % q ≠ 0)) := by
         rw [all_take hd63, ← hbj, hb64]
         rw [Bool.true_and, Bool.eq_iff_iff, bne_iff_ne, decide_eq_true_iff]
         omega
       refine GL.fit (ts := [0, 3, 4, 5, 15, 16, 17]) (M' := [(0, li 64), (3, .slice A_ ((prF k).length) c_), (4, vu (k + 2)), (5, .bool (((((k + 2) % d62) : Nat) : Int) != 0)), (15, .slice A_ ((prF k).length) c_), (16, vi ((prF k).length)), (17, vi (j + 1))]) (by kernel_rfl) ?_
       refine GL.eq (M' := [(0, li 64), (3, .slice A_ ((prF k).length) c_), (4, vu (k + 2)), (5, .bool (((((k + 2) % d62) : Nat) : Int) != 0)), (15, .slice A_ ((prF k).length) c_), (16, vi ((prF k).length)), (17, vi (j + 1))]) (by rfl) ?_
       exact GL.again ⟨(j + 1), (((((k + 2) % d62) : Nat) : Int) != 0)⟩ [0, 3, 4, 5, 15, 16, 17] rfl (by kernel_rfl) (by show (prF k).length - (j + 1) < (prF k).length - j; omega) ⟨⟨by omega, hstep⟩, H35⟩
theorem TurnR2_calls (x : Nat) (hx : x < W32) (w : World) : Calls Try.prog 60 #[.int .u32 (x : Int), .int .i64 2] w fun e w' => e = .returned (.int .u32 ((rt x 2 : Nat) : Int)) ∧ Hp w [] [] w' := by
 refine calls_G (args := [vw x, li 2]) Try.func60 rfl Try.ntmps60 rfl ?_
 intro Q0 hRet hNor hPan
 have H := Hp.start w
 refine G.sr fun K1 hK2 => ?_
 refine GL.r 1 1 [(0, vw x), (1, li 2)] ?_
 refine GL.q hK2 ?_
 refine G.seqK fun K3 hK4 => ?_
 refine G.draw H (by kernel_rfl) (by kernel_rfl) ?_
 refine GQ.r 9 9 [(4, lw (Go.bits .or .u32 (Int.fdiv (x : Int) (2 ^ 2)) (IntKind.u32.wrap ((x : Int) * 2 ^ 30))))] ?_
 have e5 : (Int.fdiv (x : Int) (2 ^ 2)) = ((x / 2 ^ 2 : Nat) : Int) := n_shr x 2
 have e6 : (IntKind.u32.wrap ((x : Int) * 2 ^ 30)) = ((x * 2 ^ 30 % W32 : Nat) : Int) := w_shl x 30
 have e7 : (Go.bits .or .u32 ((x / 2 ^ 2 : Nat) : Int) ((x * 2 ^ 30 % W32 : Nat) : Int)) = ((rt x 2 : Nat) : Int) := (w_or (Nat.lt_of_le_of_lt (Nat.div_le_self _ _) hx) (Nat.mod_lt _ (by decide))).trans (by rw [Nat.or_comm]; rfl)
 refine GQ.eq (M' := [(4, vw (rt x 2))]) (by rw [e5, e6, e7]) ?_
 clear e5 e6 e7
 refine GQ.k rfl hK4 (fun _ _ h => h) (fun w8 H9 => ?_)
 refine G.ret fun F_ hF_ hM_ => hRet _ _ (bodyPost_1 rfl (RV.tmp rfl) ?_ F_ hF_ hM_)
 exact ⟨rfl, H9⟩
theorem TurnR6_calls (x : Nat) (hx : x < W32) (w : World) : Calls Try.prog 60 #[.int .u32 (x : Int), .int .i64 6] w fun e w' => e = .returned (.int .u32 ((rt x 6 : Nat) : Int)) ∧ Hp w [] [] w' := by
 refine calls_G (args := [vw x, li 6]) Try.func60 rfl Try.ntmps60 rfl ?_
 intro Q0 hRet hNor hPan
 have H := Hp.start w
 refine G.sr fun K1 hK2 => ?_
 refine GL.r 1 1 [(0, vw x), (1, li 6)] ?_
 refine GL.q hK2 ?_
 refine G.seqK fun K3 hK4 => ?_
 refine G.draw H (by kernel_rfl) (by kernel_rfl) ?_
 refine GQ.r 9 9 [(4, lw (Go.bits .or .u32 (Int.fdiv (x : Int) (2 ^ 6)) (IntKind.u32.wrap ((x : Int) * 2 ^ 26))))] ?_
 have e5 : (Int.fdiv (x : Int) (2 ^ 6)) = ((x / 2 ^ 6 : Nat) : Int) := n_shr x 6
 have e6 : (IntKind.u32.wrap ((x : Int) * 2 ^ 26)) = ((x * 2 ^ 26 % W32 : Nat) : Int) := w_shl x 26
 have e7 : (Go.bits .or .u32 ((x / 2 ^ 6 : Nat) : Int) ((x * 2 ^ 26 % W32 : Nat) : Int)) = ((rt x 6 : Nat) : Int) := (w_or (Nat.lt_of_le_of_lt (Nat.div_le_self _ _) hx) (Nat.mod_lt _ (by decide))).trans (by rw [Nat.or_comm]; rfl)
 refine GQ.eq (M' := [(4, vw (rt x 6))]) (by rw [e5, e6, e7]) ?_
 clear e5 e6 e7
 refine GQ.k rfl hK4 (fun _ _ h => h) (fun w8 H9 => ?_)
 refine G.ret fun F_ hF_ hM_ => hRet _ _ (bodyPost_1 rfl (RV.tmp rfl) ?_ F_ hF_ hM_)
 exact ⟨rfl, H9⟩
theorem TurnR7_calls (x : Nat) (hx : x < W32) (w : World) : Calls Try.prog 60 #[.int .u32 (x : Int), .int .i64 7] w fun e w' => e = .returned (.int .u32 ((rt x 7 : Nat) : Int)) ∧ Hp w [] [] w' := by
 refine calls_G (args := [vw x, li 7]) Try.func60 rfl Try.ntmps60 rfl ?_
 intro Q0 hRet hNor hPan
 have H := Hp.start w
 refine G.sr fun K1 hK2 => ?_
 refine GL.r 1 1 [(0, vw x), (1, li 7)] ?_
 refine GL.q hK2 ?_
 refine G.seqK fun K3 hK4 => ?_
 refine G.draw H (by kernel_rfl) (by kernel_rfl) ?_
 refine GQ.r 9 9 [(4, lw (Go.bits .or .u32 (Int.fdiv (x : Int) (2 ^ 7)) (IntKind.u32.wrap ((x : Int) * 2 ^ 25))))] ?_
 have e5 : (Int.fdiv (x : Int) (2 ^ 7)) = ((x / 2 ^ 7 : Nat) : Int) := n_shr x 7
 have e6 : (IntKind.u32.wrap ((x : Int) * 2 ^ 25)) = ((x * 2 ^ 25 % W32 : Nat) : Int) := w_shl x 25
 have e7 : (Go.bits .or .u32 ((x / 2 ^ 7 : Nat) : Int) ((x * 2 ^ 25 % W32 : Nat) : Int)) = ((rt x 7 : Nat) : Int) := (w_or (Nat.lt_of_le_of_lt (Nat.div_le_self _ _) hx) (Nat.mod_lt _ (by decide))).trans (by rw [Nat.or_comm]; rfl)
 refine GQ.eq (M' := [(4, vw (rt x 7))]) (by rw [e5, e6, e7]) ?_
 clear e5 e6 e7
 refine GQ.k rfl hK4 (fun _ _ h => h) (fun w8 H9 => ?_)
 refine G.ret fun F_ hF_ hM_ => hRet _ _ (bodyPost_1 rfl (RV.tmp rfl) ?_ F_ hF_ hM_)
 exact ⟨rfl, H9⟩
theorem TurnR11_calls (x : Nat) (hx : x < W32) (w : World) : Calls Try.prog 60 #[.int .u32 (x : Int), .int .i64 11] w fun e w' => e = .returned (.int .u32 ((rt x 11 : Nat) : Int)) ∧ Hp w [] [] w' := by
 refine calls_G (args := [vw x, li 11]) Try.func60 rfl Try.ntmps60 rfl ?_
 intro Q0 hRet hNor hPan
 have H := Hp.start w
 refine G.sr fun K1 hK2 => ?_
 refine GL.r 1 1 [(0, vw x), (1, li 11)] ?_
 refine GL.q hK2 ?_
 refine G.seqK fun K3 hK4 => ?_
 refine G.draw H (by kernel_rfl) (by kernel_rfl) ?_
 refine GQ.r 9 9 [(4, lw (Go.bits .or .u32 (Int.fdiv (x : Int) (2 ^ 11)) (IntKind.u32.wrap ((x : Int) * 2 ^ 21))))] ?_
 have e5 : (Int.fdiv (x : Int) (2 ^ 11)) = ((x / 2 ^ 11 : Nat) : Int) := n_shr x 11
 have e6 : (IntKind.u32.wrap ((x : Int) * 2 ^ 21)) = ((x * 2 ^ 21 % W32 : Nat) : Int) := w_shl x 21
 have e7 : (Go.bits .or .u32 ((x / 2 ^ 11 : Nat) : Int) ((x * 2 ^ 21 % W32 : Nat) : Int)) = ((rt x 11 : Nat) : Int) := (w_or (Nat.lt_of_le_of_lt (Nat.div_le_self _ _) hx) (Nat.mod_lt _ (by decide))).trans (by rw [Nat.or_comm]; rfl)
 refine GQ.eq (M' := [(4, vw (rt x 11))]) (by rw [e5, e6, e7]) ?_
 clear e5 e6 e7
 refine GQ.k rfl hK4 (fun _ _ h => h) (fun w8 H9 => ?_)
 refine G.ret fun F_ hF_ hM_ => hRet _ _ (bodyPost_1 rfl (RV.tmp rfl) ?_ F_ hF_ hM_)
 exact ⟨rfl, H9⟩
theorem TurnR13_calls (x : Nat) (hx : x < W32) (w : World) : Calls Try.prog 60 #[.int .u32 (x : Int), .int .i64 13] w fun e w' => e = .returned (.int .u32 ((rt x 13 : Nat) : Int)) ∧ Hp w [] [] w' := by
 refine calls_G (args := [vw x, li 13]) Try.func60 rfl Try.ntmps60 rfl ?_
 intro Q0 hRet hNor hPan
 have H := Hp.start w
 refine G.sr fun K1 hK2 => ?_
 refine GL.r 1 1 [(0, vw x), (1, li 13)] ?_
 refine GL.q hK2 ?_
 refine G.seqK fun K3 hK4 => ?_
 refine G.draw H (by kernel_rfl) (by kernel_rfl) ?_
 refine GQ.r 9 9 [(4, lw (Go.bits .or .u32 (Int.fdiv (x : Int) (2 ^ 13)) (IntKind.u32.wrap ((x : Int) * 2 ^ 19))))] ?_
 have e5 : (Int.fdiv (x : Int) (2 ^ 13)) = ((x / 2 ^ 13 : Nat) : Int) := n_shr x 13
 have e6 : (IntKind.u32.wrap ((x : Int) * 2 ^ 19)) = ((x * 2 ^ 19 % W32 : Nat) : Int) := w_shl x 19
 have e7 : (Go.bits .or .u32 ((x / 2 ^ 13 : Nat) : Int) ((x * 2 ^ 19 % W32 : Nat) : Int)) = ((rt x 13 : Nat) : Int) := (w_or (Nat.lt_of_le_of_lt (Nat.div_le_self _ _) hx) (Nat.mod_lt _ (by decide))).trans (by rw [Nat.or_comm]; rfl)
 refine GQ.eq (M' := [(4, vw (rt x 13))]) (by rw [e5, e6, e7]) ?_
 clear e5 e6 e7
 refine GQ.k rfl hK4 (fun _ _ h => h) (fun w8 H9 => ?_)
 refine G.ret fun F_ hF_ hM_ => hRet _ _ (bodyPost_1 rfl (RV.tmp rfl) ?_ F_ hF_ hM_)
 exact ⟨rfl, H9⟩
theorem TurnR17_calls (x : Nat) (hx : x < W32) (w : World) : Calls Try.prog 60 #[.int .u32 (x : Int), .int .i64 17] w fun e w' => e = .returned (.int .u32 ((rt x 17 : Nat) : Int)) ∧ Hp w [] [] w' := by
 refine calls_G (args := [vw x, li 17]) Try.func60 rfl Try.ntmps60 rfl ?_
 intro Q0 hRet hNor hPan
 have H := Hp.start w
 refine G.sr fun K1 hK2 => ?_
 refine GL.r 1 1 [(0, vw x), (1, li 17)] ?_
 refine GL.q hK2 ?_
 refine G.seqK fun K3 hK4 => ?_
 refine G.draw H (by kernel_rfl) (by kernel_rfl) ?_
 refine GQ.r 9 9 [(4, lw (Go.bits .or .u32 (Int.fdiv (x : Int) (2 ^ 17)) (IntKind.u32.wrap ((x : Int) * 2 ^ 15))))] ?_
 have e5 : (Int.fdiv (x : Int) (2 ^ 17)) = ((x / 2 ^ 17 : Nat) : Int) := n_shr x 17
 have e6 : (IntKind.u32.wrap ((x : Int) * 2 ^ 15)) = ((x * 2 ^ 15 % W32 : Nat) : Int) := w_shl x 15
 have e7 : (Go.bits .or .u32 ((x / 2 ^ 17 : Nat) : Int) ((x * 2 ^ 15 % W32 : Nat) : Int)) = ((rt x 17 : Nat) : Int) := (w_or (Nat.lt_of_le_of_lt (Nat.div_le_self _ _) hx) (Nat.mod_lt _ (by decide))).trans (by rw [Nat.or_comm]; rfl)
 refine GQ.eq (M' := [(4, vw (rt x 17))]) (by rw [e5, e6, e7]) ?_
 clear e5 e6 e7
 refine GQ.k rfl hK4 (fun _ _ h => h) (fun w8 H9 => ?_)
 refine G.ret fun F_ hF_ hM_ => hRet _ _ (bodyPost_1 rfl (RV.tmp rfl) ?_ F_ hF_ hM_)
 exact ⟨rfl, H9⟩
theorem TurnR18_calls (x : Nat) (hx : x < W32) (w : World) : Calls Try.prog 60 #[.int .u32 (x : Int), .int .i64 18] w fun e w' => e = .returned (.int .u32 ((rt x 18 : Nat) : Int)) ∧ Hp w [] [] w' := by
 refine calls_G (args := [vw x, li 18]) Try.func60 rfl Try.ntmps60 rfl ?_
 intro Q0 hRet hNor hPan
 have H := Hp.start w
 refine G.sr fun K1 hK2 => ?_
 refine GL.r 1 1 [(0, vw x), (1, li 18)] ?_
 refine GL.q hK2 ?_
 refine G.seqK fun K3 hK4 => ?_
 refine G.draw H (by kernel_rfl) (by kernel_rfl) ?_
 refine GQ.r 9 9 [(4, lw (Go.bits .or .u32 (Int.fdiv (x : Int) (2 ^ 18)) (IntKind.u32.wrap ((x : Int) * 2 ^ 14))))] ?_
 have e5 : (Int.fdiv (x : Int) (2 ^ 18)) = ((x / 2 ^ 18 : Nat) : Int) := n_shr x 18
 have e6 : (IntKind.u32.wrap ((x : Int) * 2 ^ 14)) = ((x * 2 ^ 14 % W32 : Nat) : Int) := w_shl x 14
 have e7 : (Go.bits .or .u32 ((x / 2 ^ 18 : Nat) : Int) ((x * 2 ^ 14 % W32 : Nat) : Int)) = ((rt x 18 : Nat) : Int) := (w_or (Nat.lt_of_le_of_lt (Nat.div_le_self _ _) hx) (Nat.mod_lt _ (by decide))).trans (by rw [Nat.or_comm]; rfl)
 refine GQ.eq (M' := [(4, vw (rt x 18))]) (by rw [e5, e6, e7]) ?_
 clear e5 e6 e7
 refine GQ.k rfl hK4 (fun _ _ h => h) (fun w8 H9 => ?_)
 refine G.ret fun F_ hF_ hM_ => hRet _ _ (bodyPost_1 rfl (RV.tmp rfl) ?_ F_ hF_ hM_)
 exact ⟨rfl, H9⟩
theorem TurnR19_calls (x : Nat) (hx : x < W32) (w : World) : Calls Try.prog 60 #[.int .u32 (x : Int), .int .i64 19] w fun e w' => e = .returned (.int .u32 ((rt x 19 : Nat) : Int)) ∧ Hp w [] [] w' := by
 refine calls_G (args := [vw x, li 19]) Try.func60 rfl Try.ntmps60 rfl ?_
 intro Q0 hRet hNor hPan
 have H := Hp.start w
 refine G.sr fun K1 hK2 => ?_
 refine GL.r 1 1 [(0, vw x), (1, li 19)] ?_
 refine GL.q hK2 ?_
 refine G.seqK fun K3 hK4 => ?_
 refine G.draw H (by kernel_rfl) (by kernel_rfl) ?_
 refine GQ.r 9 9 [(4, lw (Go.bits .or .u32 (Int.fdiv (x : Int) (2 ^ 19)) (IntKind.u32.wrap ((x : Int) * 2 ^ 13))))] ?_
 have e5 : (Int.fdiv (x : Int) (2 ^ 19)) = ((x / 2 ^ 19 : Nat) : Int) := n_shr x 19
 have e6 : (IntKind.u32.wrap ((x : Int) * 2 ^ 13)) = ((x * 2 ^ 13 % W32 : Nat) : Int) := w_shl x 13
 have e7 : (Go.bits .or .u32 ((x / 2 ^ 19 : Nat) : Int) ((x * 2 ^ 13 % W32 : Nat) : Int)) = ((rt x 19 : Nat) : Int) := (w_or (Nat.lt_of_le_of_lt (Nat.div_le_self _ _) hx) (Nat.mod_lt _ (by decide))).trans (by rw [Nat.or_comm]; rfl)
 refine GQ.eq (M' := [(4, vw (rt x 19))]) (by rw [e5, e6, e7]) ?_
 clear e5 e6 e7
 refine GQ.k rfl hK4 (fun _ _ h => h) (fun w8 H9 => ?_)
 refine G.ret fun F_ hF_ hM_ => hRet _ _ (bodyPost_1 rfl (RV.tmp rfl) ?_ F_ hF_ hM_)
 exact ⟨rfl, H9⟩
theorem TurnR22_calls (x : Nat) (hx : x < W32) (w : World) : Calls Try.prog 60 #[.int .u32 (x : Int), .int .i64 22] w fun e w' => e = .returned (.int .u32 ((rt x 22 : Nat) : Int)) ∧ Hp w [] [] w' := by
 refine calls_G (args := [vw x, li 22]) Try.func60 rfl Try.ntmps60 rfl ?_
 intro Q0 hRet hNor hPan
 have H := Hp.start w
 refine G.sr fun K1 hK2 => ?_
 refine GL.r 1 1 [(0, vw x), (1, li 22)] ?_
 refine GL.q hK2 ?_
 refine G.seqK fun K3 hK4 => ?_
 refine G.draw H (by kernel_rfl) (by kernel_rfl) ?_
 refine GQ.r 9 9 [(4, lw (Go.bits .or .u32 (Int.fdiv (x : Int) (2 ^ 22)) (IntKind.u32.wrap ((x : Int) * 2 ^ 10))))] ?_
 have e5 : (Int.fdiv (x : Int) (2 ^ 22)) = ((x / 2 ^ 22 : Nat) : Int) := n_shr x 22
 have e6 : (IntKind.u32.wrap ((x : Int) * 2 ^ 10)) = ((x * 2 ^ 10 % W32 : Nat) : Int) := w_shl x 10
 have e7 : (Go.bits .or .u32 ((x / 2 ^ 22 : Nat) : Int) ((x * 2 ^ 10 % W32 : Nat) : Int)) = ((rt x 22 : Nat) : Int) := (w_or (Nat.lt_of_le_of_lt (Nat.div_le_self _ _) hx) (Nat.mod_lt _ (by decide))).trans (by rw [Nat.or_comm]; rfl)
 refine GQ.eq (M' := [(4, vw (rt x 22))]) (by rw [e5, e6, e7]) ?_
 clear e5 e6 e7
 refine GQ.k rfl hK4 (fun _ _ h => h) (fun w8 H9 => ?_)
 refine G.ret fun F_ hF_ hM_ => hRet _ _ (bodyPost_1 rfl (RV.tmp rfl) ?_ F_ hF_ hM_)
 exact ⟨rfl, H9⟩
theorem TurnR25_calls (x : Nat) (hx : x < W32) (w : World) : Calls Try.prog 60 #[.int .u32 (x : Int), .int .i64 25] w fun e w' => e = .returned (.int .u32 ((rt x 25 : Nat) : Int)) ∧ Hp w [] [] w' := by
 refine calls_G (args := [vw x, li 25]) Try.func60 rfl Try.ntmps60 rfl ?_
 intro Q0 hRet hNor hPan
 have H := Hp.start w
 refine G.sr fun K1 hK2 => ?_
 refine GL.r 1 1 [(0, vw x), (1, li 25)] ?_
 refine GL.q hK2 ?_
 refine G.seqK fun K3 hK4 => ?_
 refine G.draw H (by kernel_rfl) (by kernel_rfl) ?_
 refine GQ.r 9 9 [(4, lw (Go.bits .or .u32 (Int.fdiv (x : Int) (2 ^ 25)) (IntKind.u32.wrap ((x : Int) * 2 ^ 7))))] ?_
 have e5 : (Int.fdiv (x : Int) (2 ^ 25)) = ((x / 2 ^ 25 : Nat) : Int) := n_shr x 25
 have e6 : (IntKind.u32.wrap ((x : Int) * 2 ^ 7)) = ((x * 2 ^ 7 % W32 : Nat) : Int) := w_shl x 7
 have e7 : (Go.bits .or .u32 ((x / 2 ^ 25 : Nat) : Int) ((x * 2 ^ 7 % W32 : Nat) : Int)) = ((rt x 25 : Nat) : Int) := (w_or (Nat.lt_of_le_of_lt (Nat.div_le_self _ _) hx) (Nat.mod_lt _ (by decide))).trans (by rw [Nat.or_comm]; rfl)
 refine GQ.eq (M' := [(4, vw (rt x 25))]) (by rw [e5, e6, e7]) ?_
 clear e5 e6 e7
 refine GQ.k rfl hK4 (fun _ _ h => h) (fun w8 H9 => ?_)
 refine G.ret fun F_ hF_ hM_ => hRet _ _ (bodyPost_1 rfl (RV.tmp rfl) ?_ F_ hF_ hM_)
 exact ⟨rfl, H9⟩
end Go.Proofs.Ytdepaaphgfapjaa
