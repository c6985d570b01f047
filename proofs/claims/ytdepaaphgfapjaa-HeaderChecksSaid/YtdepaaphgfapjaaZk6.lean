/- HeaderChecks: the row. -/
import Derived.Test.YtdepaaphgfapjaaZk5
set_option linter.unusedVariables false
namespace Go.Proofs.Ytdepaaphgfapjaa
open Go.RowKit
theorem RefDouble_calls (A : Option Addr) (n c : Nat) (b : List UInt8) (w : World) (hx : RdS w A (by8 b)) (hn : n = b.length) (hb : b.length ≤ 1000000) : Calls Try.prog 19 #[.slice A n c] w fun e w' => e = .returned (.agg (by8 (sha (sha b))).toArray) ∧ Hp w [] [] w' := by
 subst hn
 refine calls_G (args := [.slice A b.length c]) Try.func19 rfl Try.ntmps19 rfl ?_
 intro Q0 hRet hNor hPan
 have H := Hp.start w
 refine G.sr fun K1 hK2 => ?_
 obtain ⟨p3, w4, r5, H6⟩ := H.alloc (P := Try.prog) 23 (by8 (bsP (fun _ => 0) 32 0)) (by kernel_rfl)
 refine GL.s 1 (r5) [(0, .slice A b.length c), (2, pt p3 0)] ?_
 refine GL.q hK2 ?_
 refine G.sr fun K7 hK8 => ?_
 refine GL.r 1 1 [(2, pt p3 0), (4, .slice A b.length c)] ?_
 refine GL.call (j := 2) (RefSum_calls A b.length c b w4 (hx.hp H6) (rfl) (by omega)) (by kernel_rfl) rfl (fun e_ w9 hR => ?_)
 obtain ⟨rfl, H11⟩ := hR
 have H10 : Hp w [] [.blk p3 (by8 (bsP (fun _ => 0) 32 0)) 23] w9 := H6.callNil H11
 refine ⟨_, rfl, [2, 5], [(2, pt p3 0), (5, .agg (by8 (sha b)).toArray)], by kernel_rfl, ?_⟩
 obtain ⟨p12, w13, r14, H15⟩ := H10.alloc (P := Try.prog) 23 (by8 (bsP (fun _ => 0) 32 0)) (by kernel_rfl)
 refine GL.s 3 (r14) [(2, pt p3 0), (3, pt p12 0), (5, .agg (by8 (sha b)).toArray)] ?_
 obtain ⟨w16, r17, H18⟩ := H15.stA (P := Try.prog) (o := 0) (vs := by8 (sha b)) (ty := 23) (m := 32) 1 rfl (by kernel_rfl) (by rw [by8_length, sha_length]) (Nat.le_of_eq (by rw [Nat.zero_add]; exact ((show (by8 (bsP (fun _ => 0) 32 0)).length = 32 from by rw [by8_length, bsP_length (by omega)])).symm)) (by8_one _)
 rw [st_whole (by rw [by8_length, bsP_length (by omega)])] at H18
 refine GL.u 4 r17 [(2, pt p3 0), (3, pt p12 0)] ?_
 refine GL.q hK8 ?_
 refine G.sr fun K19 hK20 => ?_
 refine GL.r 1 1 [(2, pt p3 0), (6, .slice (some ⟨p12, 0, none⟩) 32 32)] ?_
 refine GL.call (j := 2) (RefSum_calls (some ⟨p12, 0, none⟩) 32 32 (sha b) w16 (H18.rdBlk (o := 0) (xs := by8 (sha b)) 1 32 rfl (sub_whole (by rw [by8_length, sha_length]))) ((sha_length _).symm) (by rw [sha_length]; decide)) (by kernel_rfl) rfl (fun e_ w21 hR => ?_)
 obtain ⟨rfl, H23⟩ := hR
 have H22 : Hp w [] [.blk p3 (by8 (bsP (fun _ => 0) 32 0)) 23, .blk p12 (by8 (sha b)) 23] w21 := H18.callNil H23
 refine ⟨_, rfl, [2, 7], [(2, pt p3 0), (7, .agg (by8 (sha (sha b))).toArray)], by kernel_rfl, ?_⟩
 obtain ⟨w24, r25, H26⟩ := H22.stA (P := Try.prog) (o := 0) (vs := by8 (sha (sha b))) (ty := 23) (m := 32) 0 rfl (by kernel_rfl) (by rw [by8_length, sha_length]) (Nat.le_of_eq (by rw [Nat.zero_add]; exact ((show (by8 (bsP (fun _ => 0) 32 0)).length = 32 from by rw [by8_length, bsP_length (by omega)])).symm)) (by8_one _)
 rw [st_whole (by rw [by8_length, bsP_length (by omega)])] at H26
 refine GL.u 3 r25 [(2, pt p3 0)] ?_
 refine GL.q hK20 ?_
 refine G.ret fun F_ hF_ hM_ => hRet _ _ (bodyPost_1 rfl (RV.cell rfl (H26.ldA (o := 0) (ty := 23) (m := 32) (sub := by8 (sha (sha b))) 0 rfl (by kernel_rfl) (sub_whole (by rw [by8_length, sha_length])) (by rw [by8_length, sha_length]))) ?_ F_ hF_ hM_)
 exact ⟨rfl, H26.sub (List.nil_sublist _)⟩
end Go.Proofs.Ytdepaaphgfapjaa
namespace Go.Proofs.Ytdepaaphgfapjaa
open Go.RowKit
def hsh (ys : List UInt8) : List UInt8 := if ys.length = 32 then ys else List.replicate 32 0
end Go.Proofs.Ytdepaaphgfapjaa
set_option maxRecDepth 100000
namespace Go.Proofs.Ytdepaaphgfapjaa
open Go.RowKit
theorem RGet_calls (bs : List UInt8) (A : Option Addr) (n c : Nat) (w : World) (hx : RdS w A (by8 bs)) (hn : n = bs.length) (hb : n ≤ 8) : Calls Try.prog 30 #[.slice A n c] w fun e w' => e = .returned (.int .u64 ((getB bs : Nat) : Int)) ∧ Hp w [] [] w' := by
 have hMX : MX = 4611686018427387904 := rfl
 have hK0 : K = 18446744073709551616 := rfl
 have hK40 : K4 = 115792089237316195423570985008687907853269984665640564039457584007913129639936 := rfl
 refine calls_G (args := [.slice A n c]) Try.func30 rfl Try.ntmps30 rfl ?_
 intro Q0 hRet hNor hPan
 have H := Hp.start w
 refine G.sr fun K1 hK2 => ?_
 refine GL.r 1 1 [(0, .slice A n c)] ?_
 refine GL.q hK2 ?_
 refine G.sr fun K3 hK4 => ?_
 refine GL.r 1 1 [(0, .slice A n c), (3, lu 0)] ?_
 refine GL.q hK4 ?_
 refine G.seqK fun K5 hK6 => ?_
 refine G.sr fun K7 hK8 => ?_
 refine GL.r 4 4 [(0, .slice A n c), (3, lu 0), (4, li (IntKind.i64.wrap ((n : Int) - 1)))] ?_
 have e9 : (IntKind.i64.wrap ((n : Int) - 1)) = (((n : Nat) : Int) - 1) := in_i64 (by omega)
 rw [e9]
 clear e9
 refine GL.q hK8 ?_
 refine G.block ?_
 refine G.fit [0, 3, 4] (M' := [(0, .slice A n c), (3, lu 0), (4, li (((n : Nat) : Int) - 1))]) (by kernel_rfl) ?_
 refine G.loop (X := Nat × Nat) (fun ⟨m, s⟩ => [(0, .slice A n c), (3, vu s), (4, li (((m : Nat) : Int) - 1))]) (fun ⟨m, s⟩ w_ => (m ≤ n ∧ s = getB (bs.drop m)) ∧ Hp w [] [] w_) (fun ⟨m, s⟩ => m) ⟨n, 0⟩ [0, 3, 4] (by kernel_rfl) ⟨⟨Nat.le_refl _, by rw [hn, List.drop_length]; rfl⟩, H⟩ ?_
 rintro ⟨m, s⟩ w10 ⟨hi11, H12⟩
 refine G.eq (M' := [(0, .slice A n c), (3, vu s), (4, li (((m : Nat) : Int) - 1))]) rfl ?_
 obtain ⟨hmn, hs1⟩ := hi11
 refine G.seqK fun K13 hK14 => ?_
 refine G.sr fun K15 hK16 => ?_
 refine GL.r 2 2 [(0, .slice A n c), (3, vu s), (4, li (((m : Nat) : Int) - 1)), (9, .bool (decide (0 ≤ (((m : Nat) : Int) - 1))))] ?_
 refine GL.q hK16 ?_
 cases hb17 : (decide (0 ≤ (((m : Nat) : Int) - 1)))
 · skip
   have hb17f := of_decide_eq_false hb17
   have hm0 : m = 0 := by omega
   refine G.no rfl ?_
   refine G.exitK hK6 (fun _ _ h => h) ?_
   refine G.sr fun K18 hK19 => ?_
   refine GL.r 2 2 [(2, vu s)] ?_
   refine GL.q hK19 ?_
   refine G.ret fun F_ hF_ hM_ => hRet _ _ (bodyPost_1 rfl (RV.tmp rfl) ?_ F_ hF_ hM_)
   rw [hm0, List.drop_zero] at hs1
   rw [← hs1]
   exact ⟨rfl, H12.sub (List.nil_sublist _)⟩
 · skip
   have hb17f := of_decide_eq_true hb17
   have hm0 : 0 < m := by omega
   have ei : (((m : Nat) : Int) - 1) = ((m - 1 : Nat) : Int) := by omega
   have hat0 := getD8 (bs := bs) (k := m - 1) (by omega)
   have hs56 : s < 72057594037927936 := by rw [hs1]; exact Nat.lt_of_lt_of_le (getB_lt _) (Nat.le_trans (Nat.pow_le_pow_right (by decide) (show (bs.drop m).length ≤ 7 by rw [List.length_drop]; omega)) (by decide))
   have hxb := UInt8.toNat_lt (bs.getD (m - 1) 0)
   refine G.eq (M' := [(0, .slice A n c), (3, vu s), (4, vi (m - 1)), (9, .bool true)]) (by rw [ei]) ?_
   refine G.yes rfl ?_
   refine G.skipK hK14 (fun _ _ h => h) ?_
   refine G.seqK fun K20 hK21 => ?_
   refine G.block ?_
   refine G.region ?_
   refine GL.r 4 4 [(0, .slice A n c), (4, vi (m - 1)), (13, lu (IntKind.u64.wrap ((s : Int) * 256))), (14, .slice A n c), (15, vi (m - 1))] ?_
   have e22 : (IntKind.u64.wrap ((s : Int) * 256)) = ((s * 256 : Nat) : Int) := n_mul' (a := s) (b := 256) (by omega)
   rw [e22]
   clear e22
   refine GL.s 5 (run_idxRd (P := Try.prog) (k := .i64) (t := 28) (A := A) (len := n) (cap := c) (j := m - 1) (by kernel_rfl) rfl (hx.hp H12) (by rw [by8_length]; omega) (by omega)) [(0, .slice A n c), (4, vi (m - 1)), (13, vu (s * 256)), (16, .pointer (Option.map (fun x => Addr.add x (m - 1)) A))] ?_
   refine GL.s 6 (run_ldRd (P := Try.prog) (ty := 5) (A := A) (j := m - 1) (v := .int .u8 ((bs.getD (m - 1) 0).toNat : Int)) (by kernel_rfl) (hx.hp H12) (by8_at (getD8 (by omega)))) [(0, .slice A n c), (4, vi (m - 1)), (13, vu (s * 256)), (17, lb ((bs.getD (m - 1) 0).toNat : Int))] ?_
   refine GL.r 9 3 [(0, .slice A n c), (3, lu (IntKind.u64.wrap (((s * 256 : Nat) : Int) + (IntKind.u64.wrap ((bs.getD (m - 1) 0).toNat : Int))))), (4, vi (m - 1))] ?_
   have e23 : (IntKind.u64.wrap ((bs.getD (m - 1) 0).toNat : Int)) = ((bs.getD (m - 1) 0).toNat : Int) := u8_up_u64 _
   have e24 : (IntKind.u64.wrap (((s * 256 : Nat) : Int) + ((bs.getD (m - 1) 0).toNat : Int))) = ((s * 256 + (bs.getD (m - 1) 0).toNat : Nat) : Int) := n_add' (a := s * 256) (b := (bs.getD (m - 1) 0).toNat) (by omega)
   rw [e23, e24]
   clear e23 e24
   refine GL.q hK21 ?_
   refine G.region ?_
   refine GL.r 3 3 [(0, .slice A n c), (3, lu ((s * 256 + (bs.getD (m - 1) 0).toNat : Nat) : Int)), (4, li (IntKind.i64.wrap (((m - 1 : Nat) : Int) - 1)))] ?_
   have e25 : (IntKind.i64.wrap (((m - 1 : Nat) : Int) - 1)) = (((m - 1 : Nat) : Int) - 1) := in_i64 (by omega)
   rw [e25]
   clear e25
   refine GL.fit (ts := [0, 3, 4]) (M' := [(0, .slice A n c), (3, lu ((s * 256 + (bs.getD (m - 1) 0).toNat : Nat) : Int)), (4, li (((m - 1 : Nat) : Int) - 1))]) (by kernel_rfl) ?_
   refine GL.eq (M' := [(0, .slice A n c), (3, lu ((s * 256 + (bs.getD (m - 1) 0).toNat : Nat) : Int)), (4, li ((((m - 1) : Nat) : Int) - 1))]) (by rfl) ?_
   exact GL.again ⟨(m - 1), s * 256 + (bs.getD (m - 1) 0).toNat⟩ [0, 3, 4] rfl (by kernel_rfl) (by show (m - 1) < m; omega) ⟨⟨by omega, by rw [getB_drop hat0, show m - 1 + 1 = m by omega, ← hs1]; omega⟩, H12⟩
theorem Number7_calls (X : List UInt8) (hX : X.length = 32) (w : World) : Calls Try.prog 31 #[.agg (by8 X).toArray] w fun e w' => ∃ A c, e = .returned ((.slice A (ndg (hnum X)) c)) ∧ Hp w [] [.row A (ndg (hnum X)) c 31 1 (dg (digs (hnum X)))] w' := by
 have hMX : MX = 4611686018427387904 := rfl
 have hK0 : K = 18446744073709551616 := rfl
 have hK40 : K4 = 115792089237316195423570985008687907853269984665640564039457584007913129639936 := rfl
 refine calls_G (args := [.agg (by8 X).toArray]) Try.func31 rfl Try.ntmps31 rfl ?_
 intro Q0 hRet hNor hPan
 have H := Hp.start w
 refine G.sr fun K1 hK2 => ?_
 obtain ⟨p3, w4, r5, H6⟩ := H.box (P := Try.prog) 23 (by8 X) (.agg (by8 X).toArray) rfl
 refine GL.s 1 (r5) [(1, pt p3 0)] ?_
 refine GL.r 2 1 [(1, pt p3 0)] ?_
 refine GL.q hK2 ?_
 refine G.sr fun K7 hK8 => ?_
 obtain ⟨p9, w10, r11, H12⟩ := H6.madeRow (P := Try.prog) (Instr.buildSlice 35 0 #[]) (fun b_ => .slice (some ⟨b_, 0, none⟩) 0 0) [] 31 0 0 1 (by kernel_rfl) (by decide) (by decide) rfl
 refine GL.s 1 (r11) [(1, pt p3 0), (5, .slice (some ⟨p9, 0, none⟩) 0 0)] ?_
 refine GL.r 2 1 [(1, pt p3 0), (3, .slice (some ⟨p9, 0, none⟩) 0 0)] ?_
 refine GL.q hK8 ?_
 refine G.seqK fun K13 hK14 => ?_
 refine G.sr fun K15 hK16 => ?_
 refine GL.r 1 1 [(1, pt p3 0), (3, .slice (some ⟨p9, 0, none⟩) 0 0), (4, li 31)] ?_
 refine GL.q hK16 ?_
 refine G.block ?_
 refine G.fit [1, 3, 4] (M' := [(1, pt p3 0), (3, .slice (some ⟨p9, 0, none⟩) 0 0), (4, li 31)]) (by kernel_rfl) ?_
 refine G.eq (M' := [(1, pt p3 0), (3, .slice (some ⟨p9, 0, none⟩) (ndg 0) 0), (4, li (((32 : Nat) : Int) - 1))]) (by rfl) ?_
 refine G.loop (X := Nat × Nat × Option Addr × Nat) (fun ⟨m, V, Z, z⟩ => [(1, pt p3 0), (3, .slice Z (ndg V) z), (4, li (((m : Nat) : Int) - 1))]) (fun ⟨m, V, Z, z⟩ w_ => (m ≤ 32 ∧ V * 256 ^ m + bsum (hx8 X) m = bsum (hx8 X) 32) ∧ Hp w [] [.blk p3 (by8 X) 23, .row Z (ndg V) z 31 1 (dg (digs V))] w_) (fun ⟨m, V, Z, z⟩ => m) ⟨32, 0, (some ⟨p9, 0, none⟩), 0⟩ [1, 3, 4] (by kernel_rfl) ⟨⟨Nat.le_refl _, by rw [Nat.zero_mul, Nat.zero_add]⟩, H12⟩ ?_
 rintro ⟨m, V, Z, z⟩ w17 ⟨hi18, H19⟩
 refine G.eq (M' := [(1, pt p3 0), (3, .slice Z (ndg V) z), (4, li (((m : Nat) : Int) - 1))]) rfl ?_
 obtain ⟨hm32, hV⟩ := hi18
 have nV : ndg V ≤ 16 := ndg_K4 (Nat.lt_of_le_of_lt (bsum_top hV) (hnum_lt X))
 have hgi := UInt8.toNat_lt (X.getD (m - 1) 0)
 refine G.seqK fun K20 hK21 => ?_
 refine G.sr fun K22 hK23 => ?_
 refine GL.r 2 2 [(1, pt p3 0), (3, .slice Z (ndg V) z), (4, li (((m : Nat) : Int) - 1)), (7, .bool (decide (0 ≤ (((m : Nat) : Int) - 1))))] ?_
 refine GL.q hK23 ?_
 cases hb24 : (decide (0 ≤ (((m : Nat) : Int) - 1)))
 · skip
   have hb24f := of_decide_eq_false hb24
   have hm0 : m = 0 := by omega
   have hV0 : V = hnum X := by rw [hm0, Nat.pow_zero, Nat.mul_one] at hV; exact hV
   refine G.no rfl ?_
   refine G.exitK hK14 (fun _ _ h => h) ?_
   refine G.sr fun K25 hK26 => ?_
   refine GL.r 2 2 [(2, .slice Z (ndg V) z)] ?_
   refine GL.q hK26 ?_
   refine G.ret fun F_ hF_ hM_ => hRet _ _ (bodyPost_1 rfl (RV.tmp rfl) ?_ F_ hF_ hM_)
   have H27 : Hp w [] [.row Z (ndg V) z 31 1 (dg (digs V))] w17 := H19.sub (List.Sublist.cons _ (List.Sublist.cons_cons _ (List.Sublist.slnil)))
   have HF := H27
   rw [hV0] at HF
   rw [hV0]
   exact ⟨_, _, rfl, HF⟩
 · skip
   have hb24f := of_decide_eq_true hb24
   have hm0 : 0 < m := by omega
   have ei : (((m : Nat) : Int) - 1) = ((m - 1 : Nat) : Int) := by omega
   refine G.eq (M' := [(1, pt p3 0), (3, .slice Z (ndg V) z), (4, vi (m - 1)), (7, .bool true)]) (by rw [ei]) ?_
   refine G.yes rfl ?_
   refine G.skipK hK21 (fun _ _ h => h) ?_
   refine G.seqK fun K28 hK29 => ?_
   refine G.block ?_
   refine G.heldP (Hp w [] [.blk p3 (by8 X) 23, .row Z (ndg V) z 31 1 (dg (digs V))]) (by kernel_rfl) (by kernel_rfl) (fun c_ a_ d_ v_ w_ h_ => hPan c_ a_ d_ v_ w_ h_) ?_
   have H30 := H19.drew
   generalize ({ w17 with drawn := w17.drawn + 1 } : World) = w31 at H30 ⊢
   have hS32 : Hp w [] [.blk p3 (by8 X) 23, .row Z (ndg V) z 31 1 (dg (digs V))] w31 := H30.sub (List.Sublist.cons_cons _ (List.Sublist.cons_cons _ (List.Sublist.slnil)))
   refine GP.r [0, 3] [(1, pt p3 0), (3, .slice Z (ndg V) z), (4, vi (m - 1)), (10, .slice Z (ndg V) z), (13, vi (m - 1))] [0, 3] hS32 ?_
   refine GP.s 4 (fun w_ H_ => run_idxArr (P := Try.prog) (k := .i64) (t := 23) (len := 32) (sz := 1) (b := p3) (o := 0) (j := m - 1) (by kernel_rfl) rfl (by omega)) [(1, pt p3 0), (3, .slice Z (ndg V) z), (4, vi (m - 1)), (10, .slice Z (ndg V) z), (14, pt p3 (0 + (m - 1) * 1))] hS32 ?_
   refine GP.s 5 (fun w_ H_ => H_.ld (o := (0 + (m - 1) * 1)) (ty := 5) (v := .int .u8 (((X.getD (m - 1) 0)).toNat : Int)) 0 rfl (by kernel_rfl) (by rw [show (0 + (m - 1) * 1) = (m - 1) by omega]; exact by8_at (getD8 (by rw [hX]; omega)))) [(1, pt p3 0), (3, .slice Z (ndg V) z), (4, vi (m - 1)), (10, .slice Z (ndg V) z), (15, lb (((X.getD (m - 1) 0)).toNat : Int))] hS32 ?_
   refine GP.r [6, 7] [(1, pt p3 0), (3, .slice Z (ndg V) z), (4, vi (m - 1)), (10, .slice Z (ndg V) z), (17, .agg #[lu (IntKind.u64.wrap (((X.getD (m - 1) 0)).toNat : Int)), lu 0, lu 0, lu 0])] [0, 3, 4, 5, 6, 7] hS32 ?_
   have e33 : (IntKind.u64.wrap (((X.getD (m - 1) 0)).toNat : Int)) = (((X.getD (m - 1) 0)).toNat : Int) := u8_up_u64 _
   refine GP.eq (M' := [(1, pt p3 0), (3, .slice Z (ndg V) z), (4, vi (m - 1)), (10, .slice Z (ndg V) z), (17, .agg #[lu (((X.getD (m - 1) 0)).toNat : Int), lu 0, lu 0, lu 0])]) (by rw [e33]) ?_
   clear e33
   obtain ⟨p34, w35, r36, H37⟩ := H30.madeRow (P := Try.prog) (Instr.buildSlice 35 1 #[(0, lu 256)]) (fun b_ => .slice (some ⟨b_, 0, none⟩) 1 1) [lu 256] 31 1 1 1 (by kernel_rfl) (by decide) (by decide) rfl
   have hS38 : Hp w [] [.blk p3 (by8 X) 23, .row Z (ndg V) z 31 1 (dg (digs V))] w35 := H37.sub (List.Sublist.cons_cons _ (List.Sublist.cons_cons _ (List.Sublist.cons _ (List.Sublist.slnil))))
   refine GP.made 1 r36 [1, 3, 4, 10, 11, 17] [(1, pt p3 0), (3, .slice Z (ndg V) z), (4, vi (m - 1)), (10, .slice Z (ndg V) z), (11, .slice (some ⟨p34, 0, none⟩) 1 1), (17, .agg #[lu (((X.getD (m - 1) 0)).toNat : Int), lu 0, lu 0, lu 0])] (by kernel_rfl) (by kernel_rfl) (by kernel_rfl) hS38 ?_
   have hN46 : ndg (V * 256) ≤ 17 := ndg_mul nV (show ndg 256 ≤ 1 from ndg_le.2 (by decide))
   refine GP.call 2 (MulN_calls V 256 Z z (some ⟨p34, 0, none⟩) 1 w35 (H37.rdRow 1 rfl) (H37.rdRow 2 rfl) (Nat.le_trans nV (by decide)) (Nat.le_trans (show ndg 256 ≤ 1 from ndg_le.2 (by decide)) (by decide))) (by kernel_rfl) (by kernel_rfl) (fun e_ w43 hR => ?_)
   obtain ⟨A39, c40, rfl, H42⟩ := hR
   have H41 : Hp w [] [.blk p3 (by8 X) 23, .row Z (ndg V) z 31 1 (dg (digs V)), .row (some ⟨p34, 0, none⟩) 1 1 31 1 (dg [256]), .row A39 (ndg (V * 256)) c40 31 1 (dg (digs (V * 256)))] w43 := H37.callNew H42
   have hS47 : Hp w [] [.blk p3 (by8 X) 23, .row Z (ndg V) z 31 1 (dg (digs V))] w43 := H41.sub (List.Sublist.cons_cons _ (List.Sublist.cons_cons _ (List.Sublist.cons _ (List.Sublist.cons _ (List.Sublist.slnil)))))
   refine ⟨_, rfl, hS47, [1, 3, 4, 12, 17], [(1, pt p3 0), (3, .slice Z (ndg V) z), (4, vi (m - 1)), (12, .slice A39 (ndg (V * 256)) c40), (17, .agg #[lu (((X.getD (m - 1) 0)).toNat : Int), lu 0, lu 0, lu 0])], by kernel_rfl, ?_⟩
   have hN53 : ndg (((X.getD (m - 1) 0)).toNat) ≤ 4 := ndg_K (Nat.lt_trans (UInt8.toNat_lt _) (by decide))
   refine GP.call 8 (Of1_calls_n (((X.getD (m - 1) 0)).toNat) (Nat.lt_trans (UInt8.toNat_lt _) (by decide)) w43) (by kernel_rfl) (by kernel_rfl) (fun e_ w52 hR => ?_)
   obtain ⟨A48, c49, rfl, H51⟩ := hR
   have H50 : Hp w [] [.blk p3 (by8 X) 23, .row Z (ndg V) z 31 1 (dg (digs V)), .row (some ⟨p34, 0, none⟩) 1 1 31 1 (dg [256]), .row A39 (ndg (V * 256)) c40 31 1 (dg (digs (V * 256))), .row A48 (ndg (((X.getD (m - 1) 0)).toNat)) c49 31 1 (dg (digs (((X.getD (m - 1) 0)).toNat)))] w52 := H41.callNew H51
   have hS54 : Hp w [] [.blk p3 (by8 X) 23, .row Z (ndg V) z 31 1 (dg (digs V))] w52 := H50.sub (List.Sublist.cons_cons _ (List.Sublist.cons_cons _ (List.Sublist.cons _ (List.Sublist.cons _ (List.Sublist.cons _ (List.Sublist.slnil))))))
   refine ⟨_, rfl, hS54, [1, 3, 4, 12, 18], [(1, pt p3 0), (3, .slice Z (ndg V) z), (4, vi (m - 1)), (12, .slice A39 (ndg (V * 256)) c40), (18, .slice A48 (ndg (((X.getD (m - 1) 0)).toNat)) c49)], by kernel_rfl, ?_⟩
   have hN60 : ndg ((V * 256) + (((X.getD (m - 1) 0)).toNat)) ≤ 18 := ndg_add (i := 17) (Nat.le_trans hN46 (by decide)) (Nat.le_trans hN53 (by decide))
   refine GP.call 9 (AddN_calls (V * 256) (((X.getD (m - 1) 0)).toNat) A39 c40 A48 c49 w52 (H50.rdRow 3 rfl) (H50.rdRow 4 rfl) (Nat.le_trans hN46 (by decide)) (Nat.le_trans hN53 (by decide))) (by kernel_rfl) (by kernel_rfl) (fun e_ w59 hR => ?_)
   obtain ⟨A55, c56, rfl, H58⟩ := hR
   have H57 : Hp w [] [.blk p3 (by8 X) 23, .row Z (ndg V) z 31 1 (dg (digs V)), .row (some ⟨p34, 0, none⟩) 1 1 31 1 (dg [256]), .row A39 (ndg (V * 256)) c40 31 1 (dg (digs (V * 256))), .row A48 (ndg (((X.getD (m - 1) 0)).toNat)) c49 31 1 (dg (digs (((X.getD (m - 1) 0)).toNat))), .row A55 (ndg ((V * 256) + (((X.getD (m - 1) 0)).toNat))) c56 31 1 (dg (digs ((V * 256) + (((X.getD (m - 1) 0)).toNat))))] w59 := H50.callNew H58
   have hS61 : Hp w [] [.blk p3 (by8 X) 23, .row Z (ndg V) z 31 1 (dg (digs V))] w59 := H57.sub (List.Sublist.cons_cons _ (List.Sublist.cons_cons _ (List.Sublist.cons _ (List.Sublist.cons _ (List.Sublist.cons _ (List.Sublist.cons _ (List.Sublist.slnil)))))))
   refine ⟨_, rfl, hS61, [1, 3, 4, 19], [(1, pt p3 0), (3, .slice Z (ndg V) z), (4, vi (m - 1)), (19, .slice A55 (ndg ((V * 256) + (((X.getD (m - 1) 0)).toNat))) c56)], by kernel_rfl, ?_⟩
   refine GP.r [10] [(1, pt p3 0), (3, .slice A55 (ndg ((V * 256) + (((X.getD (m - 1) 0)).toNat))) c56), (4, vi (m - 1))] [0, 3, 4, 5, 6, 7, 1, 2, 8, 9, 10] hS61 ?_
   refine GP.k (by kernel_rfl) hK29 (fun _ _ h => h) ?_
   refine G.region ?_
   refine GL.r 3 3 [(1, pt p3 0), (3, .slice A55 (ndg ((V * 256) + (((X.getD (m - 1) 0)).toNat))) c56), (4, li (IntKind.i64.wrap (((m - 1 : Nat) : Int) - 1)))] ?_
   have e62 : (IntKind.i64.wrap (((m - 1 : Nat) : Int) - 1)) = (((m - 1 : Nat) : Int) - 1) := in_i64 (by omega)
   rw [e62]
   clear e62
   have H63 : Hp w [] [.blk p3 (by8 X) 23, .row A55 (ndg ((V * 256) + (((X.getD (m - 1) 0)).toNat))) c56 31 1 (dg (digs ((V * 256) + (((X.getD (m - 1) 0)).toNat))))] w59 := H57.sub (List.Sublist.cons_cons _ (List.Sublist.cons _ (List.Sublist.cons _ (List.Sublist.cons _ (List.Sublist.cons _ (List.Sublist.cons_cons _ (List.Sublist.slnil)))))))
   refine GL.fit (ts := [1, 3, 4]) (M' := [(1, pt p3 0), (3, .slice A55 (ndg ((V * 256) + (((X.getD (m - 1) 0)).toNat))) c56), (4, li (((m - 1 : Nat) : Int) - 1))]) (by kernel_rfl) ?_
   refine GL.eq (M' := [(1, pt p3 0), (3, .slice A55 (ndg ((V * 256) + (((X.getD (m - 1) 0)).toNat))) c56), (4, li ((((m - 1) : Nat) : Int) - 1))]) (by rfl) ?_
   exact GL.again ⟨(m - 1), ((V * 256) + (((X.getD (m - 1) 0)).toNat)), A55, c56⟩ [1, 3, 4] rfl (by kernel_rfl) (by show (m - 1) < m; omega) ⟨⟨by omega, bsum_step hm0 hV⟩, H63⟩
theorem hd_bits {v t b n : Nat} {A R : List UInt8} (hA : A.length = 32) (hR : R.length = 32) (hb : b < 4294967296) : getB (((hdB v A R t b n).take 76).drop 72) = b := by
 have e : hdB v A R t b n = (putB v 4 ++ (A ++ (R ++ putB t 4))) ++ (putB b 4 ++ putB n 4) := by simp [hdB]
 have hl : (putB v 4 ++ (A ++ (R ++ putB t 4))).length = 72 := by simp [putB_length, hA, hR]
 rw [List.drop_take, e, List.drop_left' hl, List.take_left' (by rw [putB_length]), getB_put]
 exact Nat.mod_eq_of_lt hb
def rmB (v : Nat) (A R : List UInt8) (t b n : Nat) : Bool := refOK b && decide (hdH v A R t b n ≤ refT b)
theorem rm_true {v t b n : Nat} {A R : List UInt8} (h : rmB v A R t b n = true) : decE b = 0 ∧ hdH v A R t b n ≤ decR b := by
 unfold rmB at h
 rw [Bool.and_eq_true, (refOK_iff b).1] at h
 have hE := of_decide_eq_true h.1
 exact ⟨hE, by rw [refR_dec hE]; exact of_decide_eq_true h.2⟩
theorem rm_of {v t b n : Nat} {A R : List UInt8} (hE : decE b = 0) (h : hdH v A R t b n ≤ decR b) : rmB v A R t b n = true := by
 unfold rmB
 rw [(refOK_iff b).1, decide_eq_true hE, decide_eq_true (by rw [← refR_dec hE]; exact h)]
 rfl
theorem RMeets_calls (v : Nat) (A R : List UInt8) (t b n : Nat) (Z : Option Addr) (c : Nat) (w : World) (hA : A.length = 32) (hR : R.length = 32) (hv : v < 4294967296) (ht : t < 4294967296) (hb : b < 4294967296) (hn : n < 4294967296) (hx : RdS w Z (by8 (hdB v A R t b n))) (hc : 80 ≤ c) : Calls Try.prog 12 #[.slice Z 80 c] w fun e w' => e = .returned (.bool (rmB v A R t b n)) ∧ Hp w [] [] w' := by
 have hMX : MX = 4611686018427387904 := rfl
 have hK0 : K = 18446744073709551616 := rfl
 have hK40 : K4 = 115792089237316195423570985008687907853269984665640564039457584007913129639936 := rfl
 refine calls_G (args := [.slice Z 80 c]) Try.func12 rfl Try.ntmps12 rfl ?_
 intro Q0 hRet hNor hPan
 have H := Hp.start w
 refine G.sr fun K1 hK2 => ?_
 refine GL.r 1 1 [(0, .slice Z 80 c)] ?_
 refine GL.q hK2 ?_
 refine G.sr fun K3 hK4 => ?_
 refine GL.r 1 1 [(0, .slice Z 80 c), (6, .slice Z 80 c)] ?_
 refine GL.s 2 (run_sliceSl (P := Try.prog) (lo := some (li 72)) (hi := some (li 76)) (t := 28) (len := 80) (cap := c) (A := Z) (l := 72) (h := 76) (by kernel_rfl) (Or.inr ⟨_, _, rfl, rfl⟩) (Or.inr ⟨_, _, rfl, rfl⟩) (by omega) (by omega)) [(0, .slice Z 80 c), (7, .slice (if c = 72 then Z else Option.map (fun x => Addr.add x 72) Z) 4 (c - 72))] ?_
 refine GL.call (j := 3) (RGet_calls (((hdB v A R t b n).take 76).drop 72) (if c = 72 then Z else Option.map (fun x => Addr.add x 72) Z) 4 (c - 72) w (RdS.cut8 (cap := c) (hx.hp H) 72 76 (cs := (((hdB v A R t b n).take 76).drop 72)) (by rw [hdB_length hA hR]; exact hc) rfl) (by simp [hdB_length hA hR]) (by decide)) (by kernel_rfl) rfl (fun e_ w5 hR => ?_)
 obtain ⟨rfl, H7⟩ := hR
 have H6 : Hp w [] [] w5 := H.callNil H7
 refine ⟨_, rfl, [0, 8], [(0, .slice Z 80 c), (8, vu (getB (((hdB v A R t b n).take 76).drop 72)))], by kernel_rfl, ?_⟩
 refine GL.r 4 1 [(0, .slice Z 80 c), (9, lw (IntKind.u32.wrap (((getB (((hdB v A R t b n).take 76).drop 72)) : Nat) : Int)))] ?_
 have e8 : (IntKind.u32.wrap (((getB (((hdB v A R t b n).take 76).drop 72)) : Nat) : Int)) = (b : Int) := by rw [hd_bits hA hR hb]; exact in_u32 (by omega)
 rw [e8]
 clear e8
 refine GL.call (j := 5) (Decode6_calls b hb w5) (by kernel_rfl) rfl (fun e_ w13 hR => ?_)
 obtain ⟨A9, c10, rfl, H12⟩ := hR
 have H11 : Hp w [] [.row A9 (ndg (refT b)) c10 31 1 (dg (digs (refT b)))] w13 := H6.callNew H12
 refine ⟨_, rfl, [0, 10], [(0, .slice Z 80 c), (10, .tuple #[.slice A9 (ndg (refT b)) c10, .bool (refOK b)])], by kernel_rfl, ?_⟩
 refine GL.r 10 5 [(0, .slice Z 80 c), (3, .slice A9 (ndg (refT b)) c10), (4, .bool (refOK b))] ?_
 refine GL.q hK4 ?_
 refine G.sr fun K14 hK15 => ?_
 refine GL.r 2 2 [(0, .slice Z 80 c), (3, .slice A9 (ndg (refT b)) c10), (14, .bool (refOK b))] ?_
 cases hb16 : (refOK b)
 · skip
   have hok : refOK b = false := hb16
   have hE0 := (refOK_iff b).1
   rw [hok] at hE0
   have hE : decE b ≠ 0 := of_decide_eq_false hE0.symm
   refine GL.r 10 8 [(2, .bool false)] ?_
   refine GL.q hK15 ?_
   refine G.ret fun F_ hF_ hM_ => hRet _ _ (bodyPost_1 rfl (RV.tmp rfl) ?_ F_ hF_ hM_)
   have e0 : rmB v A R t b n = false := by unfold rmB; rw [hok]; rfl
   rw [e0]
   exact ⟨rfl, H11.sub (List.nil_sublist _)⟩
 · skip
   have hok : refOK b = true := hb16
   have hE0 := (refOK_iff b).1
   rw [hok] at hE0
   have hE : decE b = 0 := of_decide_eq_true hE0.symm
   have hRT := refR_dec hE
   have nRT : ndg (refT b) ≤ 16 := by rw [← refR_dec hE]; exact ndg_K4 (decR_lt b)
   refine GL.r 3 1 [(3, .slice A9 (ndg (refT b)) c10), (14, .bool true), (15, .slice Z 80 c)] ?_
   refine GL.call (j := 4) (RefDouble_calls Z 80 c (hdB v A R t b n) w13 (hx.hp H11) ((hdB_length hA hR).symm) (by rw [hdB_length hA hR]; decide)) (by kernel_rfl) rfl (fun e_ w17 hR => ?_)
   obtain ⟨rfl, H19⟩ := hR
   have H18 : Hp w [] [.row A9 (ndg (refT b)) c10 31 1 (dg (digs (refT b)))] w17 := H11.callNil H19
   refine ⟨_, rfl, [3, 14, 16], [(3, .slice A9 (ndg (refT b)) c10), (14, .bool true), (16, .agg (by8 (sha (sha (hdB v A R t b n)))).toArray)], by kernel_rfl, ?_⟩
   have hN25 : ndg (hnum (sha (sha (hdB v A R t b n)))) ≤ 16 := ndg_K4 (hnum_lt _)
   refine GL.call (j := 5) (Number7_calls (sha (sha (hdB v A R t b n))) (by rw [sha_length]) w17) (by kernel_rfl) rfl (fun e_ w24 hR => ?_)
   obtain ⟨A20, c21, rfl, H23⟩ := hR
   have H22 : Hp w [] [.row A9 (ndg (refT b)) c10 31 1 (dg (digs (refT b))), .row A20 (ndg (hnum (sha (sha (hdB v A R t b n))))) c21 31 1 (dg (digs (hnum (sha (sha (hdB v A R t b n))))))] w24 := H18.callNew H23
   refine ⟨_, rfl, [3, 14, 17], [(3, .slice A9 (ndg (refT b)) c10), (14, .bool true), (17, .slice A20 (ndg (hnum (sha (sha (hdB v A R t b n))))) c21)], by kernel_rfl, ?_⟩
   refine GL.r 6 1 [(14, .bool true), (17, .slice A20 (ndg (hnum (sha (sha (hdB v A R t b n))))) c21), (18, .slice A9 (ndg (refT b)) c10)] ?_
   refine GL.call (j := 7) (CmpN_calls (hnum (sha (sha (hdB v A R t b n)))) (refT b) A20 A9 c21 c10 w24 (H22.rdRow 1 rfl) (H22.rdRow 0 rfl) (Nat.le_trans hN25 (by decide)) (Nat.le_trans nRT (by decide))) (by kernel_rfl) rfl (fun e_ w26 hR => ?_)
   obtain ⟨rfl, H28⟩ := hR
   have H27 : Hp w [] [.row A9 (ndg (refT b)) c10 31 1 (dg (digs (refT b))), .row A20 (ndg (hnum (sha (sha (hdB v A R t b n))))) c21 31 1 (dg (digs (hnum (sha (sha (hdB v A R t b n))))))] w26 := H22.callNil H28
   refine ⟨_, rfl, [14, 19], [(14, .bool true), (19, li (cmpN (hnum (sha (sha (hdB v A R t b n)))) (refT b)))], by kernel_rfl, ?_⟩
   refine GL.r 10 3 [(2, .bool (decide ((cmpN (hnum (sha (sha (hdB v A R t b n)))) (refT b)) ≤ 0)))] ?_
   refine GL.q hK15 ?_
   refine G.ret fun F_ hF_ hM_ => hRet _ _ (bodyPost_1 rfl (RV.tmp rfl) ?_ F_ hF_ hM_)
   have e0 : rmB v A R t b n = (decide ((cmpN (hnum (sha (sha (hdB v A R t b n)))) (refT b)) ≤ 0)) := by unfold rmB hdH; rw [hok, Bool.true_and, Bool.eq_iff_iff]; simp only [decide_eq_true_eq, cmp_le0]
   rw [e0]
   exact ⟨rfl, H27.sub (List.nil_sublist _)⟩
end Go.Proofs.Ytdepaaphgfapjaa
set_option maxRecDepth 100000
namespace Go.Proofs.Ytdepaaphgfapjaa
open Go.RowKit
theorem first_root : parT ([52, 97, 53, 101, 49, 101, 52, 98, 97, 97, 98, 56, 57, 102, 51, 97, 51, 50, 53, 49, 56, 97, 56, 56, 99, 51, 49, 98, 99, 56, 55, 102, 54, 49, 56, 102, 55, 54, 54, 55, 51, 101, 50, 99, 99, 55, 55, 97, 98, 50, 49, 50, 55, 98, 55, 97, 102, 100, 101, 100, 97, 51, 51, 98] : List UInt8) = ([59, 163, 237, 253, 122, 123, 18, 178, 122, 199, 44, 62, 103, 118, 143, 97, 127, 200, 27, 195, 136, 138, 81, 50, 58, 159, 184, 170, 75, 30, 94, 74] : List UInt8) ∧ parE ([52, 97, 53, 101, 49, 101, 52, 98, 97, 97, 98, 56, 57, 102, 51, 97, 51, 50, 53, 49, 56, 97, 56, 56, 99, 51, 49, 98, 99, 56, 55, 102, 54, 49, 56, 102, 55, 54, 54, 55, 51, 101, 50, 99, 99, 55, 55, 97, 98, 50, 49, 50, 55, 98, 55, 97, 102, 100, 101, 100, 97, 51, 51, 98] : List UInt8) = 0 := ⟨by kernel_rfl, by kernel_rfl⟩
theorem first_hash : sha (sha (hdB 1 ([0, 0, 0, 0, 0, 0, 0, 0, 0, 0, 0, 0, 0, 0, 0, 0, 0, 0, 0, 0, 0, 0, 0, 0, 0, 0, 0, 0, 0, 0, 0, 0] : List UInt8) ([59, 163, 237, 253, 122, 123, 18, 178, 122, 199, 44, 62, 103, 118, 143, 97, 127, 200, 27, 195, 136, 138, 81, 50, 58, 159, 184, 170, 75, 30, 94, 74] : List UInt8) 1231006505 486604799 2083236893)) = ([111, 226, 140, 10, 182, 241, 179, 114, 193, 166, 162, 70, 174, 99, 247, 79, 147, 30, 131, 101, 225, 90, 8, 156, 104, 214, 25, 0, 0, 0, 0, 0] : List UInt8) := by
 rw [show hdB 1 ([0, 0, 0, 0, 0, 0, 0, 0, 0, 0, 0, 0, 0, 0, 0, 0, 0, 0, 0, 0, 0, 0, 0, 0, 0, 0, 0, 0, 0, 0, 0, 0] : List UInt8) ([59, 163, 237, 253, 122, 123, 18, 178, 122, 199, 44, 62, 103, 118, 143, 97, 127, 200, 27, 195, 136, 138, 81, 50, 58, 159, 184, 170, 75, 30, 94, 74] : List UInt8) 1231006505 486604799 2083236893 = ([1, 0, 0, 0, 0, 0, 0, 0, 0, 0, 0, 0, 0, 0, 0, 0, 0, 0, 0, 0, 0, 0, 0, 0, 0, 0, 0, 0, 0, 0, 0, 0, 0, 0, 0, 0, 59, 163, 237, 253, 122, 123, 18, 178, 122, 199, 44, 62, 103, 118, 143, 97, 127, 200, 27, 195, 136, 138, 81, 50, 58, 159, 184, 170, 75, 30, 94, 74, 41, 171, 95, 73, 255, 255, 0, 29, 29, 172, 43, 124] : List UInt8) by kernel_rfl, show sha ([1, 0, 0, 0, 0, 0, 0, 0, 0, 0, 0, 0, 0, 0, 0, 0, 0, 0, 0, 0, 0, 0, 0, 0, 0, 0, 0, 0, 0, 0, 0, 0, 0, 0, 0, 0, 59, 163, 237, 253, 122, 123, 18, 178, 122, 199, 44, 62, 103, 118, 143, 97, 127, 200, 27, 195, 136, 138, 81, 50, 58, 159, 184, 170, 75, 30, 94, 74, 41, 171, 95, 73, 255, 255, 0, 29, 29, 172, 43, 124] : List UInt8) = ([175, 66, 3, 30, 128, 95, 244, 147, 160, 115, 65, 226, 247, 79, 245, 129, 73, 210, 42, 185, 186, 25, 246, 19, 67, 226, 200, 108, 113, 197, 214, 109] : List UInt8) by kernel_rfl]
 kernel_rfl
theorem first_text : hexT ([111, 226, 140, 10, 182, 241, 179, 114, 193, 166, 162, 70, 174, 99, 247, 79, 147, 30, 131, 101, 225, 90, 8, 156, 104, 214, 25, 0, 0, 0, 0, 0] : List UInt8) = ([48, 48, 48, 48, 48, 48, 48, 48, 48, 48, 49, 57, 100, 54, 54, 56, 57, 99, 48, 56, 53, 97, 101, 49, 54, 53, 56, 51, 49, 101, 57, 51, 52, 102, 102, 55, 54, 51, 97, 101, 52, 54, 97, 50, 97, 54, 99, 49, 55, 50, 98, 51, 102, 49, 98, 54, 48, 97, 56, 99, 101, 50, 54, 102] : List UInt8) := by kernel_rfl
theorem run_strHead {P : Program} {t : TypeId} {k : IntKind} {s : List UInt8} {h : Nat} {r : List UInt8} (ht : isStr P t = true) (hh : h ≤ s.length) (hr : s.take h = r) (w : World) :
   (Instr.sliceAt t (.string (strOf s)) none (some (.int k (h : Int))) none).run P w = .ok (.string (strOf r)) w := by
 rw [run_sliceAt_string (h := isStr_spec ht), run_slice_string_h (ht := isStr_spec ht) (h0 := by omega) (h2 := by rw [strOf_size]; omega), ← hr]
 rw [show (strOf s).extract 0 (h : Int).toNat = strOf ((s.drop 0).take (h - 0)) from ByteArray.extract_mk s _ _]
 rfl
abbrev lz3 : List Value := [lw 0, lb 0, lb 0, lb 0, lb 0, lb 0, lb 0, lb 0, lb 0, lb 0, lb 0, lb 0, lb 0, lb 0, lb 0, lb 0, lb 0, lb 0, lb 0, lb 0, lb 0, lb 0, lb 0, lb 0, lb 0, lb 0, lb 0, lb 0, lb 0, lb 0, lb 0, lb 0, lb 0, lb 0, lb 0, lb 0, lb 0, lb 0, lb 0, lb 0, lb 0, lb 0, lb 0, lb 0, lb 0, lb 0, lb 0, lb 0, lb 0, lb 0, lb 0, lb 0, lb 0, lb 0, lb 0, lb 0, lb 0, lb 0, lb 0, lb 0, lb 0, lb 0, lb 0, lb 0, lb 0, lw 0, lw 0, lw 0]
abbrev lz4 : List Value := [lb 59, lb 163, lb 237, lb 253, lb 122, lb 123, lb 18, lb 178, lb 122, lb 199, lb 44, lb 62, lb 103, lb 118, lb 143, lb 97, lb 127, lb 200, lb 27, lb 195, lb 136, lb 138, lb 81, lb 50, lb 58, lb 159, lb 184, lb 170, lb 75, lb 30, lb 94, lb 74]
abbrev lz5 : List Value := [lw 1, lb 0, lb 0, lb 0, lb 0, lb 0, lb 0, lb 0, lb 0, lb 0, lb 0, lb 0, lb 0, lb 0, lb 0, lb 0, lb 0, lb 0, lb 0, lb 0, lb 0, lb 0, lb 0, lb 0, lb 0, lb 0, lb 0, lb 0, lb 0, lb 0, lb 0, lb 0, lb 0, lb 59, lb 163, lb 237, lb 253, lb 122, lb 123, lb 18, lb 178, lb 122, lb 199, lb 44, lb 62, lb 103, lb 118, lb 143, lb 97, lb 127, lb 200, lb 27, lb 195, lb 136, lb 138, lb 81, lb 50, lb 58, lb 159, lb 184, lb 170, lb 75, lb 30, lb 94, lb 74, lw 1231006505, lw 486604799, lw 2083236893]
theorem first_calls (w : World) : Calls Try.prog 20 #[] w fun e w' => e = .returned (.agg (hdC 1 ([0, 0, 0, 0, 0, 0, 0, 0, 0, 0, 0, 0, 0, 0, 0, 0, 0, 0, 0, 0, 0, 0, 0, 0, 0, 0, 0, 0, 0, 0, 0, 0] : List UInt8) ([59, 163, 237, 253, 122, 123, 18, 178, 122, 199, 44, 62, 103, 118, 143, 97, 127, 200, 27, 195, 136, 138, 81, 50, 58, 159, 184, 170, 75, 30, 94, 74] : List UInt8) 1231006505 486604799 2083236893).toArray) ∧ Hp w [] [] w' := by
 refine calls_G (args := []) Try.func20 rfl Try.ntmps20 rfl ?_
 intro Q0 hRet hNor hPan
 have H := Hp.start w
 refine G.sr fun K1 hK2 => ?_
 obtain ⟨p3, w4, r5, H6⟩ := H.alloc (P := Try.prog) 26 lz3 (by kernel_rfl)
 refine GL.s 1 (r5) [(0, pt p3 0)] ?_
 refine GL.q hK2 ?_
 refine G.sr fun K7 hK8 => ?_
 refine GL.call (j := 1) ((by have h_ := Parse_calls ([52, 97, 53, 101, 49, 101, 52, 98, 97, 97, 98, 56, 57, 102, 51, 97, 51, 50, 53, 49, 56, 97, 56, 56, 99, 51, 49, 98, 99, 56, 55, 102, 54, 49, 56, 102, 55, 54, 54, 55, 51, 101, 50, 99, 99, 55, 55, 97, 98, 50, 49, 50, 55, 98, 55, 97, 102, 100, 101, 100, 97, 51, 51, 98] : List UInt8) w4 (by decide); rw [first_root.1, first_root.2] at h_; exact h_)) (by kernel_rfl) rfl (fun e_ w9 hR => ?_)
 obtain ⟨rfl, H11⟩ := hR
 have H10 : Hp w [] [.blk p3 lz3 26] w9 := H6.callNil H11
 refine ⟨_, rfl, [0, 4], [(0, pt p3 0), (4, .tuple #[.agg lz4.toArray, li 0])], by kernel_rfl, ?_⟩
 refine GL.r 4 3 [(0, pt p3 0), (5, .agg lz4.toArray), (6, li 0)] ?_
 obtain ⟨p12, w13, r14, H15⟩ := H10.alloc (P := Try.prog) 24 [lb 0, lb 0, lb 0, lb 0, lb 0, lb 0, lb 0, lb 0, lb 0, lb 0, lb 0, lb 0, lb 0, lb 0, lb 0, lb 0, lb 0, lb 0, lb 0, lb 0, lb 0, lb 0, lb 0, lb 0, lb 0, lb 0, lb 0, lb 0, lb 0, lb 0, lb 0, lb 0] (by kernel_rfl)
 refine GL.s 5 (r14) [(0, pt p3 0), (1, pt p12 0), (5, .agg lz4.toArray), (6, li 0)] ?_
 obtain ⟨w16, r17, H18⟩ := H15.stA (P := Try.prog) (o := 0) (vs := lz4) (ty := 24) (m := 32) 1 rfl (by kernel_rfl) rfl (by simp) (by simp [Value.oneCell'])
 refine GL.u 6 r17 [(0, pt p3 0), (1, pt p12 0), (6, li 0)] ?_
 refine GL.r 7 1 [(0, pt p3 0), (1, pt p12 0)] ?_
 refine GL.q hK8 ?_
 refine G.sr fun K19 hK20 => ?_
 refine GL.s 1 (H18.ldA (o := 0) (ty := 24) (m := 32) (sub := lz4) 1 rfl (by kernel_rfl) rfl rfl) [(0, pt p3 0), (7, .agg lz4.toArray)] ?_
 refine GL.r 2 1 [(0, pt p3 0), (8, .agg lz5.toArray)] ?_
 obtain ⟨w21, r22, H23⟩ := H18.stA (P := Try.prog) (o := 0) (vs := lz5) (ty := 26) (m := 68) 0 rfl (by kernel_rfl) rfl (by simp) (by simp [Value.oneCell'])
 refine GL.u 3 r22 [(0, pt p3 0)] ?_
 refine GL.q hK20 ?_
 refine G.ret fun F_ hF_ hM_ => hRet _ _ (bodyPost_1 rfl (RV.cell rfl (H23.ldA (o := 0) (ty := 26) (m := 68) (sub := lz5) 0 rfl (by kernel_rfl) rfl rfl)) ?_ F_ hF_ hM_)
 exact ⟨rfl, H23.sub (List.nil_sublist _)⟩
theorem first_num : hnum ([111, 226, 140, 10, 182, 241, 179, 114, 193, 166, 162, 70, 174, 99, 247, 79, 147, 30, 131, 101, 225, 90, 8, 156, 104, 214, 25, 0, 0, 0, 0, 0] : List UInt8) = 10628944869218562084050143519444549580389464591454674019345556079 := by kernel_rfl
theorem Lit0_calls (w : World) : Calls Try.prog 51 #[.int .u64 65535] w fun e w' => e = .returned (.agg #[.int .u64 65535, .int .u64 0, .int .u64 0, .int .u64 0]) ∧ Hp w [] [] w' := by
 refine calls_G (args := [lu 65535]) Try.func51 rfl Try.ntmps51 rfl ?_
 intro Q0 hRet hNor hPan
 have H := Hp.start w
 refine G.sr fun K1 hK2 => ?_
 obtain ⟨p3, w4, r5, H6⟩ := H.alloc (P := Try.prog) 33 [lu 0, lu 0, lu 0, lu 0] (by kernel_rfl)
 refine GL.s 1 (r5) [(0, lu 65535), (2, pt p3 0)] ?_
 refine GL.q hK2 ?_
 refine G.sr fun K7 hK8 => ?_
 refine GL.r 2 2 [(2, pt p3 0), (4, .agg #[lu 65535, lu 0, lu 0, lu 0])] ?_
 obtain ⟨w9, r10, H11⟩ := H6.stA (P := Try.prog) (o := 0) (vs := [lu 65535, lu 0, lu 0, lu 0]) (ty := 33) (m := 4) 0 rfl (by kernel_rfl) rfl (by simp) (by simp [Value.oneCell'])
 refine GL.u 3 r10 [(2, pt p3 0)] ?_
 refine GL.q hK8 ?_
 refine G.ret fun F_ hF_ hM_ => hRet _ _ (bodyPost_1 rfl (RV.cell rfl (H11.ldA (o := 0) (ty := 33) (m := 4) (sub := [lu 65535, lu 0, lu 0, lu 0]) 0 rfl (by kernel_rfl) rfl rfl)) ?_ F_ hF_ hM_)
 exact ⟨rfl, H11.sub (List.nil_sublist _)⟩
theorem Lit1_calls (w : World) : Calls Try.prog 65 #[.int .u64 65535] w fun e w' => e = .returned (.int .i64 16) ∧ Hp w [] [] w' := by
 refine calls_G (args := [lu 65535]) Try.func65 rfl Try.ntmps65 rfl ?_
 intro Q0 hRet hNor hPan
 have H := Hp.start w
 refine G.sr fun K1 hK2 => ?_
 refine GL.r 1 1 [(0, lu 65535), (2, li 0)] ?_
 refine GL.q hK2 ?_
 refine G.seqK fun K3 hK4 => ?_
 refine G.sr fun K5 hK6 => ?_
 refine GL.r 2 2 [(0, lu 65535), (2, li 0), (4, .bool false)] ?_
 refine GL.q hK6 ?_
 refine G.no rfl ?_
 refine G.skipK hK4 (fun _ _ h => h) ?_
 refine G.seqK fun K7 hK8 => ?_
 refine G.sr fun K9 hK10 => ?_
 refine GL.r 2 2 [(0, lu 65535), (2, li 0), (8, .bool false)] ?_
 refine GL.q hK10 ?_
 refine G.no rfl ?_
 refine G.skipK hK8 (fun _ _ h => h) ?_
 refine G.seqK fun K11 hK12 => ?_
 refine G.sr fun K13 hK14 => ?_
 refine GL.r 2 2 [(0, lu 65535), (2, li 0), (14, .bool true)] ?_
 refine GL.q hK14 ?_
 refine G.yes rfl ?_
 refine G.sr fun K15 hK16 => ?_
 refine GL.r 3 3 [(0, lu 255), (2, li 0)] ?_
 refine GL.q hK16 ?_
 refine G.region ?_
 refine GL.r 3 3 [(0, lu 255), (2, li 8)] ?_
 refine GL.q hK12 ?_
 refine G.sr fun K17 hK18 => ?_
 refine GL.r 3 3 [(19, li 8), (21, lb 255)] ?_
 refine GL.s 4 (run_strIdx (P := Try.prog) (k := .u8) (t := 9) (s := tab8) (i := 255) (b := 8) (by kernel_rfl) (by kernel_rfl) _) [(19, li 8), (22, lb 8)] ?_
 refine GL.r 7 3 [(2, li 16)] ?_
 refine GL.q hK18 ?_
 refine G.ret fun F_ hF_ hM_ => hRet _ _ (bodyPost_1 rfl (RV.tmp rfl) ?_ F_ hF_ hM_)
 exact ⟨rfl, H.sub (List.nil_sublist _)⟩
theorem Lit2_calls (w : World) : Calls Try.prog 52 #[.agg #[.int .u64 65535, .int .u64 0, .int .u64 0, .int .u64 0]] w fun e w' => e = .returned (.int .i64 16) ∧ Hp w [] [] w' := by
 refine calls_G (args := [.agg #[lu 65535, lu 0, lu 0, lu 0]]) Try.func52 rfl Try.ntmps52 rfl ?_
 intro Q0 hRet hNor hPan
 have H := Hp.start w
 refine G.sr fun K1 hK2 => ?_
 obtain ⟨p3, w4, r5, H6⟩ := H.box (P := Try.prog) 33 [lu 65535, lu 0, lu 0, lu 0] (.agg #[lu 65535, lu 0, lu 0, lu 0]) rfl
 refine GL.s 1 (r5) [(1, pt p3 0)] ?_
 refine GL.r 2 1 [(1, pt p3 0)] ?_
 refine GL.q hK2 ?_
 refine G.seqK fun K7 hK8 => ?_
 refine G.sr fun K9 hK10 => ?_
 refine GL.r 1 1 [(1, pt p3 0), (3, li 3)] ?_
 refine GL.q hK10 ?_
 refine G.block ?_
 refine G.unroll 70 ?_
 refine G.seqK fun K11 hK12 => ?_
 refine G.sr fun K13 hK14 => ?_
 refine GL.r 2 2 [(1, pt p3 0), (3, li 3), (5, .bool true)] ?_
 refine GL.q hK14 ?_
 refine G.yes rfl ?_
 refine G.skipK hK12 (fun _ _ h => h) ?_
 refine G.seqK fun K15 hK16 => ?_
 refine G.block ?_
 refine G.sr fun K17 hK18 => ?_
 refine GL.r 2 2 [(1, pt p3 0), (3, li 3), (9, pt p3 3)] ?_
 refine GL.s 3 (H6.ld (o := 3) (ty := 31) (v := .int .u64 0) 0 rfl (by kernel_rfl) rfl) [(1, pt p3 0), (3, li 3), (10, lu 0)] ?_
 refine GL.r 4 1 [(1, pt p3 0), (3, li 3), (11, .bool false)] ?_
 refine GL.q hK18 ?_
 refine G.no rfl ?_
 refine G.skipK hK16 (fun _ _ h => h) ?_
 refine G.region ?_
 refine GL.r 3 3 [(1, pt p3 0), (3, li 2)] ?_
 refine GL.round rfl ?_
 refine G.seqK fun K19 hK20 => ?_
 refine G.sr fun K21 hK22 => ?_
 refine GL.r 2 2 [(1, pt p3 0), (3, li 2), (5, .bool true)] ?_
 refine GL.q hK22 ?_
 refine G.yes rfl ?_
 refine G.skipK hK20 (fun _ _ h => h) ?_
 refine G.seqK fun K23 hK24 => ?_
 refine G.block ?_
 refine G.sr fun K25 hK26 => ?_
 refine GL.r 2 2 [(1, pt p3 0), (3, li 2), (9, pt p3 2)] ?_
 refine GL.s 3 (H6.ld (o := 2) (ty := 31) (v := .int .u64 0) 0 rfl (by kernel_rfl) rfl) [(1, pt p3 0), (3, li 2), (10, lu 0)] ?_
 refine GL.r 4 1 [(1, pt p3 0), (3, li 2), (11, .bool false)] ?_
 refine GL.q hK26 ?_
 refine G.no rfl ?_
 refine G.skipK hK24 (fun _ _ h => h) ?_
 refine G.region ?_
 refine GL.r 3 3 [(1, pt p3 0), (3, li 1)] ?_
 refine GL.round rfl ?_
 refine G.seqK fun K27 hK28 => ?_
 refine G.sr fun K29 hK30 => ?_
 refine GL.r 2 2 [(1, pt p3 0), (3, li 1), (5, .bool true)] ?_
 refine GL.q hK30 ?_
 refine G.yes rfl ?_
 refine G.skipK hK28 (fun _ _ h => h) ?_
 refine G.seqK fun K31 hK32 => ?_
 refine G.block ?_
 refine G.sr fun K33 hK34 => ?_
 refine GL.r 2 2 [(1, pt p3 0), (3, li 1), (9, pt p3 1)] ?_
 refine GL.s 3 (H6.ld (o := 1) (ty := 31) (v := .int .u64 0) 0 rfl (by kernel_rfl) rfl) [(1, pt p3 0), (3, li 1), (10, lu 0)] ?_
 refine GL.r 4 1 [(1, pt p3 0), (3, li 1), (11, .bool false)] ?_
 refine GL.q hK34 ?_
 refine G.no rfl ?_
 refine G.skipK hK32 (fun _ _ h => h) ?_
 refine G.region ?_
 refine GL.r 3 3 [(1, pt p3 0), (3, li 0)] ?_
 refine GL.round rfl ?_
 refine G.seqK fun K35 hK36 => ?_
 refine G.sr fun K37 hK38 => ?_
 refine GL.r 2 2 [(1, pt p3 0), (3, li 0), (5, .bool true)] ?_
 refine GL.q hK38 ?_
 refine G.yes rfl ?_
 refine G.skipK hK36 (fun _ _ h => h) ?_
 refine G.seqK fun K39 hK40 => ?_
 refine G.block ?_
 refine G.sr fun K41 hK42 => ?_
 refine GL.r 2 2 [(1, pt p3 0), (3, li 0), (9, pt p3 0)] ?_
 refine GL.s 3 (H6.ld (o := 0) (ty := 31) (v := .int .u64 65535) 0 rfl (by kernel_rfl) rfl) [(1, pt p3 0), (3, li 0), (10, lu 65535)] ?_
 refine GL.r 4 1 [(1, pt p3 0), (3, li 0), (11, .bool true)] ?_
 refine GL.q hK42 ?_
 refine G.yes rfl ?_
 refine G.sr fun K43 hK44 => ?_
 refine GL.r 4 4 [(13, li 0), (15, pt p3 0)] ?_
 refine GL.s 5 (H6.ld (o := 0) (ty := 31) (v := .int .u64 65535) 0 rfl (by kernel_rfl) rfl) [(13, li 0), (16, lu 65535)] ?_
 refine GL.call (j := 6) (Lit1_calls w4) (by kernel_rfl) rfl (fun e_ w45 hR => ?_)
 obtain ⟨rfl, H47⟩ := hR
 have H46 : Hp w [] [.blk p3 [lu 65535, lu 0, lu 0, lu 0] 33] w45 := H6.callNil H47
 refine ⟨_, rfl, [13, 17], [(13, li 0), (17, li 16)], by kernel_rfl, ?_⟩
 refine GL.r 8 2 [(2, li 16)] ?_
 refine GL.q hK44 ?_
 refine G.ret fun F_ hF_ hM_ => hRet _ _ (bodyPost_1 rfl (RV.tmp rfl) ?_ F_ hF_ hM_)
 exact ⟨rfl, H46.sub (List.nil_sublist _)⟩
theorem Lit3_calls (w : World) : Calls Try.prog 53 #[.agg #[.int .u64 65535, .int .u64 0, .int .u64 0, .int .u64 0], .int .i64 208] w fun e w' => e = .returned (.agg #[.int .u64 0, .int .u64 0, .int .u64 0, .int .u64 4294901760]) ∧ Hp w [] [] w' := by
 refine calls_G (args := [.agg #[lu 65535, lu 0, lu 0, lu 0], li 208]) Try.func53 rfl Try.ntmps53 rfl ?_
 intro Q0 hRet hNor hPan
 have H := Hp.start w
 refine G.sr fun K1 hK2 => ?_
 obtain ⟨p3, w4, r5, H6⟩ := H.box (P := Try.prog) 33 [lu 65535, lu 0, lu 0, lu 0] (.agg #[lu 65535, lu 0, lu 0, lu 0]) rfl
 refine GL.s 1 (r5) [(1, li 208), (2, pt p3 0)] ?_
 obtain ⟨p7, w8, r9, H10⟩ := H6.alloc (P := Try.prog) 33 [lu 0, lu 0, lu 0, lu 0] (by kernel_rfl)
 refine GL.s 2 (r9) [(1, li 208), (2, pt p3 0), (4, pt p7 0)] ?_
 refine GL.q hK2 ?_
 refine G.seqK fun K11 hK12 => ?_
 refine G.block ?_
 refine G.sr fun K13 hK14 => ?_
 refine GL.r 7 7 [(1, li 208), (2, pt p3 0), (4, pt p7 0), (9, .bool false)] ?_
 refine GL.q hK14 ?_
 refine G.no rfl ?_
 refine G.sr fun K15 hK16 => ?_
 refine GL.r 3 3 [(1, li 208), (2, pt p3 0), (4, pt p7 0), (17, .bool false)] ?_
 refine GL.q hK16 ?_
 refine G.no rfl ?_
 refine G.skipK hK12 (fun _ _ h => h) ?_
 refine G.sr fun K17 hK18 => ?_
 obtain ⟨p19, w20, r21, H22⟩ := H10.alloc (P := Try.prog) 33 [lu 0, lu 0, lu 0, lu 0] (by kernel_rfl)
 refine GL.s 1 (r21) [(1, li 208), (2, pt p3 0), (4, pt p7 0), (5, pt p19 0)] ?_
 refine GL.q hK18 ?_
 refine G.sr fun K23 hK24 => ?_
 refine GL.r 6 6 [(2, pt p3 0), (4, pt p7 0), (5, pt p19 0), (6, li 3), (7, li 16)] ?_
 refine GL.q hK24 ?_
 refine G.seqK fun K25 hK26 => ?_
 refine G.sr fun K27 hK28 => ?_
 refine GL.r 2 2 [(2, pt p3 0), (4, pt p7 0), (5, pt p19 0), (6, li 3), (7, li 16), (8, li 3)] ?_
 refine GL.q hK28 ?_
 refine G.block ?_
 refine G.unroll 70 ?_
 refine G.seqK fun K29 hK30 => ?_
 refine G.sr fun K31 hK32 => ?_
 refine GL.r 2 2 [(2, pt p3 0), (4, pt p7 0), (5, pt p19 0), (6, li 3), (7, li 16), (8, li 3), (30, .bool true)] ?_
 refine GL.q hK32 ?_
 refine G.yes rfl ?_
 refine G.skipK hK30 (fun _ _ h => h) ?_
 refine G.seqK fun K33 hK34 => ?_
 refine G.block ?_
 refine G.sr fun K35 hK36 => ?_
 refine GL.r 5 5 [(2, pt p3 0), (4, pt p7 0), (5, pt p19 0), (6, li 3), (7, li 16), (8, li 3), (33, li 3), (37, pt p3 0)] ?_
 refine GL.s 6 (H22.ld (o := 0) (ty := 31) (v := .int .u64 65535) 0 rfl (by kernel_rfl) rfl) [(2, pt p3 0), (4, pt p7 0), (5, pt p19 0), (6, li 3), (7, li 16), (8, li 3), (33, li 3), (38, lu 65535)] ?_
 refine GL.r 9 3 [(2, pt p3 0), (4, pt p7 0), (5, pt p19 0), (6, li 3), (7, li 16), (8, li 3), (40, lu 4294901760), (41, pt p19 3)] ?_
 obtain ⟨w37, r38, H39⟩ := H22.st (P := Try.prog) (o := 3) (ty := 31) (v := .int .u64 4294901760) 2 rfl (by kernel_rfl) (by simp) rfl
 refine GL.u 10 r38 [(2, pt p3 0), (4, pt p7 0), (5, pt p19 0), (6, li 3), (7, li 16), (8, li 3)] ?_
 refine GL.q hK36 ?_
 refine G.sr fun K40 hK41 => ?_
 refine GL.r 7 7 [(2, pt p3 0), (4, pt p7 0), (5, pt p19 0), (6, li 3), (7, li 16), (8, li 3), (48, .bool false)] ?_
 refine GL.q hK41 ?_
 refine G.no rfl ?_
 refine G.skipK hK34 (fun _ _ h => h) ?_
 refine G.region ?_
 refine GL.r 3 3 [(2, pt p3 0), (4, pt p7 0), (5, pt p19 0), (6, li 3), (7, li 16), (8, li 4)] ?_
 refine GL.round rfl ?_
 refine G.seqK fun K42 hK43 => ?_
 refine G.sr fun K44 hK45 => ?_
 refine GL.r 2 2 [(2, pt p3 0), (4, pt p7 0), (5, pt p19 0), (6, li 3), (7, li 16), (8, li 4), (30, .bool false)] ?_
 refine GL.q hK45 ?_
 refine G.no rfl ?_
 refine G.exitK hK26 (fun _ _ h => h) ?_
 refine G.sr fun K46 hK47 => ?_
 refine GL.s 1 (H39.ldA (o := 0) (ty := 33) (m := 4) (sub := [lu 0, lu 0, lu 0, lu 4294901760]) 2 rfl (by kernel_rfl) rfl rfl) [(4, pt p7 0), (63, .agg #[lu 0, lu 0, lu 0, lu 4294901760])] ?_
 obtain ⟨w48, r49, H50⟩ := H39.stA (P := Try.prog) (o := 0) (vs := [lu 0, lu 0, lu 0, lu 4294901760]) (ty := 33) (m := 4) 1 rfl (by kernel_rfl) rfl (by simp) (by simp [Value.oneCell'])
 refine GL.u 2 r49 [(4, pt p7 0)] ?_
 refine GL.q hK47 ?_
 refine G.ret fun F_ hF_ hM_ => hRet _ _ (bodyPost_1 rfl (RV.cell rfl (H50.ldA (o := 0) (ty := 33) (m := 4) (sub := [lu 0, lu 0, lu 0, lu 4294901760]) 1 rfl (by kernel_rfl) rfl rfl)) ?_ F_ hF_ hM_)
 exact ⟨rfl, H50.sub (List.nil_sublist _)⟩
theorem Lit4_calls (w : World) : Calls Try.prog 33 #[.int .u32 486604799] w fun e w' => e = .returned (.tuple #[.agg #[.int .u64 0, .int .u64 0, .int .u64 0, .int .u64 4294901760], .int .i64 0]) ∧ Hp w [] [] w' := by
 refine calls_G (args := [lw 486604799]) Try.func33 rfl Try.ntmps33 rfl ?_
 intro Q0 hRet hNor hPan
 have H := Hp.start w
 refine G.sr fun K1 hK2 => ?_
 obtain ⟨p3, w4, r5, H6⟩ := H.alloc (P := Try.prog) 33 [lu 0, lu 0, lu 0, lu 0] (by kernel_rfl)
 refine GL.s 1 (r5) [(0, lw 486604799), (2, pt p3 0)] ?_
 refine GL.r 2 1 [(0, lw 486604799), (2, pt p3 0)] ?_
 refine GL.q hK2 ?_
 refine G.sr fun K7 hK8 => ?_
 refine GL.r 6 6 [(0, lw 486604799), (2, pt p3 0), (9, li 29), (12, lu 65535)] ?_
 refine GL.call (j := 7) (Lit0_calls w4) (by kernel_rfl) rfl (fun e_ w9 hR => ?_)
 obtain ⟨rfl, H11⟩ := hR
 have H10 : Hp w [] [.blk p3 [lu 0, lu 0, lu 0, lu 0] 33] w9 := H6.callNil H11
 refine ⟨_, rfl, [0, 2, 9, 13], [(0, lw 486604799), (2, pt p3 0), (9, li 29), (13, .agg #[lu 65535, lu 0, lu 0, lu 0])], by kernel_rfl, ?_⟩
 obtain ⟨p12, w13, r14, H15⟩ := H10.alloc (P := Try.prog) 33 [lu 0, lu 0, lu 0, lu 0] (by kernel_rfl)
 refine GL.s 8 (r14) [(0, lw 486604799), (2, pt p3 0), (5, pt p12 0), (9, li 29), (13, .agg #[lu 65535, lu 0, lu 0, lu 0])] ?_
 refine GL.r 9 1 [(0, lw 486604799), (2, pt p3 0), (4, li 29), (5, pt p12 0), (13, .agg #[lu 65535, lu 0, lu 0, lu 0])] ?_
 obtain ⟨w16, r17, H18⟩ := H15.stA (P := Try.prog) (o := 0) (vs := [lu 65535, lu 0, lu 0, lu 0]) (ty := 33) (m := 4) 1 rfl (by kernel_rfl) rfl (by simp) (by simp [Value.oneCell'])
 refine GL.u 10 r17 [(0, lw 486604799), (2, pt p3 0), (4, li 29), (5, pt p12 0)] ?_
 refine GL.q hK8 ?_
 refine G.seqK fun K19 hK20 => ?_
 refine G.sr fun K21 hK22 => ?_
 refine GL.r 8 8 [(2, pt p3 0), (4, li 29), (5, pt p12 0), (21, .bool false)] ?_
 refine GL.q hK22 ?_
 refine G.no rfl ?_
 refine G.skipK hK20 (fun _ _ h => h) ?_
 refine G.seqK fun K23 hK24 => ?_
 refine G.sr fun K25 hK26 => ?_
 refine GL.r 3 3 [(2, pt p3 0), (4, li 29), (5, pt p12 0), (25, .bool true)] ?_
 refine GL.s 4 (H18.ldA (o := 0) (ty := 33) (m := 4) (sub := [lu 65535, lu 0, lu 0, lu 0]) 1 rfl (by kernel_rfl) rfl rfl) [(2, pt p3 0), (4, li 29), (5, pt p12 0), (25, .bool true), (26, .agg #[lu 65535, lu 0, lu 0, lu 0])] ?_
 refine GL.call (j := 5) (Lit2_calls w16) (by kernel_rfl) rfl (fun e_ w27 hR => ?_)
 obtain ⟨rfl, H29⟩ := hR
 have H28 : Hp w [] [.blk p3 [lu 0, lu 0, lu 0, lu 0] 33, .blk p12 [lu 65535, lu 0, lu 0, lu 0] 33] w27 := H18.callNil H29
 refine ⟨_, rfl, [2, 4, 5, 25, 27], [(2, pt p3 0), (4, li 29), (5, pt p12 0), (25, .bool true), (27, li 16)], by kernel_rfl, ?_⟩
 refine GL.r 11 6 [(2, pt p3 0), (4, li 29), (5, pt p12 0), (33, .bool false)] ?_
 refine GL.q hK26 ?_
 refine G.no rfl ?_
 refine G.skipK hK24 (fun _ _ h => h) ?_
 refine G.sr fun K30 hK31 => ?_
 refine GL.s 1 (H28.ldA (o := 0) (ty := 33) (m := 4) (sub := [lu 65535, lu 0, lu 0, lu 0]) 1 rfl (by kernel_rfl) rfl rfl) [(2, pt p3 0), (4, li 29), (35, .agg #[lu 65535, lu 0, lu 0, lu 0])] ?_
 refine GL.r 4 3 [(2, pt p3 0), (35, .agg #[lu 65535, lu 0, lu 0, lu 0]), (38, li 208)] ?_
 refine GL.call (j := 5) (Lit3_calls w27) (by kernel_rfl) rfl (fun e_ w32 hR => ?_)
 obtain ⟨rfl, H34⟩ := hR
 have H33 : Hp w [] [.blk p3 [lu 0, lu 0, lu 0, lu 0] 33, .blk p12 [lu 65535, lu 0, lu 0, lu 0] 33] w32 := H28.callNil H34
 refine ⟨_, rfl, [2, 39], [(2, pt p3 0), (39, .agg #[lu 0, lu 0, lu 0, lu 4294901760])], by kernel_rfl, ?_⟩
 obtain ⟨p35, w36, r37, H38⟩ := H33.alloc (P := Try.prog) 33 [lu 0, lu 0, lu 0, lu 0] (by kernel_rfl)
 refine GL.s 6 (r37) [(2, pt p3 0), (6, pt p35 0), (39, .agg #[lu 0, lu 0, lu 0, lu 4294901760])] ?_
 obtain ⟨w39, r40, H41⟩ := H38.stA (P := Try.prog) (o := 0) (vs := [lu 0, lu 0, lu 0, lu 4294901760]) (ty := 33) (m := 4) 2 rfl (by kernel_rfl) rfl (by simp) (by simp [Value.oneCell'])
 refine GL.u 7 r40 [(2, pt p3 0), (6, pt p35 0)] ?_
 refine GL.q hK31 ?_
 refine G.seqK fun K42 hK43 => ?_
 refine G.sr fun K44 hK45 => ?_
 refine GL.s 1 (H41.ldA (o := 0) (ty := 33) (m := 4) (sub := [lu 0, lu 0, lu 0, lu 4294901760]) 2 rfl (by kernel_rfl) rfl rfl) [(2, pt p3 0), (6, pt p35 0), (40, .agg #[lu 0, lu 0, lu 0, lu 4294901760])] ?_
 refine GL.r 2 1 [(2, pt p3 0), (6, pt p35 0), (40, .agg #[lu 0, lu 0, lu 0, lu 4294901760]), (41, .agg #[lu 0, lu 0, lu 0, lu 0])] ?_
 refine GL.s 3 (run_arr_eql (P := Try.prog) (t := 33) (n := 4) (k := .u64) (x := (.tmp 40)) (y := (.tmp 41)) (by kernel_rfl) [0, 0, 0, 4294901760] [0, 0, 0, 0] rfl rfl _) [(2, pt p3 0), (6, pt p35 0), (42, .bool false)] ?_
 refine GL.q hK45 ?_
 refine G.no rfl ?_
 refine G.skipK hK43 (fun _ _ h => h) ?_
 refine G.sr fun K46 hK47 => ?_
 refine GL.s 1 (H41.ldA (o := 0) (ty := 33) (m := 4) (sub := [lu 0, lu 0, lu 0, lu 4294901760]) 2 rfl (by kernel_rfl) rfl rfl) [(2, pt p3 0), (44, .agg #[lu 0, lu 0, lu 0, lu 4294901760])] ?_
 obtain ⟨w48, r49, H50⟩ := H41.stA (P := Try.prog) (o := 0) (vs := [lu 0, lu 0, lu 0, lu 4294901760]) (ty := 33) (m := 4) 0 rfl (by kernel_rfl) rfl (by simp) (by simp [Value.oneCell'])
 refine GL.u 2 r49 [(2, pt p3 0)] ?_
 refine GL.r 3 1 [(2, pt p3 0), (3, li 0)] ?_
 refine GL.q hK47 ?_
 refine G.ret fun F_ hF_ hM_ => hRet _ _ (bodyPost_2 rfl (RV.cell rfl (H50.ldA (o := 0) (ty := 33) (m := 4) (sub := [lu 0, lu 0, lu 0, lu 4294901760]) 0 rfl (by kernel_rfl) rfl rfl)) (RV.tmp rfl) ?_ F_ hF_ hM_)
 exact ⟨rfl, H50.sub (List.nil_sublist _)⟩
theorem Lit5_calls (w : World) : Calls Try.prog 34 #[.agg #[.int .u64 0, .int .u64 0, .int .u64 0, .int .u64 4294901760], .agg #[.int .u64 18446744073709551615, .int .u64 18446744073709551615, .int .u64 18446744073709551615, .int .u64 18446744073709551615]] w fun e w' => e = .returned (.int .i64 (-1)) ∧ Hp w [] [] w' := by
 refine calls_G (args := [.agg #[lu 0, lu 0, lu 0, lu 4294901760], .agg #[lu 18446744073709551615, lu 18446744073709551615, lu 18446744073709551615, lu 18446744073709551615]]) Try.func34 rfl Try.ntmps34 rfl ?_
 intro Q0 hRet hNor hPan
 have H := Hp.start w
 refine G.sr fun K1 hK2 => ?_
 obtain ⟨p3, w4, r5, H6⟩ := H.box (P := Try.prog) 33 [lu 0, lu 0, lu 0, lu 4294901760] (.agg #[lu 0, lu 0, lu 0, lu 4294901760]) rfl
 refine GL.s 1 (r5) [(1, .agg #[lu 18446744073709551615, lu 18446744073709551615, lu 18446744073709551615, lu 18446744073709551615]), (2, pt p3 0)] ?_
 obtain ⟨p7, w8, r9, H10⟩ := H6.box (P := Try.prog) 33 [lu 18446744073709551615, lu 18446744073709551615, lu 18446744073709551615, lu 18446744073709551615] (.agg #[lu 18446744073709551615, lu 18446744073709551615, lu 18446744073709551615, lu 18446744073709551615]) rfl
 refine GL.s 2 (r9) [(2, pt p3 0), (3, pt p7 0)] ?_
 refine GL.r 3 1 [(2, pt p3 0), (3, pt p7 0)] ?_
 refine GL.q hK2 ?_
 refine G.seqK fun K11 hK12 => ?_
 refine G.sr fun K13 hK14 => ?_
 refine GL.r 1 1 [(2, pt p3 0), (3, pt p7 0), (5, li 3)] ?_
 refine GL.q hK14 ?_
 refine G.block ?_
 refine G.unroll 70 ?_
 refine G.seqK fun K15 hK16 => ?_
 refine G.sr fun K17 hK18 => ?_
 refine GL.r 2 2 [(2, pt p3 0), (3, pt p7 0), (5, li 3), (7, .bool true)] ?_
 refine GL.q hK18 ?_
 refine G.yes rfl ?_
 refine G.skipK hK16 (fun _ _ h => h) ?_
 refine G.seqK fun K19 hK20 => ?_
 refine G.block ?_
 refine G.block ?_
 refine G.seqK fun K21 hK22 => ?_
 refine G.draw H10 (by kernel_rfl) (by kernel_rfl) ?_
 refine GQ.r 2 2 [(2, pt p3 0), (3, pt p7 0), (5, li 3), (12, pt p3 3)] ?_
 refine GQ.s 3 (fun w_ H_ => H_.ld (o := 3) (ty := 31) (v := .int .u64 4294901760) 0 rfl (by kernel_rfl) rfl) [(2, pt p3 0), (3, pt p7 0), (5, li 3), (13, lu 4294901760)] ?_
 refine GQ.r 5 2 [(2, pt p3 0), (3, pt p7 0), (5, li 3), (13, lu 4294901760), (15, pt p7 3)] ?_
 refine GQ.s 6 (fun w_ H_ => H_.ld (o := 3) (ty := 31) (v := .int .u64 18446744073709551615) 1 rfl (by kernel_rfl) rfl) [(2, pt p3 0), (3, pt p7 0), (5, li 3), (13, lu 4294901760), (16, lu 18446744073709551615)] ?_
 refine GQ.r 8 2 [(2, pt p3 0), (3, pt p7 0), (5, li 3), (10, .bool true)] ?_
 refine GQ.k rfl hK22 (fun _ _ h => h) (fun w23 H24 => ?_)
 refine G.yes rfl ?_
 refine G.sr fun K25 hK26 => ?_
 refine GL.r 1 1 [(4, li (-1))] ?_
 refine GL.q hK26 ?_
 refine G.ret fun F_ hF_ hM_ => hRet _ _ (bodyPost_1 rfl (RV.tmp rfl) ?_ F_ hF_ hM_)
 exact ⟨rfl, H24.sub (List.nil_sublist _)⟩
theorem Lit6_calls (w : World) : Calls Try.prog 34 #[.agg #[.int .u64 8265215505318339183, .int .u64 5762183848404362945, .int .u64 11243336393847676563, .int .u64 1693288], .agg #[.int .u64 0, .int .u64 0, .int .u64 0, .int .u64 4294901760]] w fun e w' => e = .returned (.int .i64 (-1)) ∧ Hp w [] [] w' := by
 refine calls_G (args := [.agg #[lu 8265215505318339183, lu 5762183848404362945, lu 11243336393847676563, lu 1693288], .agg #[lu 0, lu 0, lu 0, lu 4294901760]]) Try.func34 rfl Try.ntmps34 rfl ?_
 intro Q0 hRet hNor hPan
 have H := Hp.start w
 refine G.sr fun K1 hK2 => ?_
 obtain ⟨p3, w4, r5, H6⟩ := H.box (P := Try.prog) 33 [lu 8265215505318339183, lu 5762183848404362945, lu 11243336393847676563, lu 1693288] (.agg #[lu 8265215505318339183, lu 5762183848404362945, lu 11243336393847676563, lu 1693288]) rfl
 refine GL.s 1 (r5) [(1, .agg #[lu 0, lu 0, lu 0, lu 4294901760]), (2, pt p3 0)] ?_
 obtain ⟨p7, w8, r9, H10⟩ := H6.box (P := Try.prog) 33 [lu 0, lu 0, lu 0, lu 4294901760] (.agg #[lu 0, lu 0, lu 0, lu 4294901760]) rfl
 refine GL.s 2 (r9) [(2, pt p3 0), (3, pt p7 0)] ?_
 refine GL.r 3 1 [(2, pt p3 0), (3, pt p7 0)] ?_
 refine GL.q hK2 ?_
 refine G.seqK fun K11 hK12 => ?_
 refine G.sr fun K13 hK14 => ?_
 refine GL.r 1 1 [(2, pt p3 0), (3, pt p7 0), (5, li 3)] ?_
 refine GL.q hK14 ?_
 refine G.block ?_
 refine G.unroll 70 ?_
 refine G.seqK fun K15 hK16 => ?_
 refine G.sr fun K17 hK18 => ?_
 refine GL.r 2 2 [(2, pt p3 0), (3, pt p7 0), (5, li 3), (7, .bool true)] ?_
 refine GL.q hK18 ?_
 refine G.yes rfl ?_
 refine G.skipK hK16 (fun _ _ h => h) ?_
 refine G.seqK fun K19 hK20 => ?_
 refine G.block ?_
 refine G.block ?_
 refine G.seqK fun K21 hK22 => ?_
 refine G.draw H10 (by kernel_rfl) (by kernel_rfl) ?_
 refine GQ.r 2 2 [(2, pt p3 0), (3, pt p7 0), (5, li 3), (12, pt p3 3)] ?_
 refine GQ.s 3 (fun w_ H_ => H_.ld (o := 3) (ty := 31) (v := .int .u64 1693288) 0 rfl (by kernel_rfl) rfl) [(2, pt p3 0), (3, pt p7 0), (5, li 3), (13, lu 1693288)] ?_
 refine GQ.r 5 2 [(2, pt p3 0), (3, pt p7 0), (5, li 3), (13, lu 1693288), (15, pt p7 3)] ?_
 refine GQ.s 6 (fun w_ H_ => H_.ld (o := 3) (ty := 31) (v := .int .u64 4294901760) 1 rfl (by kernel_rfl) rfl) [(2, pt p3 0), (3, pt p7 0), (5, li 3), (13, lu 1693288), (16, lu 4294901760)] ?_
 refine GQ.r 8 2 [(2, pt p3 0), (3, pt p7 0), (5, li 3), (10, .bool true)] ?_
 refine GQ.k rfl hK22 (fun _ _ h => h) (fun w23 H24 => ?_)
 refine G.yes rfl ?_
 refine G.sr fun K25 hK26 => ?_
 refine GL.r 1 1 [(4, li (-1))] ?_
 refine GL.q hK26 ?_
 refine G.ret fun F_ hF_ hM_ => hRet _ _ (bodyPost_1 rfl (RV.tmp rfl) ?_ F_ hF_ hM_)
 exact ⟨rfl, H24.sub (List.nil_sublist _)⟩
abbrev lz6 : List Value := [lb 111, lb 226, lb 140, lb 10, lb 182, lb 241, lb 179, lb 114, lb 193, lb 166, lb 162, lb 70, lb 174, lb 99, lb 247, lb 79, lb 147, lb 30, lb 131, lb 101, lb 225, lb 90, lb 8, lb 156, lb 104, lb 214, lb 25, lb 0, lb 0, lb 0, lb 0, lb 0]
theorem Lit7_calls (w : World) : Calls Try.prog 35 #[.agg #[.int .u8 111, .int .u8 226, .int .u8 140, .int .u8 10, .int .u8 182, .int .u8 241, .int .u8 179, .int .u8 114, .int .u8 193, .int .u8 166, .int .u8 162, .int .u8 70, .int .u8 174, .int .u8 99, .int .u8 247, .int .u8 79, .int .u8 147, .int .u8 30, .int .u8 131, .int .u8 101, .int .u8 225, .int .u8 90, .int .u8 8, .int .u8 156, .int .u8 104, .int .u8 214, .int .u8 25, .int .u8 0, .int .u8 0, .int .u8 0, .int .u8 0, .int .u8 0], .agg #[.int .u64 0, .int .u64 0, .int .u64 0, .int .u64 4294901760]] w fun e w' => e = .returned (.bool true) ∧ Hp w [] [] w' := by
 refine calls_G (args := [.agg lz6.toArray, .agg #[lu 0, lu 0, lu 0, lu 4294901760]]) Try.func35 rfl Try.ntmps35 rfl ?_
 intro Q0 hRet hNor hPan
 have H := Hp.start w
 refine G.sr fun K1 hK2 => ?_
 obtain ⟨p3, w4, r5, H6⟩ := H.box (P := Try.prog) 24 lz6 (.agg lz6.toArray) rfl
 refine GL.s 1 (r5) [(1, .agg #[lu 0, lu 0, lu 0, lu 4294901760]), (2, pt p3 0)] ?_
 obtain ⟨p7, w8, r9, H10⟩ := H6.box (P := Try.prog) 33 [lu 0, lu 0, lu 0, lu 4294901760] (.agg #[lu 0, lu 0, lu 0, lu 4294901760]) rfl
 refine GL.s 2 (r9) [(2, pt p3 0), (3, pt p7 0)] ?_
 refine GL.r 3 1 [(2, pt p3 0), (3, pt p7 0)] ?_
 refine GL.q hK2 ?_
 refine G.seqK fun K11 hK12 => ?_
 refine G.heldP (Hp w [] [.blk p3 lz6 24, .blk p7 [lu 0, lu 0, lu 0, lu 4294901760] 33]) (by kernel_rfl) (by kernel_rfl) (fun c_ a_ d_ v_ w_ h_ => hPan c_ a_ d_ v_ w_ h_) ?_
 have H13 := H10.drew
 generalize ({ w8 with drawn := w8.drawn + 1 } : World) = w14 at H13 ⊢
 have hS15 : Hp w [] [.blk p3 lz6 24, .blk p7 [lu 0, lu 0, lu 0, lu 4294901760] 33] w14 := H13.sub (List.Sublist.cons_cons _ (List.Sublist.cons_cons _ (List.Sublist.slnil)))
 refine GP.s 0 (fun w_ H_ => H_.ldA (o := 0) (ty := 24) (m := 32) (sub := lz6) 0 rfl (by kernel_rfl) rfl rfl) [(3, pt p7 0), (5, .agg lz6.toArray)] hS15 ?_
 refine GP.s 2 (fun w_ H_ => H_.ldA (o := 0) (ty := 33) (m := 4) (sub := [lu 0, lu 0, lu 0, lu 4294901760]) 1 rfl (by kernel_rfl) rfl rfl) [(5, .agg lz6.toArray), (7, .agg #[lu 0, lu 0, lu 0, lu 4294901760])] hS15 ?_
 refine GP.call 1 ((by have h_ := FromX_calls ([111, 226, 140, 10, 182, 241, 179, 114, 193, 166, 162, 70, 174, 99, 247, 79, 147, 30, 131, 101, 225, 90, 8, 156, 104, 214, 25, 0, 0, 0, 0, 0] : List UInt8) rfl w14; rw [first_num] at h_; exact h_)) (by kernel_rfl) (by kernel_rfl) (fun e_ w16 hR => ?_)
 obtain ⟨rfl, H18⟩ := hR
 have H17 : Hp w [] [.blk p3 lz6 24, .blk p7 [lu 0, lu 0, lu 0, lu 4294901760] 33] w16 := H13.callNil H18
 have hS19 : Hp w [] [.blk p3 lz6 24, .blk p7 [lu 0, lu 0, lu 0, lu 4294901760] 33] w16 := H17.sub (List.Sublist.cons_cons _ (List.Sublist.cons_cons _ (List.Sublist.slnil)))
 refine ⟨_, rfl, hS19, [6, 7], [(6, .agg #[lu 8265215505318339183, lu 5762183848404362945, lu 11243336393847676563, lu 1693288]), (7, .agg #[lu 0, lu 0, lu 0, lu 4294901760])], by kernel_rfl, ?_⟩
 refine GP.call 3 (Lit6_calls w16) (by kernel_rfl) (by kernel_rfl) (fun e_ w20 hR => ?_)
 obtain ⟨rfl, H22⟩ := hR
 have H21 : Hp w [] [.blk p3 lz6 24, .blk p7 [lu 0, lu 0, lu 0, lu 4294901760] 33] w20 := H17.callNil H22
 have hS23 : Hp w [] [.blk p3 lz6 24, .blk p7 [lu 0, lu 0, lu 0, lu 4294901760] 33] w20 := H21.sub (List.Sublist.cons_cons _ (List.Sublist.cons_cons _ (List.Sublist.slnil)))
 refine ⟨_, rfl, hS23, [8], [(8, li (-1))], by kernel_rfl, ?_⟩
 refine GP.r [4, 5] [(4, .bool true)] [0, 2, 1, 3, 4, 5] hS23 ?_
 refine GP.k (by kernel_rfl) hK12 (fun _ _ h => h) ?_
 refine G.ret fun F_ hF_ hM_ => hRet _ _ (bodyPost_1 rfl (RV.tmp rfl) ?_ F_ hF_ hM_)
 exact ⟨rfl, H21.sub (List.nil_sublist _)⟩
theorem Lit8_calls (w : World) : Calls Try.prog 16 #[.agg #[.int .u64 0, .int .u64 0, .int .u64 0, .int .u64 0]] w fun e w' => e = .returned (.agg #[.int .u64 18446744073709551615, .int .u64 18446744073709551615, .int .u64 18446744073709551615, .int .u64 18446744073709551615]) ∧ Hp w [] [] w' := by
 refine calls_G (args := [.agg #[lu 0, lu 0, lu 0, lu 0]]) Try.func16 rfl Try.ntmps16 rfl ?_
 intro Q0 hRet hNor hPan
 have H := Hp.start w
 refine G.sr fun K1 hK2 => ?_
 obtain ⟨p3, w4, r5, H6⟩ := H.box (P := Try.prog) 33 [lu 0, lu 0, lu 0, lu 0] (.agg #[lu 0, lu 0, lu 0, lu 0]) rfl
 refine GL.s 1 (r5) [(1, pt p3 0)] ?_
 obtain ⟨p7, w8, r9, H10⟩ := H6.alloc (P := Try.prog) 33 [lu 0, lu 0, lu 0, lu 0] (by kernel_rfl)
 refine GL.s 2 (r9) [(1, pt p3 0), (2, pt p7 0)] ?_
 refine GL.q hK2 ?_
 refine G.seqK fun K11 hK12 => ?_
 refine G.sr fun K13 hK14 => ?_
 refine GL.r 1 1 [(1, pt p3 0), (2, pt p7 0), (4, li 0)] ?_
 refine GL.q hK14 ?_
 refine G.block ?_
 refine G.unroll 70 ?_
 refine G.sr fun K15 hK16 => ?_
 refine GL.r 1 1 [(1, pt p3 0), (2, pt p7 0), (4, li 0), (5, .bool true)] ?_
 refine GL.q hK16 ?_
 refine G.seqK fun K17 hK18 => ?_
 refine G.yes rfl ?_
 refine G.skipK hK18 (fun _ _ h => h) ?_
 refine G.seqK fun K19 hK20 => ?_
 refine G.block ?_
 refine G.sr fun K21 hK22 => ?_
 refine GL.r 2 2 [(1, pt p3 0), (2, pt p7 0), (3, li 0), (4, li 0)] ?_
 refine GL.q hK22 ?_
 refine G.region ?_
 refine GL.r 3 3 [(1, pt p3 0), (2, pt p7 0), (4, li 0), (7, li 0), (9, pt p3 0)] ?_
 refine GL.s 4 (H10.ld (o := 0) (ty := 31) (v := .int .u64 0) 0 rfl (by kernel_rfl) rfl) [(1, pt p3 0), (2, pt p7 0), (4, li 0), (7, li 0), (10, lu 0)] ?_
 refine GL.r 6 2 [(1, pt p3 0), (2, pt p7 0), (4, li 0), (11, lu 18446744073709551615), (12, pt p3 0)] ?_
 obtain ⟨w23, r24, H25⟩ := H10.st (P := Try.prog) (o := 0) (ty := 31) (v := .int .u64 18446744073709551615) 0 rfl (by kernel_rfl) (by simp) rfl
 refine GL.u 7 r24 [(1, pt p3 0), (2, pt p7 0), (4, li 0)] ?_
 refine GL.q hK20 ?_
 refine G.region ?_
 refine GL.r 2 2 [(1, pt p3 0), (2, pt p7 0), (4, li 1)] ?_
 refine GL.round rfl ?_
 refine G.sr fun K26 hK27 => ?_
 refine GL.r 1 1 [(1, pt p3 0), (2, pt p7 0), (4, li 1), (5, .bool true)] ?_
 refine GL.q hK27 ?_
 refine G.seqK fun K28 hK29 => ?_
 refine G.yes rfl ?_
 refine G.skipK hK29 (fun _ _ h => h) ?_
 refine G.seqK fun K30 hK31 => ?_
 refine G.block ?_
 refine G.sr fun K32 hK33 => ?_
 refine GL.r 2 2 [(1, pt p3 0), (2, pt p7 0), (3, li 1), (4, li 1)] ?_
 refine GL.q hK33 ?_
 refine G.region ?_
 refine GL.r 3 3 [(1, pt p3 0), (2, pt p7 0), (4, li 1), (7, li 1), (9, pt p3 1)] ?_
 refine GL.s 4 (H25.ld (o := 1) (ty := 31) (v := .int .u64 0) 0 rfl (by kernel_rfl) rfl) [(1, pt p3 0), (2, pt p7 0), (4, li 1), (7, li 1), (10, lu 0)] ?_
 refine GL.r 6 2 [(1, pt p3 0), (2, pt p7 0), (4, li 1), (11, lu 18446744073709551615), (12, pt p3 1)] ?_
 obtain ⟨w34, r35, H36⟩ := H25.st (P := Try.prog) (o := 1) (ty := 31) (v := .int .u64 18446744073709551615) 0 rfl (by kernel_rfl) (by simp) rfl
 refine GL.u 7 r35 [(1, pt p3 0), (2, pt p7 0), (4, li 1)] ?_
 refine GL.q hK31 ?_
 refine G.region ?_
 refine GL.r 2 2 [(1, pt p3 0), (2, pt p7 0), (4, li 2)] ?_
 refine GL.round rfl ?_
 refine G.sr fun K37 hK38 => ?_
 refine GL.r 1 1 [(1, pt p3 0), (2, pt p7 0), (4, li 2), (5, .bool true)] ?_
 refine GL.q hK38 ?_
 refine G.seqK fun K39 hK40 => ?_
 refine G.yes rfl ?_
 refine G.skipK hK40 (fun _ _ h => h) ?_
 refine G.seqK fun K41 hK42 => ?_
 refine G.block ?_
 refine G.sr fun K43 hK44 => ?_
 refine GL.r 2 2 [(1, pt p3 0), (2, pt p7 0), (3, li 2), (4, li 2)] ?_
 refine GL.q hK44 ?_
 refine G.region ?_
 refine GL.r 3 3 [(1, pt p3 0), (2, pt p7 0), (4, li 2), (7, li 2), (9, pt p3 2)] ?_
 refine GL.s 4 (H36.ld (o := 2) (ty := 31) (v := .int .u64 0) 0 rfl (by kernel_rfl) rfl) [(1, pt p3 0), (2, pt p7 0), (4, li 2), (7, li 2), (10, lu 0)] ?_
 refine GL.r 6 2 [(1, pt p3 0), (2, pt p7 0), (4, li 2), (11, lu 18446744073709551615), (12, pt p3 2)] ?_
 obtain ⟨w45, r46, H47⟩ := H36.st (P := Try.prog) (o := 2) (ty := 31) (v := .int .u64 18446744073709551615) 0 rfl (by kernel_rfl) (by simp) rfl
 refine GL.u 7 r46 [(1, pt p3 0), (2, pt p7 0), (4, li 2)] ?_
 refine GL.q hK42 ?_
 refine G.region ?_
 refine GL.r 2 2 [(1, pt p3 0), (2, pt p7 0), (4, li 3)] ?_
 refine GL.round rfl ?_
 refine G.sr fun K48 hK49 => ?_
 refine GL.r 1 1 [(1, pt p3 0), (2, pt p7 0), (4, li 3), (5, .bool true)] ?_
 refine GL.q hK49 ?_
 refine G.seqK fun K50 hK51 => ?_
 refine G.yes rfl ?_
 refine G.skipK hK51 (fun _ _ h => h) ?_
 refine G.seqK fun K52 hK53 => ?_
 refine G.block ?_
 refine G.sr fun K54 hK55 => ?_
 refine GL.r 2 2 [(1, pt p3 0), (2, pt p7 0), (3, li 3), (4, li 3)] ?_
 refine GL.q hK55 ?_
 refine G.region ?_
 refine GL.r 3 3 [(1, pt p3 0), (2, pt p7 0), (4, li 3), (7, li 3), (9, pt p3 3)] ?_
 refine GL.s 4 (H47.ld (o := 3) (ty := 31) (v := .int .u64 0) 0 rfl (by kernel_rfl) rfl) [(1, pt p3 0), (2, pt p7 0), (4, li 3), (7, li 3), (10, lu 0)] ?_
 refine GL.r 6 2 [(1, pt p3 0), (2, pt p7 0), (4, li 3), (11, lu 18446744073709551615), (12, pt p3 3)] ?_
 obtain ⟨w56, r57, H58⟩ := H47.st (P := Try.prog) (o := 3) (ty := 31) (v := .int .u64 18446744073709551615) 0 rfl (by kernel_rfl) (by simp) rfl
 refine GL.u 7 r57 [(1, pt p3 0), (2, pt p7 0), (4, li 3)] ?_
 refine GL.q hK53 ?_
 refine G.region ?_
 refine GL.r 2 2 [(1, pt p3 0), (2, pt p7 0), (4, li 4)] ?_
 refine GL.round rfl ?_
 refine G.sr fun K59 hK60 => ?_
 refine GL.r 1 1 [(1, pt p3 0), (2, pt p7 0), (4, li 4), (5, .bool false)] ?_
 refine GL.q hK60 ?_
 refine G.seqK fun K61 hK62 => ?_
 refine G.no rfl ?_
 refine G.exitK hK12 (fun _ _ h => h) ?_
 refine G.sr fun K63 hK64 => ?_
 refine GL.s 1 (H58.ldA (o := 0) (ty := 33) (m := 4) (sub := [lu 18446744073709551615, lu 18446744073709551615, lu 18446744073709551615, lu 18446744073709551615]) 0 rfl (by kernel_rfl) rfl rfl) [(2, pt p7 0), (14, .agg #[lu 18446744073709551615, lu 18446744073709551615, lu 18446744073709551615, lu 18446744073709551615])] ?_
 obtain ⟨w65, r66, H67⟩ := H58.stA (P := Try.prog) (o := 0) (vs := [lu 18446744073709551615, lu 18446744073709551615, lu 18446744073709551615, lu 18446744073709551615]) (ty := 33) (m := 4) 1 rfl (by kernel_rfl) rfl (by simp) (by simp [Value.oneCell'])
 refine GL.u 2 r66 [(2, pt p7 0)] ?_
 refine GL.q hK64 ?_
 refine G.ret fun F_ hF_ hM_ => hRet _ _ (bodyPost_1 rfl (RV.cell rfl (H67.ldA (o := 0) (ty := 33) (m := 4) (sub := [lu 18446744073709551615, lu 18446744073709551615, lu 18446744073709551615, lu 18446744073709551615]) 1 rfl (by kernel_rfl) rfl rfl)) ?_ F_ hF_ hM_)
 exact ⟨rfl, H67.sub (List.nil_sublist _)⟩
abbrev lz7 : List UInt8 := [0, 0, 0, 0, 0, 0, 0, 0, 0, 0, 0, 0, 0, 0, 0, 0, 0, 0, 0, 0, 0, 0, 0, 0, 0, 0, 0, 0, 0, 0, 0, 0]
abbrev lz8 : List UInt8 := [59, 163, 237, 253, 122, 123, 18, 178, 122, 199, 44, 62, 103, 118, 143, 97, 127, 200, 27, 195, 136, 138, 81, 50, 58, 159, 184, 170, 75, 30, 94, 74]
theorem Check0_calls (w : World) : Calls Try.prog 14 #[.agg (hdC 1 lz7 lz8 1231006505 486604799 2083236893).toArray, .agg #[.int .u64 18446744073709551615, .int .u64 18446744073709551615, .int .u64 18446744073709551615, .int .u64 18446744073709551615]] w fun e w' => e = .returned (.int .i64 0) ∧ Hp w [] [] w' := by
 refine calls_G (args := [.agg (hdC 1 lz7 lz8 1231006505 486604799 2083236893).toArray, .agg #[lu 18446744073709551615, lu 18446744073709551615, lu 18446744073709551615, lu 18446744073709551615]]) Try.func14 rfl Try.ntmps14 rfl ?_
 intro Q0 hRet hNor hPan
 have H := Hp.start w
 refine G.sr fun K1 hK2 => ?_
 obtain ⟨p3, w4, r5, H6⟩ := H.box (P := Try.prog) 26 (hdC 1 lz7 lz8 1231006505 486604799 2083236893) (.agg (hdC 1 lz7 lz8 1231006505 486604799 2083236893).toArray) rfl
 refine GL.s 1 (r5) [(1, .agg #[lu 18446744073709551615, lu 18446744073709551615, lu 18446744073709551615, lu 18446744073709551615]), (2, pt p3 0)] ?_
 obtain ⟨p7, w8, r9, H10⟩ := H6.box (P := Try.prog) 33 [lu 18446744073709551615, lu 18446744073709551615, lu 18446744073709551615, lu 18446744073709551615] (.agg #[lu 18446744073709551615, lu 18446744073709551615, lu 18446744073709551615, lu 18446744073709551615]) rfl
 refine GL.s 2 (r9) [(2, pt p3 0), (3, pt p7 0)] ?_
 refine GL.r 3 1 [(2, pt p3 0), (3, pt p7 0)] ?_
 refine GL.q hK2 ?_
 refine G.sr fun K11 hK12 => ?_
 refine GL.r 1 1 [(2, pt p3 0), (3, pt p7 0), (8, pt p3 66)] ?_
 refine GL.s 2 (H10.ld (o := 66) (ty := 22) (v := .int .u32 486604799) 0 rfl (by kernel_rfl) (hdC_b rfl rfl)) [(2, pt p3 0), (3, pt p7 0), (9, lw 486604799)] ?_
 refine GL.call (j := 3) (Lit4_calls w8) (by kernel_rfl) rfl (fun e_ w13 hR => ?_)
 obtain ⟨rfl, H15⟩ := hR
 have H14 : Hp w [] [.blk p3 (hdC 1 lz7 lz8 1231006505 486604799 2083236893) 26, .blk p7 [lu 18446744073709551615, lu 18446744073709551615, lu 18446744073709551615, lu 18446744073709551615] 33] w13 := H10.callNil H15
 refine ⟨_, rfl, [2, 3, 10], [(2, pt p3 0), (3, pt p7 0), (10, .tuple #[.agg #[lu 0, lu 0, lu 0, lu 4294901760], li 0])], by kernel_rfl, ?_⟩
 refine GL.r 6 3 [(2, pt p3 0), (3, pt p7 0), (11, .agg #[lu 0, lu 0, lu 0, lu 4294901760]), (12, li 0)] ?_
 obtain ⟨p16, w17, r18, H19⟩ := H14.alloc (P := Try.prog) 33 [lu 0, lu 0, lu 0, lu 0] (by kernel_rfl)
 refine GL.s 7 (r18) [(2, pt p3 0), (3, pt p7 0), (5, pt p16 0), (11, .agg #[lu 0, lu 0, lu 0, lu 4294901760]), (12, li 0)] ?_
 obtain ⟨w20, r21, H22⟩ := H19.stA (P := Try.prog) (o := 0) (vs := [lu 0, lu 0, lu 0, lu 4294901760]) (ty := 33) (m := 4) 2 rfl (by kernel_rfl) rfl (by simp) (by simp [Value.oneCell'])
 refine GL.u 8 r21 [(2, pt p3 0), (3, pt p7 0), (5, pt p16 0), (12, li 0)] ?_
 refine GL.r 9 1 [(2, pt p3 0), (3, pt p7 0), (5, pt p16 0), (6, li 0)] ?_
 refine GL.q hK12 ?_
 refine G.seqK fun K23 hK24 => ?_
 refine G.block ?_
 refine G.sr fun K25 hK26 => ?_
 refine GL.r 3 3 [(2, pt p3 0), (3, pt p7 0), (5, pt p16 0), (16, .bool false)] ?_
 refine GL.s 4 (H22.ldA (o := 0) (ty := 33) (m := 4) (sub := [lu 0, lu 0, lu 0, lu 4294901760]) 2 rfl (by kernel_rfl) rfl rfl) [(2, pt p3 0), (3, pt p7 0), (5, pt p16 0), (16, .bool false), (17, .agg #[lu 0, lu 0, lu 0, lu 4294901760])] ?_
 refine GL.s 5 (H22.ldA (o := 0) (ty := 33) (m := 4) (sub := [lu 18446744073709551615, lu 18446744073709551615, lu 18446744073709551615, lu 18446744073709551615]) 1 rfl (by kernel_rfl) rfl rfl) [(2, pt p3 0), (5, pt p16 0), (16, .bool false), (17, .agg #[lu 0, lu 0, lu 0, lu 4294901760]), (18, .agg #[lu 18446744073709551615, lu 18446744073709551615, lu 18446744073709551615, lu 18446744073709551615])] ?_
 refine GL.call (j := 6) (Lit5_calls w20) (by kernel_rfl) rfl (fun e_ w27 hR => ?_)
 obtain ⟨rfl, H29⟩ := hR
 have H28 : Hp w [] [.blk p3 (hdC 1 lz7 lz8 1231006505 486604799 2083236893) 26, .blk p7 [lu 18446744073709551615, lu 18446744073709551615, lu 18446744073709551615, lu 18446744073709551615] 33, .blk p16 [lu 0, lu 0, lu 0, lu 4294901760] 33] w27 := H22.callNil H29
 refine ⟨_, rfl, [2, 5, 16, 19], [(2, pt p3 0), (5, pt p16 0), (16, .bool false), (19, li (-1))], by kernel_rfl, ?_⟩
 refine GL.r 9 3 [(2, pt p3 0), (5, pt p16 0), (13, .bool false)] ?_
 refine GL.q hK26 ?_
 refine G.no rfl ?_
 refine G.seqK fun K30 hK31 => ?_
 refine G.heldP (Hp w [] [.blk p3 (hdC 1 lz7 lz8 1231006505 486604799 2083236893) 26, .blk p7 [lu 18446744073709551615, lu 18446744073709551615, lu 18446744073709551615, lu 18446744073709551615] 33, .blk p16 [lu 0, lu 0, lu 0, lu 4294901760] 33]) (by kernel_rfl) (by kernel_rfl) (fun c_ a_ d_ v_ w_ h_ => hPan c_ a_ d_ v_ w_ h_) ?_
 have H32 := H28.drew
 generalize ({ w27 with drawn := w27.drawn + 1 } : World) = w33 at H32 ⊢
 have hS34 : Hp w [] [.blk p3 (hdC 1 lz7 lz8 1231006505 486604799 2083236893) 26, .blk p7 [lu 18446744073709551615, lu 18446744073709551615, lu 18446744073709551615, lu 18446744073709551615] 33, .blk p16 [lu 0, lu 0, lu 0, lu 4294901760] 33] w33 := H32.sub (List.Sublist.cons_cons _ (List.Sublist.cons_cons _ (List.Sublist.cons_cons _ (List.Sublist.slnil))))
 refine GP.s 0 (fun w_ H_ => H_.ldA (o := 0) (ty := 26) (m := 68) (sub := hdC 1 lz7 lz8 1231006505 486604799 2083236893) 0 rfl (by kernel_rfl) (sub_whole (hdC_length rfl rfl)) (hdC_length rfl rfl)) [(5, pt p16 0), (23, .agg (hdC 1 lz7 lz8 1231006505 486604799 2083236893).toArray)] hS34 ?_
 refine GP.s 2 (fun w_ H_ => H_.ldA (o := 0) (ty := 33) (m := 4) (sub := [lu 0, lu 0, lu 0, lu 4294901760]) 2 rfl (by kernel_rfl) rfl rfl) [(23, .agg (hdC 1 lz7 lz8 1231006505 486604799 2083236893).toArray), (25, .agg #[lu 0, lu 0, lu 0, lu 4294901760])] hS34 ?_
 refine GP.call 1 ((by have h_ := HHash_calls 1 lz7 lz8 1231006505 486604799 2083236893 w33 rfl rfl (by decide) (by decide) (by decide) (by decide); rw [first_hash] at h_; exact h_)) (by kernel_rfl) (by kernel_rfl) (fun e_ w35 hR => ?_)
 obtain ⟨rfl, H37⟩ := hR
 have H36 : Hp w [] [.blk p3 (hdC 1 lz7 lz8 1231006505 486604799 2083236893) 26, .blk p7 [lu 18446744073709551615, lu 18446744073709551615, lu 18446744073709551615, lu 18446744073709551615] 33, .blk p16 [lu 0, lu 0, lu 0, lu 4294901760] 33] w35 := H32.callNil H37
 have hS38 : Hp w [] [.blk p3 (hdC 1 lz7 lz8 1231006505 486604799 2083236893) 26, .blk p7 [lu 18446744073709551615, lu 18446744073709551615, lu 18446744073709551615, lu 18446744073709551615] 33, .blk p16 [lu 0, lu 0, lu 0, lu 4294901760] 33] w35 := H36.sub (List.Sublist.cons_cons _ (List.Sublist.cons_cons _ (List.Sublist.cons_cons _ (List.Sublist.slnil))))
 refine ⟨_, rfl, hS38, [24, 25], [(24, .agg lz6.toArray), (25, .agg #[lu 0, lu 0, lu 0, lu 4294901760])], by kernel_rfl, ?_⟩
 refine GP.call 3 (Lit7_calls w35) (by kernel_rfl) (by kernel_rfl) (fun e_ w39 hR => ?_)
 obtain ⟨rfl, H41⟩ := hR
 have H40 : Hp w [] [.blk p3 (hdC 1 lz7 lz8 1231006505 486604799 2083236893) 26, .blk p7 [lu 18446744073709551615, lu 18446744073709551615, lu 18446744073709551615, lu 18446744073709551615] 33, .blk p16 [lu 0, lu 0, lu 0, lu 4294901760] 33] w39 := H36.callNil H41
 have hS42 : Hp w [] [.blk p3 (hdC 1 lz7 lz8 1231006505 486604799 2083236893) 26, .blk p7 [lu 18446744073709551615, lu 18446744073709551615, lu 18446744073709551615, lu 18446744073709551615] 33, .blk p16 [lu 0, lu 0, lu 0, lu 4294901760] 33] w39 := H40.sub (List.Sublist.cons_cons _ (List.Sublist.cons_cons _ (List.Sublist.cons_cons _ (List.Sublist.slnil))))
 refine ⟨_, rfl, hS42, [26], [(26, .bool true)], by kernel_rfl, ?_⟩
 refine GP.r [4, 5] [(22, .bool false)] [0, 2, 1, 3, 4, 5] hS42 ?_
 refine GP.k (by kernel_rfl) hK31 (fun _ _ h => h) ?_
 refine G.no rfl ?_
 refine G.skipK hK24 (fun _ _ h => h) ?_
 refine G.sr fun K43 hK44 => ?_
 refine GL.r 1 1 [(4, li 0)] ?_
 refine GL.q hK44 ?_
 refine G.ret fun F_ hF_ hM_ => hRet _ _ (bodyPost_1 rfl (RV.tmp rfl) ?_ F_ hF_ hM_)
 exact ⟨rfl, H40.sub (List.nil_sublist _)⟩
abbrev lz9 : List UInt8 := [48, 48, 48, 48, 48, 48, 48, 48, 48, 48, 49, 57, 100, 54, 54, 56, 57, 99, 48, 56, 53, 97, 101, 49, 54, 53, 56, 51, 49, 101, 57, 51, 52, 102, 102, 55, 54, 51, 97, 101, 52, 54, 97, 50, 97, 54, 99, 49, 55, 50, 98, 51, 102, 49, 98, 54, 48, 97, 56, 99, 101, 50, 54, 102]
abbrev lz10 : List UInt8 := [48, 48, 48, 48, 48, 48, 48, 48, 48, 48, 49, 57, 100, 54, 54, 56]
theorem lives_calls (w : World) : Calls Try.prog 7 #[] w fun e w' => e = .returned (.bool true) ∧ Hp w [] [] w' := by
 refine calls_G (args := []) Try.func7 rfl Try.ntmps7 rfl ?_
 intro Q0 hRet hNor hPan
 have H := Hp.start w
 refine G.sr fun K1 hK2 => ?_
 refine GL.r 1 1 [] ?_
 refine GL.q hK2 ?_
 refine G.sr fun K3 hK4 => ?_
 refine GL.call (j := 1) (first_calls w) (by kernel_rfl) rfl (fun e_ w5 hR => ?_)
 obtain ⟨rfl, H7⟩ := hR
 have H6 : Hp w [] [] w5 := H.callNil H7
 refine ⟨_, rfl, [2], [(2, .agg (hdC 1 lz7 lz8 1231006505 486604799 2083236893).toArray)], by kernel_rfl, ?_⟩
 refine GL.call (j := 2) ((by have h_ := HHash_calls 1 lz7 lz8 1231006505 486604799 2083236893 w5 rfl rfl (by decide) (by decide) (by decide) (by decide); rw [first_hash] at h_; exact h_)) (by kernel_rfl) rfl (fun e_ w8 hR => ?_)
 obtain ⟨rfl, H10⟩ := hR
 have H9 : Hp w [] [] w8 := H6.callNil H10
 refine ⟨_, rfl, [3], [(3, .agg lz6.toArray)], by kernel_rfl, ?_⟩
 refine GL.call (j := 3) ((by have h_ := Text_calls ([111, 226, 140, 10, 182, 241, 179, 114, 193, 166, 162, 70, 174, 99, 247, 79, 147, 30, 131, 101, 225, 90, 8, 156, 104, 214, 25, 0, 0, 0, 0, 0] : List UInt8) rfl w8; rw [first_text] at h_; exact h_)) (by kernel_rfl) rfl (fun e_ w11 hR => ?_)
 obtain ⟨rfl, H13⟩ := hR
 have H12 : Hp w [] [] w11 := H9.callNil H13
 refine ⟨_, rfl, [4], [(4, .string (strOf lz9))], by kernel_rfl, ?_⟩
 refine GL.r 4 1 [(1, .string (strOf lz9))] ?_
 refine GL.q hK4 ?_
 refine G.sr fun K14 hK15 => ?_
 refine GL.r 5 5 [(8, .bool true), (9, .string (strOf lz9))] ?_
 refine GL.s 6 (run_strHead (P := Try.prog) (t := 9) (k := .i64) (s := lz9) (h := 16) (r := lz10) (by kernel_rfl) (by decide) rfl _) [(8, .bool true), (10, .string (strOf lz10))] ?_
 refine GL.s 7 (run_str_eql (P := Try.prog) (t := 9) lz10 lz10 _) [(8, .bool true), (11, .bool true)] ?_
 refine GL.r 9 2 [(13, .bool true)] ?_
 refine GL.call (j := 10) (first_calls w11) (by kernel_rfl) rfl (fun e_ w16 hR => ?_)
 obtain ⟨rfl, H18⟩ := hR
 have H17 : Hp w [] [] w16 := H12.callNil H18
 refine ⟨_, rfl, [13, 14], [(13, .bool true), (14, .agg (hdC 1 lz7 lz8 1231006505 486604799 2083236893).toArray)], by kernel_rfl, ?_⟩
 refine GL.r 11 1 [(13, .bool true), (14, .agg (hdC 1 lz7 lz8 1231006505 486604799 2083236893).toArray), (15, .agg #[lu 0, lu 0, lu 0, lu 0])] ?_
 refine GL.call (j := 12) (Lit8_calls w16) (by kernel_rfl) rfl (fun e_ w19 hR => ?_)
 obtain ⟨rfl, H21⟩ := hR
 have H20 : Hp w [] [] w19 := H17.callNil H21
 refine ⟨_, rfl, [13, 14, 16], [(13, .bool true), (14, .agg (hdC 1 lz7 lz8 1231006505 486604799 2083236893).toArray), (16, .agg #[lu 18446744073709551615, lu 18446744073709551615, lu 18446744073709551615, lu 18446744073709551615])], by kernel_rfl, ?_⟩
 refine GL.call (j := 13) (Check0_calls w19) (by kernel_rfl) rfl (fun e_ w22 hR => ?_)
 obtain ⟨rfl, H24⟩ := hR
 have H23 : Hp w [] [] w22 := H20.callNil H24
 refine ⟨_, rfl, [13, 17], [(13, .bool true), (17, li 0)], by kernel_rfl, ?_⟩
 refine GL.r 16 3 [(0, .bool true)] ?_
 refine GL.q hK15 ?_
 refine G.ret fun F_ hF_ hM_ => hRet _ _ (bodyPost_1 rfl (RV.tmp rfl) ?_ F_ hF_ hM_)
 exact ⟨rfl, H23.sub (List.nil_sublist _)⟩
end Go.Proofs.Ytdepaaphgfapjaa
set_option maxRecDepth 100000
namespace Go.Proofs.Ytdepaaphgfapjaa
open Go.RowKit
theorem HeaderChecks_calls (v : Nat) (A R : List UInt8) (t b n : Nat) (l : Nat) (w : World) (hA : A.length = 32) (hR : R.length = 32) (hv : v < 4294967296) (ht : t < 4294967296) (hb : b < 4294967296) (hn : n < 4294967296) (hl : l < K4) : Calls Try.prog 4 #[.agg (hdC v A R t b n).toArray, wv l] w fun e w' => e = .returned (.bool true) ∧ Hp w [] [] w' := by
 have hMX : MX = 4611686018427387904 := rfl
 have hK0 : K = 18446744073709551616 := rfl
 have hK40 : K4 = 115792089237316195423570985008687907853269984665640564039457584007913129639936 := rfl
 refine calls_G (args := [.agg (hdC v A R t b n).toArray, wv l]) Try.func4 rfl Try.ntmps4 rfl ?_
 intro Q0 hRet hNor hPan
 have H := Hp.start w
 refine G.sr fun K1 hK2 => ?_
 obtain ⟨p3, w4, r5, H6⟩ := H.box (P := Try.prog) 26 (hdC v A R t b n) (.agg (hdC v A R t b n).toArray) rfl
 refine GL.s 1 (r5) [(1, wv l), (2, pt p3 0)] ?_
 obtain ⟨p7, w8, r9, H10⟩ := H6.box (P := Try.prog) 33 (wl l) (wv l) rfl
 refine GL.s 2 (r9) [(2, pt p3 0), (3, pt p7 0)] ?_
 refine GL.r 3 1 [(2, pt p3 0), (3, pt p7 0)] ?_
 refine GL.q hK2 ?_
 refine G.seqK fun K11 hK12 => ?_
 refine G.sr fun K13 hK14 => ?_
 refine GL.call (j := 1) (lives_calls w8) (by kernel_rfl) rfl (fun e_ w15 hR => ?_)
 obtain ⟨rfl, H17⟩ := hR
 have H16 : Hp w [] [.blk p3 (hdC v A R t b n) 26, .blk p7 (wl l) 33] w15 := H10.callNil H17
 refine ⟨_, rfl, [2, 3, 8], [(2, pt p3 0), (3, pt p7 0), (8, .bool true)], by kernel_rfl, ?_⟩
 refine GL.r 2 1 [(2, pt p3 0), (3, pt p7 0), (9, .bool false)] ?_
 refine GL.q hK14 ?_
 refine G.no rfl ?_
 refine G.skipK hK12 (fun _ _ h => h) ?_
 refine G.sr fun K18 hK19 => ?_
 refine GL.r 1 1 [(2, pt p3 0), (3, pt p7 0), (11, pt p3 66)] ?_
 refine GL.s 2 (H16.ld (o := 66) (ty := 22) (v := vw b) 0 rfl (by kernel_rfl) (hdC_b hA hR)) [(2, pt p3 0), (3, pt p7 0), (12, vw b)] ?_
 refine GL.call (j := 3) (Decode6_calls b hb w15) (by kernel_rfl) rfl (fun e_ w24 hR => ?_)
 obtain ⟨A20, c21, rfl, H23⟩ := hR
 have H22 : Hp w [] [.blk p3 (hdC v A R t b n) 26, .blk p7 (wl l) 33, .row A20 (ndg (refT b)) c21 31 1 (dg (digs (refT b)))] w24 := H16.callNew H23
 refine ⟨_, rfl, [2, 3, 13], [(2, pt p3 0), (3, pt p7 0), (13, .tuple #[.slice A20 (ndg (refT b)) c21, .bool (refOK b)])], by kernel_rfl, ?_⟩
 refine GL.r 8 5 [(2, pt p3 0), (3, pt p7 0), (5, .slice A20 (ndg (refT b)) c21), (6, .bool (refOK b))] ?_
 refine GL.q hK19 ?_
 refine G.sr fun K25 hK26 => ?_
 refine GL.r 1 1 [(2, pt p3 0), (3, pt p7 0), (5, .slice A20 (ndg (refT b)) c21), (6, .bool (refOK b)), (7, li 0)] ?_
 refine GL.q hK26 ?_
 refine G.seqK fun K27 hK28 => ?_
 refine G.block ?_
 refine G.sr fun K29 hK30 => ?_
 refine GL.r 3 3 [(2, pt p3 0), (3, pt p7 0), (5, .slice A20 (ndg (refT b)) c21), (7, li 0), (19, .bool (!(refOK b)))] ?_
 cases hb31 : (refOK b)
 · skip
   have hok : refOK b = false := hb31
   have hE0 := (refOK_iff b).1
   rw [hok] at hE0
   have hE : decE b ≠ 0 := of_decide_eq_false hE0.symm
   refine GL.r 10 7 [(2, pt p3 0), (3, pt p7 0), (7, li 0), (16, .bool true)] ?_
   refine GL.q hK30 ?_
   refine G.yes rfl ?_
   refine G.region ?_
   refine GL.r 1 1 [(2, pt p3 0), (3, pt p7 0), (7, li 6)] ?_
   refine GL.q hK28 ?_
   refine G.sr fun K32 hK33 => ?_
   refine GL.s 1 (H22.ldA (o := 0) (ty := 26) (m := 68) (sub := hdC v A R t b n) 0 rfl (by kernel_rfl) (sub_whole (hdC_length hA hR)) (hdC_length hA hR)) [(3, pt p7 0), (7, li 6), (31, .agg (hdC v A R t b n).toArray)] ?_
   refine GL.s 2 (H22.ldA (o := 0) (ty := 33) (m := 4) (sub := (wl l)) 1 rfl (by kernel_rfl) rfl rfl) [(7, li 6), (31, .agg (hdC v A R t b n).toArray), (32, wv l)] ?_
   refine GL.call (j := 3) (HCheck_calls v A R t b n l w24 hA hR (by omega) (by omega) (by omega) (by omega) hl) (by kernel_rfl) rfl (fun e_ w34 hR => ?_)
   obtain ⟨rfl, H36⟩ := hR
   have H35 : Hp w [] [.blk p3 (hdC v A R t b n) 26, .blk p7 (wl l) 33, .row A20 (ndg (refT b)) c21 31 1 (dg (digs (refT b)))] w34 := H22.callNil H36
   refine ⟨_, rfl, [7, 33], [(7, li 6), (33, vi (chkW v A R t b n l))], by kernel_rfl, ?_⟩
   refine GL.r 6 3 [(4, .bool ((((chkW v A R t b n l) : Nat) : Int) == 6))] ?_
   refine GL.q hK33 ?_
   refine G.ret fun F_ hF_ hM_ => hRet _ _ (bodyPost_1 rfl (RV.tmp rfl) ?_ F_ hF_ hM_)
   have hb37 : ((((chkW v A R t b n l) : Nat) : Int) == 6) = true := by rw [show chkW v A R t b n l = 6 from by unfold chkW; rw [if_pos (.inl hE)]]; rfl
   rw [hb37]
   exact ⟨rfl, H35.sub (List.nil_sublist _)⟩
 · skip
   have hok : refOK b = true := hb31
   have hE0 := (refOK_iff b).1
   rw [hok] at hE0
   have hE : decE b = 0 := of_decide_eq_true hE0.symm
   have hRT := refR_dec hE
   have nRT : ndg (refT b) ≤ 16 := by rw [← refR_dec hE]; exact ndg_K4 (decR_lt b)
   refine GL.r 4 1 [(2, pt p3 0), (3, pt p7 0), (7, li 0), (19, .bool false), (20, .slice A20 (ndg (refT b)) c21)] ?_
   refine GL.s 5 (H22.ldA (o := 0) (ty := 33) (m := 4) (sub := (wl l)) 1 rfl (by kernel_rfl) rfl rfl) [(2, pt p3 0), (3, pt p7 0), (7, li 0), (19, .bool false), (20, .slice A20 (ndg (refT b)) c21), (21, wv l)] ?_
   have hN43 : ndg l ≤ 16 := ndg_K4 hl
   refine GL.call (j := 6) (Of_calls_n l hl w24) (by kernel_rfl) rfl (fun e_ w42 hR => ?_)
   obtain ⟨A38, c39, rfl, H41⟩ := hR
   have H40 : Hp w [] [.blk p3 (hdC v A R t b n) 26, .blk p7 (wl l) 33, .row A20 (ndg (refT b)) c21 31 1 (dg (digs (refT b))), .row A38 (ndg l) c39 31 1 (dg (digs l))] w42 := H22.callNew H41
   refine ⟨_, rfl, [2, 3, 7, 19, 20, 22], [(2, pt p3 0), (3, pt p7 0), (7, li 0), (19, .bool false), (20, .slice A20 (ndg (refT b)) c21), (22, .slice A38 (ndg l) c39)], by kernel_rfl, ?_⟩
   refine GL.call (j := 7) (CmpN_calls (refT b) l A20 A38 c21 c39 w42 (H40.rdRow 2 rfl) (H40.rdRow 3 rfl) (Nat.le_trans nRT (by decide)) (Nat.le_trans hN43 (by decide))) (by kernel_rfl) rfl (fun e_ w44 hR => ?_)
   obtain ⟨rfl, H46⟩ := hR
   have H45 : Hp w [] [.blk p3 (hdC v A R t b n) 26, .blk p7 (wl l) 33, .row A20 (ndg (refT b)) c21 31 1 (dg (digs (refT b))), .row A38 (ndg l) c39 31 1 (dg (digs l))] w44 := H40.callNil H46
   refine ⟨_, rfl, [2, 3, 7, 19, 23], [(2, pt p3 0), (3, pt p7 0), (7, li 0), (19, .bool false), (23, li (cmpN (refT b) l))], by kernel_rfl, ?_⟩
   refine GL.r 10 3 [(2, pt p3 0), (3, pt p7 0), (7, li 0), (16, .bool (decide (0 < (cmpN (refT b) l))))] ?_
   refine GL.q hK30 ?_
   cases hb47 : (decide (0 < (cmpN (refT b) l)))
   · skip
     have hb47f := of_decide_eq_false hb47
     have hcm : ¬ l < refT b := fun h => hb47f (cmp_gt0.2 h)
     rw [← hRT] at hcm
     refine G.no rfl ?_
     refine G.sr fun K48 hK49 => ?_
     refine GL.s 1 (H45.ldA (o := 0) (ty := 26) (m := 68) (sub := hdC v A R t b n) 0 rfl (by kernel_rfl) (sub_whole (hdC_length hA hR)) (hdC_length hA hR)) [(2, pt p3 0), (3, pt p7 0), (7, li 0), (27, .agg (hdC v A R t b n).toArray)] ?_
     refine GL.call (j := 2) (Ref_calls v A R t b n w44 hA hR (by omega) (by omega) (by omega) (by omega)) (by kernel_rfl) rfl (fun e_ w52 hR => ?_)
     obtain ⟨A50, c51, rfl, H54⟩ := hR
     have H53 : Hp w [] [.blk p3 (hdC v A R t b n) 26, .blk p7 (wl l) 33, .row A20 (ndg (refT b)) c21 31 1 (dg (digs (refT b))), .row A38 (ndg l) c39 31 1 (dg (digs l)), .row A50 80 c51 5 1 (by8 (hdB v A R t b n))] w52 := H45.callNew H54
     refine ⟨_, rfl, [2, 3, 7, 28], [(2, pt p3 0), (3, pt p7 0), (7, li 0), (28, .slice A50 80 c51)], by kernel_rfl, ?_⟩
     refine GL.call (j := 3) (RMeets_calls v A R t b n A50 c51 w52 hA hR (by omega) (by omega) (by omega) (by omega) (H53.rdRow 4 rfl) ((H53.rowLe 4 rfl).1)) (by kernel_rfl) rfl (fun e_ w55 hR => ?_)
     obtain ⟨rfl, H57⟩ := hR
     have H56 : Hp w [] [.blk p3 (hdC v A R t b n) 26, .blk p7 (wl l) 33, .row A20 (ndg (refT b)) c21 31 1 (dg (digs (refT b))), .row A38 (ndg l) c39 31 1 (dg (digs l)), .row A50 80 c51 5 1 (by8 (hdB v A R t b n))] w55 := H53.callNil H57
     refine ⟨_, rfl, [2, 3, 7, 29], [(2, pt p3 0), (3, pt p7 0), (7, li 0), (29, .bool (rmB v A R t b n))], by kernel_rfl, ?_⟩
     refine GL.r 5 2 [(2, pt p3 0), (3, pt p7 0), (7, li 0), (26, .bool (!(rmB v A R t b n)))] ?_
     refine GL.q hK49 ?_
     cases hb58 : (rmB v A R t b n)
     · skip
       have hme : rmB v A R t b n = false := hb58
       refine G.yes rfl ?_
       refine G.region ?_
       refine GL.r 1 1 [(2, pt p3 0), (3, pt p7 0), (7, li 7)] ?_
       refine GL.q hK28 ?_
       refine G.sr fun K59 hK60 => ?_
       refine GL.s 1 (H56.ldA (o := 0) (ty := 26) (m := 68) (sub := hdC v A R t b n) 0 rfl (by kernel_rfl) (sub_whole (hdC_length hA hR)) (hdC_length hA hR)) [(3, pt p7 0), (7, li 7), (31, .agg (hdC v A R t b n).toArray)] ?_
       refine GL.s 2 (H56.ldA (o := 0) (ty := 33) (m := 4) (sub := (wl l)) 1 rfl (by kernel_rfl) rfl rfl) [(7, li 7), (31, .agg (hdC v A R t b n).toArray), (32, wv l)] ?_
       refine GL.call (j := 3) (HCheck_calls v A R t b n l w55 hA hR (by omega) (by omega) (by omega) (by omega) hl) (by kernel_rfl) rfl (fun e_ w61 hR => ?_)
       obtain ⟨rfl, H63⟩ := hR
       have H62 : Hp w [] [.blk p3 (hdC v A R t b n) 26, .blk p7 (wl l) 33, .row A20 (ndg (refT b)) c21 31 1 (dg (digs (refT b))), .row A38 (ndg l) c39 31 1 (dg (digs l)), .row A50 80 c51 5 1 (by8 (hdB v A R t b n))] w61 := H56.callNil H63
       refine ⟨_, rfl, [7, 33], [(7, li 7), (33, vi (chkW v A R t b n l))], by kernel_rfl, ?_⟩
       refine GL.r 6 3 [(4, .bool ((((chkW v A R t b n l) : Nat) : Int) == 7))] ?_
       refine GL.q hK60 ?_
       refine G.ret fun F_ hF_ hM_ => hRet _ _ (bodyPost_1 rfl (RV.tmp rfl) ?_ F_ hF_ hM_)
       have hb64 : ((((chkW v A R t b n l) : Nat) : Int) == 7) = true := by rw [show chkW v A R t b n l = 7 from by unfold chkW; rw [if_neg (by omega), if_neg (fun h_ => by rw [rm_of hE h_] at hme; cases hme)]]; rfl
       rw [hb64]
       exact ⟨rfl, H62.sub (List.nil_sublist _)⟩
     · skip
       have hme : rmB v A R t b n = true := hb58
       refine G.no rfl ?_
       refine G.skipK hK28 (fun _ _ h => h) ?_
       refine G.sr fun K65 hK66 => ?_
       refine GL.s 1 (H56.ldA (o := 0) (ty := 26) (m := 68) (sub := hdC v A R t b n) 0 rfl (by kernel_rfl) (sub_whole (hdC_length hA hR)) (hdC_length hA hR)) [(3, pt p7 0), (7, li 0), (31, .agg (hdC v A R t b n).toArray)] ?_
       refine GL.s 2 (H56.ldA (o := 0) (ty := 33) (m := 4) (sub := (wl l)) 1 rfl (by kernel_rfl) rfl rfl) [(7, li 0), (31, .agg (hdC v A R t b n).toArray), (32, wv l)] ?_
       refine GL.call (j := 3) (HCheck_calls v A R t b n l w55 hA hR (by omega) (by omega) (by omega) (by omega) hl) (by kernel_rfl) rfl (fun e_ w67 hR => ?_)
       obtain ⟨rfl, H69⟩ := hR
       have H68 : Hp w [] [.blk p3 (hdC v A R t b n) 26, .blk p7 (wl l) 33, .row A20 (ndg (refT b)) c21 31 1 (dg (digs (refT b))), .row A38 (ndg l) c39 31 1 (dg (digs l)), .row A50 80 c51 5 1 (by8 (hdB v A R t b n))] w67 := H56.callNil H69
       refine ⟨_, rfl, [7, 33], [(7, li 0), (33, vi (chkW v A R t b n l))], by kernel_rfl, ?_⟩
       refine GL.r 6 3 [(4, .bool ((((chkW v A R t b n l) : Nat) : Int) == 0))] ?_
       refine GL.q hK66 ?_
       refine G.ret fun F_ hF_ hM_ => hRet _ _ (bodyPost_1 rfl (RV.tmp rfl) ?_ F_ hF_ hM_)
       have hb70 : ((((chkW v A R t b n l) : Nat) : Int) == 0) = true := by rw [show chkW v A R t b n l = 0 from by unfold chkW; rw [if_neg (by omega), if_pos (rm_true hme).2]]; rfl
       rw [hb70]
       exact ⟨rfl, H68.sub (List.nil_sublist _)⟩
   · skip
     have hb47f := of_decide_eq_true hb47
     have hcm : l < refT b := cmp_gt0.1 hb47f
     rw [← hRT] at hcm
     have hlt : l < decR b := hcm
     refine G.yes rfl ?_
     refine G.region ?_
     refine GL.r 1 1 [(2, pt p3 0), (3, pt p7 0), (7, li 6)] ?_
     refine GL.q hK28 ?_
     refine G.sr fun K71 hK72 => ?_
     refine GL.s 1 (H45.ldA (o := 0) (ty := 26) (m := 68) (sub := hdC v A R t b n) 0 rfl (by kernel_rfl) (sub_whole (hdC_length hA hR)) (hdC_length hA hR)) [(3, pt p7 0), (7, li 6), (31, .agg (hdC v A R t b n).toArray)] ?_
     refine GL.s 2 (H45.ldA (o := 0) (ty := 33) (m := 4) (sub := (wl l)) 1 rfl (by kernel_rfl) rfl rfl) [(7, li 6), (31, .agg (hdC v A R t b n).toArray), (32, wv l)] ?_
     refine GL.call (j := 3) (HCheck_calls v A R t b n l w44 hA hR (by omega) (by omega) (by omega) (by omega) hl) (by kernel_rfl) rfl (fun e_ w73 hR => ?_)
     obtain ⟨rfl, H75⟩ := hR
     have H74 : Hp w [] [.blk p3 (hdC v A R t b n) 26, .blk p7 (wl l) 33, .row A20 (ndg (refT b)) c21 31 1 (dg (digs (refT b))), .row A38 (ndg l) c39 31 1 (dg (digs l))] w73 := H45.callNil H75
     refine ⟨_, rfl, [7, 33], [(7, li 6), (33, vi (chkW v A R t b n l))], by kernel_rfl, ?_⟩
     refine GL.r 6 3 [(4, .bool ((((chkW v A R t b n l) : Nat) : Int) == 6))] ?_
     refine GL.q hK72 ?_
     refine G.ret fun F_ hF_ hM_ => hRet _ _ (bodyPost_1 rfl (RV.tmp rfl) ?_ F_ hF_ hM_)
     have hb76 : ((((chkW v A R t b n l) : Nat) : Int) == 6) = true := by rw [show chkW v A R t b n l = 6 from by unfold chkW; rw [if_pos (.inr hlt)]]; rfl
     rw [hb76]
     exact ⟨rfl, H74.sub (List.nil_sublist _)⟩
end Go.Proofs.Ytdepaaphgfapjaa
namespace Go.Proofs.Ytdepaaphgfapjaa
open Go.ChangeShapes Go.WideShapes Go.ChangeAt Go.RowKit
open Go.ChangeMaps (open_string shut_string)
set_option linter.unusedVariables false
theorem headerChecks_own : ownKnob Try.prog.godebug = none := by kernel_rfl
theorem headerChecks_laidOut : laidOutB Try.prog = true := by kernel_rfl
set_option maxRecDepth 100000 in
theorem headerChecks_lifted (os : Os) (started : os.Started) (H : Type) (enc : TypeId × Value → H) :
   ReturnsInHanded {} Try.checked os 4 .any (Rows.headerChecksSpec.pre6 enc Try.prog Try.f4 Rows.headerChecksRow.domain false) (Rows.headerChecksSpec.post enc Try.prog Try.f4 false true false false) := by
 refine returnsInHanded_of_change (C := Try.checked) headerChecks_own started (by kernel_rfl) Try.func4
   (ChangeSpec.witness6 (enc := enc) (C := Try.checked) false ⟨#[], #[.agg #[.int .u32 0, .int .u8 0, .int .u8 0, .int .u8 0, .int .u8 0, .int .u8 0, .int .u8 0, .int .u8 0, .int .u8 0, .int .u8 0, .int .u8 0, .int .u8 0, .int .u8 0, .int .u8 0, .int .u8 0, .int .u8 0, .int .u8 0, .int .u8 0, .int .u8 0, .int .u8 0, .int .u8 0, .int .u8 0, .int .u8 0, .int .u8 0, .int .u8 0, .int .u8 0, .int .u8 0, .int .u8 0, .int .u8 0, .int .u8 0, .int .u8 0, .int .u8 0, .int .u8 0, .int .u8 0, .int .u8 0, .int .u8 0, .int .u8 0, .int .u8 0, .int .u8 0, .int .u8 0, .int .u8 0, .int .u8 0, .int .u8 0, .int .u8 0, .int .u8 0, .int .u8 0, .int .u8 0, .int .u8 0, .int .u8 0, .int .u8 0, .int .u8 0, .int .u8 0, .int .u8 0, .int .u8 0, .int .u8 0, .int .u8 0, .int .u8 0, .int .u8 0, .int .u8 0, .int .u8 0, .int .u8 0, .int .u8 0, .int .u8 0, .int .u8 0, .int .u8 0, .int .u32 0, .int .u32 0, .int .u32 0], .agg #[.int .u64 0, .int .u64 0, .int .u64 0, .int .u64 0]], []⟩ 12 (by kernel_rfl) (by kernel_rfl) (by kernel_rfl) (by kernel_rfl)) ?_
 intro W base args ds gs before hval0 hW hcnd _
 have hval : ∀ (j : Nat) t v, Try.f4.params[j]? = some t → args[j]? = some v → Value.okWide Try.prog W .any base t v := hval0
 have hW' := hW
 obtain ⟨p, q, hA0, hV, rfl, hfz, hnd⟩ := hW
 have hA : DataW.TrodAll enc Try.prog W 0 (fun _ => true) true Try.f4.params.toList args.toList ds p := hA0
 rw [Try.params4] at hA hval
 obtain ⟨v0, vs0, d0, ds0, p0, q0, hargs, rfl, rfl, h0, r0⟩ := trodAll_cons hA
 obtain ⟨v1, vs1, d1, ds1, p1, q1, rfl, rfl, rfl, h1, r1⟩ := trodAll_cons r0
 obtain ⟨rfl, rfl, rfl⟩ := trodAll_nil r1
 obtain rfl : args = #[v0, v1] := by cases args; simp_all
 obtain ⟨rfl, rfl⟩ := trodVars_none hV
 have k0 := h0
 have lt0 : ∀ x ∈ p0, x.block < W.heap.size := by obtain ⟨m, hm⟩ := k0; exact DataW.trod_lt m _ _ _ hm
 have k1 := h1
 have lt1 : ∀ x ∈ p1, x.block < W.heap.size := by obtain ⟨m, hm⟩ := k1; exact DataW.trod_lt m _ _ _ hm
 obtain ⟨cs0, rfl, hl0⟩ := open_agg (by kernel_rfl) (show Try.prog.cellsOf 26 = 68 by kernel_rfl) (hval 0 26 _ rfl rfl)
 obtain ⟨fu0, hf0⟩ := h0
 have lv0 := open_leaves 2 (by rw [List.toList_toArray] at *; exact hl0.trans (show Try.prog.cellsOf 26 = 68 by kernel_rfl).symm) (by kernel_rfl) hf0 (ls := [(0, 22), (1, 5), (2, 5), (3, 5), (4, 5), (5, 5), (6, 5), (7, 5), (8, 5), (9, 5), (10, 5), (11, 5), (12, 5), (13, 5), (14, 5), (15, 5), (16, 5), (17, 5), (18, 5), (19, 5), (20, 5), (21, 5), (22, 5), (23, 5), (24, 5), (25, 5), (26, 5), (27, 5), (28, 5), (29, 5), (30, 5), (31, 5), (32, 5), (33, 5), (34, 5), (35, 5), (36, 5), (37, 5), (38, 5), (39, 5), (40, 5), (41, 5), (42, 5), (43, 5), (44, 5), (45, 5), (46, 5), (47, 5), (48, 5), (49, 5), (50, 5), (51, 5), (52, 5), (53, 5), (54, 5), (55, 5), (56, 5), (57, 5), (58, 5), (59, 5), (60, 5), (61, 5), (62, 5), (63, 5), (64, 5), (65, 22), (66, 22), (67, 22)]) (by kernel_rfl)
 obtain ⟨v_0, g0_0, hv_0⟩ := (lv0 (0, 22) (by simp)).u32 Try.underlying22
 obtain ⟨t_0, g65_0, ht_0⟩ := (lv0 (65, 22) (by simp)).u32 Try.underlying22
 obtain ⟨b_0, g66_0, hb_0⟩ := (lv0 (66, 22) (by simp)).u32 Try.underlying22
 obtain ⟨n_0, g67_0, hn_0⟩ := (lv0 (67, 22) (by simp)).u32 Try.underlying22
 obtain ⟨f_0, hf_0⟩ := u8s_fun (cs := _) 1 32 (fun i hi => (lv0 (1 + i, 5) (by first | (simp; omega) | (revert i; decide))).u8 Try.underlying5)
 obtain ⟨g_0, hg_0⟩ := u8s_fun (cs := _) 33 32 (fun i hi => (lv0 (33 + i, 5) (by first | (simp; omega) | (revert i; decide))).u8 Try.underlying5)
 obtain rfl := open_head hl0 g0_0 hf_0 hg_0 g65_0 g66_0 g67_0
 obtain ⟨cs1, rfl, hl1⟩ := open_agg (by kernel_rfl) (show Try.prog.cellsOf 33 = 4 by kernel_rfl) (hval 1 33 _ rfl rfl)
 obtain ⟨fu1, hf1⟩ := h1
 have lv1 := open_leaves 1 (by rw [List.toList_toArray] at *; exact hl1.trans (show Try.prog.cellsOf 33 = 4 by kernel_rfl).symm) (by kernel_rfl) hf1 (ls := (List.range 4).map fun i => (i, 31)) (by kernel_rfl)
 obtain ⟨x1, hx1, rfl⟩ := words_of hl1 (fun i hi => (lv1 (i, 31) (by simpa using hi)).u64 Try.underlying31)
 clear hA0 hval0
 refine (HeaderChecks_calls v_0 ((List.range 32).map f_0) ((List.range 32).map g_0) t_0 b_0 n_0 x1 W (by simp) (by simp) hv_0 ht_0 hb_0 hn_0 hx1).mono fun e W' ⟨he, hh⟩ => ?_
 have bel := hh.below
 subst he
 exact ⟨_, rfl, _, _, _, [], _, [], hW', trodAll_mk1 (shut_bool Try.underlying4 _), (trodAll_cons_mk (Below.trod headerChecks_laidOut (by kernel_rfl) (of_decide_eq_true (by kernel_rfl)) k0 bel lt0) (trodAll_cons_mk (Below.trod headerChecks_laidOut (by kernel_rfl) (of_decide_eq_true (by kernel_rfl)) k1 bel lt1) trodAll_mk0)), rfl, bel.frame _, fun h => by cases h⟩
theorem headerChecks_over : Rows.headerChecksRow.holds Try.pinned (OpenSpec.ofChange Rows.headerChecksSpec) :=
 OpenClaim.holds_of_wide 4 Try.f4 rfl rfl rfl rfl rfl rfl rfl ⟨rfl, rfl, rfl, rfl, rfl⟩ rfl rfl rfl rfl rfl (by kernel_rfl) Try.func4 (by kernel_rfl)
   (of_decide_eq_true (by kernel_rfl)) (by unfold Func.isWrapper; first | (rw [if_pos (by decide +kernel)]; kernel_rfl) | (rw [if_neg (by decide +kernel)]; exact ⟨rfl, rfl⟩))
   (fun os started H enc _ => headerChecks_lifted os started H enc)
theorem headerChecks_proved : Rows.HeaderChecksSaid := headerChecks_over
end Go.Proofs.Ytdepaaphgfapjaa
