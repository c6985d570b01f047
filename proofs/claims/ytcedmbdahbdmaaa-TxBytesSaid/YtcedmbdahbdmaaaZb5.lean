/- Part 5 of what txBytes_proved stands on. -/
import Derived.Test.YtcedmbdahbdmaaaZb4
set_option linter.unusedVariables false
set_option maxRecDepth 100000
namespace Go.Proofs.Ytcedmbdahbdmaaa
open Go.RowKit
theorem RefDouble_calls (A : Option Addr) (n c : Nat) (b : List UInt8) (w : World) (hx : RdS w A (by8 b)) (hn : n = b.length) (hb : b.length ≤ 1000000) : Calls Try.prog 24 #[.slice A n c] w fun e w' => e = .returned (.agg (by8 (sha (sha b))).toArray) ∧ Hp w [] [] w' := by
 subst hn
 refine calls_G (args := [.slice A b.length c]) Try.func24 rfl Try.ntmps24 rfl ?_
 intro Q0 hRet hNor hPan
 have H := Hp.start w
 refine G.sr fun K1 hK2 => ?_
 obtain ⟨p3, w4, r5, H6⟩ := H.alloc (P := Try.prog) 50 (by8 (bsP (fun _ => 0) 32 0)) (by kernel_rfl)
 refine GL.s 1 (r5) [(0, .slice A b.length c), (2, pt p3 0)] ?_
 refine GL.q hK2 ?_
 refine G.sr fun K7 hK8 => ?_
 refine GL.r 1 1 [(2, pt p3 0), (4, .slice A b.length c)] ?_
 refine GL.call (j := 2) (RefSum_calls A b.length c b w4 (hx.hp H6) (rfl) (by omega)) (by kernel_rfl) rfl (fun e_ w9 hR => ?_)
 obtain ⟨rfl, H11⟩ := hR
 have H10 : Hp w [] [.blk p3 (by8 (bsP (fun _ => 0) 32 0)) 50] w9 := H6.callNil H11
 refine ⟨_, rfl, [2, 5], [(2, pt p3 0), (5, .agg (by8 (sha b)).toArray)], by kernel_rfl, ?_⟩
 obtain ⟨p12, w13, r14, H15⟩ := H10.alloc (P := Try.prog) 50 (by8 (bsP (fun _ => 0) 32 0)) (by kernel_rfl)
 refine GL.s 3 (r14) [(2, pt p3 0), (3, pt p12 0), (5, .agg (by8 (sha b)).toArray)] ?_
 obtain ⟨w16, r17, H18⟩ := H15.stA (P := Try.prog) (o := 0) (vs := by8 (sha b)) (ty := 50) (m := 32) 1 rfl (by kernel_rfl) (by rw [by8_length, sha_length]) (Nat.le_of_eq (by rw [Nat.zero_add]; exact ((show (by8 (bsP (fun _ => 0) 32 0)).length = 32 from by rw [by8_length, bsP_length (by omega)])).symm)) (by8_one _)
 rw [st_whole (by rw [by8_length, bsP_length (by omega)])] at H18
 refine GL.u 4 r17 [(2, pt p3 0), (3, pt p12 0)] ?_
 refine GL.q hK8 ?_
 refine G.sr fun K19 hK20 => ?_
 refine GL.r 1 1 [(2, pt p3 0), (6, .slice (some ⟨p12, 0, none⟩) 32 32)] ?_
 refine GL.call (j := 2) (RefSum_calls (some ⟨p12, 0, none⟩) 32 32 (sha b) w16 (H18.rdBlk (o := 0) (xs := by8 (sha b)) 1 32 rfl (sub_whole (by rw [by8_length, sha_length]))) ((sha_length _).symm) (by rw [sha_length]; decide)) (by kernel_rfl) rfl (fun e_ w21 hR => ?_)
 obtain ⟨rfl, H23⟩ := hR
 have H22 : Hp w [] [.blk p3 (by8 (bsP (fun _ => 0) 32 0)) 50, .blk p12 (by8 (sha b)) 50] w21 := H18.callNil H23
 refine ⟨_, rfl, [2, 7], [(2, pt p3 0), (7, .agg (by8 (sha (sha b))).toArray)], by kernel_rfl, ?_⟩
 obtain ⟨w24, r25, H26⟩ := H22.stA (P := Try.prog) (o := 0) (vs := by8 (sha (sha b))) (ty := 50) (m := 32) 0 rfl (by kernel_rfl) (by rw [by8_length, sha_length]) (Nat.le_of_eq (by rw [Nat.zero_add]; exact ((show (by8 (bsP (fun _ => 0) 32 0)).length = 32 from by rw [by8_length, bsP_length (by omega)])).symm)) (by8_one _)
 rw [st_whole (by rw [by8_length, bsP_length (by omega)])] at H26
 refine GL.u 3 r25 [(2, pt p3 0)] ?_
 refine GL.q hK20 ?_
 refine G.ret fun F_ hF_ hM_ => hRet _ _ (bodyPost_1 rfl (RV.cell rfl (H26.ldA (o := 0) (ty := 50) (m := 32) (sub := by8 (sha (sha b))) 0 rfl (by kernel_rfl) (sub_whole (by rw [by8_length, sha_length])) (by rw [by8_length, sha_length]))) ?_ F_ hF_ hM_)
 exact ⟨rfl, H26.sub (List.nil_sublist _)⟩
end Go.Proofs.Ytcedmbdahbdmaaa
set_option maxRecDepth 100000
namespace Go.Proofs.Ytcedmbdahbdmaaa
open Go.RowKit
theorem Zero_calls (X : List UInt8) (hX : X.length = 32) (w : World) : Calls Try.prog 23 #[.agg (by8 X).toArray] w fun e w' => e = .returned (.bool (decide (X = (List.replicate 32 0)))) ∧ Hp w [] [] w' := by
 refine calls_G (args := [.agg (by8 X).toArray]) Try.func23 rfl Try.ntmps23 rfl ?_
 intro Q0 hRet hNor hPan
 have H := Hp.start w
 refine G.sr fun K1 hK2 => ?_
 obtain ⟨p3, w4, r5, H6⟩ := H.box (P := Try.prog) 51 (by8 X) (.agg (by8 X).toArray) rfl
 refine GL.s 1 (r5) [(1, pt p3 0)] ?_
 refine GL.r 2 1 [(1, pt p3 0)] ?_
 refine GL.q hK2 ?_
 refine G.sr fun K7 hK8 => ?_
 refine GL.s 1 (H6.ldA (o := 0) (ty := 51) (m := 32) (sub := by8 X) 0 rfl (by kernel_rfl) (sub_whole (by rw [by8_length, hX])) (by rw [by8_length, hX])) [(3, .agg (by8 X).toArray)] ?_
 refine GL.r 2 1 [(3, .agg (by8 X).toArray), (4, .agg (by8 (List.replicate 32 0)).toArray)] ?_
 refine GL.s 3 (run_by8_eql (P := Try.prog) (t := 51) (n := 32) (x := (.tmp 3)) (y := (.tmp 4)) (by kernel_rfl) X (List.replicate 32 0) (by rw [hX]) (by rw [List.length_replicate]) _) [(5, .bool (decide (X = (List.replicate 32 0))))] ?_
 refine GL.r 4 1 [(2, .bool (decide (X = (List.replicate 32 0))))] ?_
 refine GL.q hK8 ?_
 refine G.ret fun F_ hF_ hM_ => hRet _ _ (bodyPost_1 rfl (RV.tmp rfl) ?_ F_ hF_ hM_)
 exact ⟨rfl, H6.sub (List.nil_sublist _)⟩
def txH (v : Nat) (ins : List TIn) (outs : List TOut) (lt : Nat) : List UInt8 := if txE v ins outs lt = 0 then sha (sha (txO v ins outs lt)) else List.replicate 32 0
theorem txH_length (v : Nat) (ins : List TIn) (outs : List TOut) (lt : Nat) : (txH v ins outs lt).length = 32 := by
 unfold txH
 split
 · exact sha_length _
 · rfl
theorem txO_le (v : Nat) (ins : List TIn) (outs : List TOut) (lt : Nat) : (txO v ins outs lt).length ≤ 4096 := by
 unfold txO txE
 repeat' split
 all_goals first | (simp; done) | omega
theorem THash_calls (v : Nat) (ins : List TIn) (A : Option Addr) (ca : Nat) (outs : List TOut) (B : Option Addr) (cb : Nat) (lt : Nat) (w : World) (hv : v < 4294967296) (hlt : lt < 4294967296) (hIns : RdS w A (insC ins)) (hI : ∀ x ∈ ins, x.Ok w []) (hOuts : RdS w B (outsC outs)) (hO : ∀ x ∈ outs, x.Ok w []) (hni : ins.length ≤ maxLen) (hno : outs.length ≤ maxLen) : Calls Try.prog 22 #[.agg #[.int .u32 (v : Int), .slice A ins.length ca, .slice B outs.length cb, .int .u32 (lt : Int)]] w fun e w' => e = .returned (.tuple #[.agg (by8 (txH v ins outs lt)).toArray, .int .i64 ((txE v ins outs lt : Nat) : Int)]) ∧ Hp w [] [] w' := by
 have hni_ : ins.length ≤ 9223372036854775807 := hni
 have hno_ : outs.length ≤ 9223372036854775807 := hno
 refine calls_G (args := [.agg #[vw v, .slice A ins.length ca, .slice B outs.length cb, vw lt]]) Try.func22 rfl Try.ntmps22 rfl ?_
 intro Q0 hRet hNor hPan
 have H := Hp.start w
 refine G.sr fun K1 hK2 => ?_
 obtain ⟨p3, w4, r5, H6⟩ := H.box (P := Try.prog) 26 [vw v, .slice A ins.length ca, .slice B outs.length cb, vw lt] (.agg #[vw v, .slice A ins.length ca, .slice B outs.length cb, vw lt]) rfl
 refine GL.s 1 (r5) [(1, pt p3 0)] ?_
 obtain ⟨p7, w8, r9, H10⟩ := H6.alloc (P := Try.prog) 51 (by8 (List.replicate 32 0)) (by kernel_rfl)
 refine GL.s 2 (r9) [(1, pt p3 0), (2, pt p7 0)] ?_
 refine GL.r 3 1 [(1, pt p3 0), (2, pt p7 0)] ?_
 refine GL.q hK2 ?_
 refine G.sr fun K11 hK12 => ?_
 refine GL.s 1 (H10.ldA (o := 0) (ty := 26) (m := 4) (sub := [vw v, .slice A ins.length ca, .slice B outs.length cb, vw lt]) 0 rfl (by kernel_rfl) rfl rfl) [(2, pt p7 0), (7, .agg #[vw v, .slice A ins.length ca, .slice B outs.length cb, vw lt])] ?_
 refine GL.call (j := 2) (TBytes_calls v ins A ca outs B cb lt w8 hv hlt (hIns.hp H10) (oks_mid hI H10) (hOuts.hp H10) (oksO_mid hO H10) hni hno) (by kernel_rfl) rfl (fun e_ w16 hR => ?_)
 obtain ⟨A13, n14, c15, rfl, H18⟩ := hR
 have H17 : Hp w [] [.blk p3 [vw v, .slice A ins.length ca, .slice B outs.length cb, vw lt] 26, .blk p7 (by8 (List.replicate 32 0)) 51, .row A13 n14 c15 5 1 (by8 (txO v ins outs lt))] w16 := H10.callNew H18
 have hlA13 := (H17.rowLe 2 rfl).2.1
 rw [by8_length, Nat.mul_one] at hlA13
 refine ⟨_, rfl, [2, 8], [(2, pt p7 0), (8, .tuple #[.slice A13 n14 c15, vi (txE v ins outs lt)])], by kernel_rfl, ?_⟩
 refine GL.r 7 5 [(2, pt p7 0), (4, .slice A13 n14 c15), (5, vi (txE v ins outs lt))] ?_
 refine GL.q hK12 ?_
 refine G.seqK fun K19 hK20 => ?_
 refine G.sr fun K21 hK22 => ?_
 refine GL.r 2 2 [(2, pt p7 0), (4, .slice A13 n14 c15), (5, vi (txE v ins outs lt)), (12, .bool ((((txE v ins outs lt) : Nat) : Int) != 0))] ?_
 refine GL.q hK22 ?_
 cases hb23 : ((((txE v ins outs lt) : Nat) : Int) != 0)
 · skip
   have hb23f : (((txE v ins outs lt) : Nat) : Int) = 0 := bne_eq_false_iff_eq.1 hb23
   refine G.no rfl ?_
   refine G.skipK hK20 (fun _ _ h => h) ?_
   refine G.sr fun K24 hK25 => ?_
   refine GL.r 1 1 [(2, pt p7 0), (15, .slice A13 n14 c15)] ?_
   refine GL.call (j := 2) (Double_calls A13 n14 c15 (txO v ins outs lt) w16 (H17.rdRow 2 rfl) (hlA13.symm) (Nat.le_trans (txO_le _ _ _ _) (by decide))) (by kernel_rfl) rfl (fun e_ w26 hR => ?_)
   obtain ⟨rfl, H28⟩ := hR
   have H27 : Hp w [] [.blk p3 [vw v, .slice A ins.length ca, .slice B outs.length cb, vw lt] 26, .blk p7 (by8 (List.replicate 32 0)) 51, .row A13 n14 c15 5 1 (by8 (txO v ins outs lt))] w26 := H17.callNil H28
   refine ⟨_, rfl, [2, 16], [(2, pt p7 0), (16, .agg (by8 (sha (sha (txO v ins outs lt)))).toArray)], by kernel_rfl, ?_⟩
   obtain ⟨w29, r30, H31⟩ := H27.stA (P := Try.prog) (o := 0) (vs := by8 (sha (sha (txO v ins outs lt)))) (ty := 51) (m := 32) 1 rfl (by kernel_rfl) (by rw [by8_length, sha_length]) (Nat.le_of_eq (by rw [Nat.zero_add]; exact ((show (by8 (List.replicate 32 0)).length = 32 from by rw [by8_length]; rfl)).symm)) (by8_one _)
   rw [st_whole (by rw [by8_length]; rfl)] at H31
   refine GL.u 3 r30 [(2, pt p7 0)] ?_
   refine GL.r 4 1 [(2, pt p7 0), (3, li 0)] ?_
   refine GL.q hK25 ?_
   refine G.ret fun F_ hF_ hM_ => hRet _ _ (bodyPost_2 rfl (RV.cell rfl (H31.ldA (o := 0) (ty := 51) (m := 32) (sub := by8 (sha (sha (txO v ins outs lt)))) 1 rfl (by kernel_rfl) (sub_whole (by rw [by8_length, sha_length])) (by rw [by8_length, sha_length]))) (RV.tmp rfl) ?_ F_ hF_ hM_)
   have e0 : txE v ins outs lt = 0 := by omega
   rw [txH, if_pos e0, e0]
   exact ⟨rfl, H31.sub (List.nil_sublist _)⟩
 · skip
   have hb23f : (((txE v ins outs lt) : Nat) : Int) ≠ 0 := bne_iff_ne.1 hb23
   refine G.yes rfl ?_
   refine G.sr fun K32 hK33 => ?_
   refine GL.r 2 2 [(2, pt p7 0), (13, .agg (by8 (List.replicate 32 0)).toArray), (14, vi (txE v ins outs lt))] ?_
   obtain ⟨w34, r35, H36⟩ := H17.stA (P := Try.prog) (o := 0) (vs := by8 (List.replicate 32 0)) (ty := 51) (m := 32) 1 rfl (by kernel_rfl) (by rw [by8_length, List.length_replicate]) (Nat.le_of_eq (by rw [Nat.zero_add]; exact ((show (by8 (List.replicate 32 0)).length = 32 from by rw [by8_length]; rfl)).symm)) (by8_one _)
   rw [st_whole (by rw [by8_length]; rfl)] at H36
   refine GL.u 3 r35 [(2, pt p7 0), (14, vi (txE v ins outs lt))] ?_
   refine GL.r 4 1 [(2, pt p7 0), (3, vi (txE v ins outs lt))] ?_
   refine GL.q hK33 ?_
   refine G.ret fun F_ hF_ hM_ => hRet _ _ (bodyPost_2 rfl (RV.cell rfl (H36.ldA (o := 0) (ty := 51) (m := 32) (sub := by8 (List.replicate 32 0)) 1 rfl (by kernel_rfl) (sub_whole (by rw [by8_length, List.length_replicate])) (by rw [by8_length, List.length_replicate]))) (RV.tmp rfl) ?_ F_ hF_ hM_)
   rw [txH, if_neg (show ¬ txE v ins outs lt = 0 by omega)]
   exact ⟨rfl, H36.sub (List.nil_sublist _)⟩
end Go.Proofs.Ytcedmbdahbdmaaa
set_option maxRecDepth 100000
namespace Go.Proofs.Ytcedmbdahbdmaaa
open Go.RowKit
theorem n_byte256 (x : Nat) : IntKind.u8.wrap ((x % 256 : Nat) : Int) = (((UInt8.ofNat x).toNat : Nat) : Int) := by rw [IntKind.wrap_u8, u8_ofNat]; omega
theorem RPut_calls (x n : Nat) (hx : x < K) (hn : n ≤ 1000) (w : World) : Calls Try.prog 42 #[.int .u64 (x : Int), .int .i64 (n : Int)] w fun e w' => ∃ A c, e = .returned (.slice A n c) ∧ Hp w [] [.row A n c 5 1 (by8 (putB x n))] w' := by
 refine calls_G (args := [vu x, vi n]) Try.func42 rfl Try.ntmps42 rfl ?_
 intro Q0 hRet hNor hPan
 have H := Hp.start w
 refine G.sr fun K1 hK2 => ?_
 refine GL.r 1 1 [(0, vu x), (1, vi n)] ?_
 refine GL.q hK2 ?_
 refine G.sr fun K3 hK4 => ?_
 obtain ⟨p5, w6, r7, H8⟩ := H.madeRow (P := Try.prog) (Instr.buildSlice 38 0 #[]) (fun b_ => .slice (some ⟨b_, 0, none⟩) 0 0) [] 5 0 0 1 (by kernel_rfl) (by decide) (by decide) rfl
 refine GL.s 1 (r7) [(0, vu x), (1, vi n), (7, .slice (some ⟨p5, 0, none⟩) 0 0)] ?_
 refine GL.r 2 1 [(0, vu x), (1, vi n), (5, .slice (some ⟨p5, 0, none⟩) 0 0)] ?_
 refine GL.q hK4 ?_
 refine G.seqK fun K9 hK10 => ?_
 refine G.sr fun K11 hK12 => ?_
 refine GL.r 1 1 [(0, vu x), (1, vi n), (5, .slice (some ⟨p5, 0, none⟩) 0 0), (6, li 0)] ?_
 refine GL.q hK12 ?_
 refine G.block ?_
 refine G.fit [0, 1, 5, 6] (M' := [(0, vu x), (1, vi n), (5, .slice (some ⟨p5, 0, none⟩) 0 0), (6, li 0)]) (by kernel_rfl) ?_
 refine G.eq (M' := [(0, vu (x / 256 ^ 0)), (1, vi n), (5, .slice (some ⟨p5, 0, none⟩) 0 0), (6, li 0)]) (by simp only [Nat.pow_zero, Nat.div_one]) ?_
 refine G.loop (X := Nat × Option Addr × Nat) (fun ⟨i, B_, b_⟩ => [(0, vu (x / 256 ^ i)), (1, vi n), (5, .slice B_ i b_), (6, vi i)]) (fun ⟨i, B_, b_⟩ w_ => (i ≤ n) ∧ Hp w [] [.row B_ i b_ 5 1 (by8 (putB x i))] w_) (fun ⟨i, B_, b_⟩ => n - i) ⟨0, (some ⟨p5, 0, none⟩), 0⟩ [0, 1, 5, 6] (by kernel_rfl) ⟨Nat.zero_le _, H8⟩ ?_
 rintro ⟨i, B_, b_⟩ w13 ⟨hi14, H15⟩
 refine G.eq (M' := [(0, vu (x / 256 ^ i)), (1, vi n), (5, .slice B_ i b_), (6, vi i)]) rfl ?_
 have hi9 := hi14
 refine G.seqK fun K16 hK17 => ?_
 refine G.sr fun K18 hK19 => ?_
 refine GL.r 3 3 [(0, vu (x / 256 ^ i)), (1, vi n), (5, .slice B_ i b_), (6, vi i), (10, .bool (decide ((i : Int) < (n : Int))))] ?_
 refine GL.q hK19 ?_
 cases hb20 : (decide ((i : Int) < (n : Int)))
 · skip
   have hb20f := of_decide_eq_false hb20
   refine G.no rfl ?_
   refine G.exitK hK10 (fun _ _ h => h) ?_
   refine G.sr fun K21 hK22 => ?_
   refine GL.r 2 2 [(4, .slice B_ i b_)] ?_
   refine GL.q hK22 ?_
   refine G.ret fun F_ hF_ hM_ => hRet _ _ (bodyPost_1 rfl (RV.tmp rfl) ?_ F_ hF_ hM_)
   have HF := H15
   rw [show i = n by omega] at HF
   rw [show i = n by omega]
   exact ⟨_, _, rfl, HF⟩
 · skip
   have hb20f := of_decide_eq_true hb20
   refine G.yes rfl ?_
   refine G.skipK hK17 (fun _ _ h => h) ?_
   refine G.seqK fun K23 hK24 => ?_
   refine G.block ?_
   refine G.sr fun K25 hK26 => ?_
   refine GL.r 4 4 [(0, vu (x / 256 ^ i)), (1, vi n), (6, vi i), (13, .slice B_ i b_), (16, lb (IntKind.u8.wrap (Int.tmod ((x / 256 ^ i : Nat) : Int) 256)))] ?_
   have e27 : (Int.tmod ((x / 256 ^ i : Nat) : Int) 256) = (((x / 256 ^ i) % 256 : Nat) : Int) := n_rem _ 256
   have e28 : (IntKind.u8.wrap (((x / 256 ^ i) % 256 : Nat) : Int)) = ((UInt8.ofNat (x / 256 ^ i)).toNat : Int) := n_byte256 _
   rw [e27, e28]
   clear e27 e28
   obtain ⟨p29, w30, r31, H32⟩ := H15.made (P := Try.prog) (Instr.buildSlice 38 1 #[(0, lb ((UInt8.ofNat (x / 256 ^ i)).toNat : Int))]) (fun b_ => .slice (some ⟨b_, 0, none⟩) 1 1) [lb ((UInt8.ofNat (x / 256 ^ i)).toNat : Int)] 5 (by kernel_rfl)
   refine GL.s 5 (r31) [(0, vu (x / 256 ^ i)), (1, vi n), (6, vi i), (13, .slice B_ i b_), (17, .slice (some ⟨p29, 0, none⟩) 1 1)] ?_
   obtain ⟨A33, c34, w35, r36, H37⟩ := H32.append (P := Try.prog) (e := 5) (sz := 1) (by_ := 1) (n := i) (c := b_) (m := 1) (d := 1) (t := 38) (ty := 38) (xs := by8 (putB x i)) (news := by8 ([(UInt8.ofNat (x / 256 ^ i))] : List UInt8)) 0 rfl (by kernel_rfl) (H32.rdBlk (o := 0) (xs := by8 ([(UInt8.ofNat (x / 256 ^ i))] : List UInt8)) 1 1 rfl rfl) (by first | (simp [by8_length]; done) | (rw [by8_length]; omega) | (rw [by8_length, putB_length])) (by8_one _) (by omega) (by simp only [maxLen]; omega)
   rw [← by8_append] at H37
   refine GL.s 6 (r36) [(0, vu (x / 256 ^ i)), (1, vi n), (6, vi i), (18, .slice A33 (i + 1) c34)] ?_
   refine GL.r 7 1 [(0, vu (x / 256 ^ i)), (1, vi n), (5, .slice A33 (i + 1) c34), (6, vi i)] ?_
   refine GL.q hK26 ?_
   refine G.region ?_
   refine GL.r 3 3 [(0, lu (IntKind.u64.wrap (Int.tdiv ((x / 256 ^ i : Nat) : Int) 256))), (1, vi n), (5, .slice A33 (i + 1) c34), (6, vi i)] ?_
   have e38 : (IntKind.u64.wrap (Int.tdiv ((x / 256 ^ i : Nat) : Int) 256)) = (((x / 256 ^ i) / 256 : Nat) : Int) := n_quo 256 (Nat.lt_of_le_of_lt (Nat.div_le_self _ _) hx)
   rw [e38]
   clear e38
   refine GL.q hK24 ?_
   refine G.region ?_
   refine GL.r 3 3 [(0, vu ((x / 256 ^ i) / 256)), (1, vi n), (5, .slice A33 (i + 1) c34), (6, li (IntKind.i64.wrap ((i : Int) + 1)))] ?_
   have e39 : (IntKind.i64.wrap ((i : Int) + 1)) = ((i + 1 : Nat) : Int) := by rw [in_i64 (by omega)]; omega
   rw [e39]
   clear e39
   have H40 : Hp w [] [.row A33 (i + 1) c34 5 1 (by8 ((putB x i) ++ ([(UInt8.ofNat (x / 256 ^ i))] : List UInt8)))] w35 := H37.sub (List.Sublist.cons_cons _ (List.Sublist.cons _ (List.Sublist.slnil)))
   have H41 : Hp w [] [.row A33 (i + 1) c34 5 1 (by8 (putB x (i + 1)))] w35 := by rw [putB_snoc]; exact H40
   refine GL.fit (ts := [0, 1, 5, 6]) (M' := [(0, vu ((x / 256 ^ i) / 256)), (1, vi n), (5, .slice A33 (i + 1) c34), (6, vi (i + 1))]) (by kernel_rfl) ?_
   refine GL.eq (M' := [(0, vu (x / 256 ^ (i + 1))), (1, vi n), (5, .slice A33 (i + 1) c34), (6, vi (i + 1))]) (by rw [Nat.pow_succ, ← Nat.div_div_eq_div_mul]) ?_
   exact GL.again ⟨(i + 1), A33, c34⟩ [0, 1, 5, 6] rfl (by kernel_rfl) (by show n - (i + 1) < n - i; omega) ⟨by omega, H41⟩
theorem RCnt_calls (x : Nat) (hx : x < K) (w : World) : Calls Try.prog 43 #[.int .u64 (x : Int)] w fun e w' => ∃ A c, e = .returned (.slice A (cntSz x) c) ∧ Hp w [] [.row A (cntSz x) c 5 1 (by8 (cnt x))] w' := by
 refine calls_G (args := [vu x]) Try.func43 rfl Try.ntmps43 rfl ?_
 intro Q0 hRet hNor hPan
 have H := Hp.start w
 refine G.sr fun K1 hK2 => ?_
 refine GL.r 1 1 [(0, vu x)] ?_
 refine GL.q hK2 ?_
 refine G.seqK fun K3 hK4 => ?_
 refine G.sr fun K5 hK6 => ?_
 refine GL.r 2 2 [(0, vu x), (4, .bool (decide ((x : Int) < 253)))] ?_
 refine GL.q hK6 ?_
 cases hb7 : (decide ((x : Int) < 253))
 · skip
   have hb7f := of_decide_eq_false hb7
   refine G.no rfl ?_
   refine G.skipK hK4 (fun _ _ h => h) ?_
   refine G.seqK fun K8 hK9 => ?_
   refine G.sr fun K10 hK11 => ?_
   refine GL.r 2 2 [(0, vu x), (9, .bool (decide ((x : Int) < 65536)))] ?_
   refine GL.q hK11 ?_
   cases hb12 : (decide ((x : Int) < 65536))
   · skip
     have hb12f := of_decide_eq_false hb12
     refine G.no rfl ?_
     refine G.skipK hK9 (fun _ _ h => h) ?_
     refine G.seqK fun K13 hK14 => ?_
     refine G.sr fun K15 hK16 => ?_
     refine GL.r 2 2 [(0, vu x), (15, .bool (decide ((x : Int) < 4294967296)))] ?_
     refine GL.q hK16 ?_
     cases hb17 : (decide ((x : Int) < 4294967296))
     · skip
       have hb17f := of_decide_eq_false hb17
       refine G.no rfl ?_
       refine G.skipK hK14 (fun _ _ h => h) ?_
       refine G.sr fun K18 hK19 => ?_
       obtain ⟨p20, w21, r22, H23⟩ := H.madeRow (P := Try.prog) (Instr.buildSlice 38 1 #[(0, lb 255)]) (fun b_ => .slice (some ⟨b_, 0, none⟩) 1 1) [lb 255] 5 1 1 1 (by kernel_rfl) (by decide) (by decide) rfl
       refine GL.s 1 (r22) [(0, vu x), (20, .slice (some ⟨p20, 0, none⟩) 1 1)] ?_
       refine GL.r 2 1 [(20, .slice (some ⟨p20, 0, none⟩) 1 1), (21, vu x)] ?_
       refine GL.call (j := 3) (RPut_calls x 8 hx (by omega) w21) (by kernel_rfl) rfl (fun e_ w28 hR => ?_)
       obtain ⟨A24, c25, rfl, H27⟩ := hR
       have H26 : Hp w [] [.row (some ⟨p20, 0, none⟩) 1 1 5 1 (by8 ([255] : List UInt8)), .row A24 8 c25 5 1 (by8 (putB x 8))] w28 := H23.callNew H27
       refine ⟨_, rfl, [20, 22], [(20, .slice (some ⟨p20, 0, none⟩) 1 1), (22, .slice A24 8 c25)], by kernel_rfl, ?_⟩
       obtain ⟨A29, c30, w31, r32, H33⟩ := H26.append (P := Try.prog) (e := 5) (sz := 1) (by_ := 1) (n := 1) (c := 1) (m := 8) (d := c25) (t := 38) (ty := 38) (xs := by8 ([255] : List UInt8)) (news := by8 (putB x 8)) 0 rfl (by kernel_rfl) (H26.rdRow 1 rfl) (by first | (simp [by8_length]; done) | (rw [by8_length]; omega) | (rw [by8_length, putB_length])) (by8_one _) (by omega) (by simp only [maxLen]; omega)
       rw [← by8_append] at H33
       refine GL.s 4 (r32) [(23, .slice A29 9 c30)] ?_
       refine GL.r 5 1 [(2, .slice A29 9 c30)] ?_
       refine GL.q hK19 ?_
       refine G.ret fun F_ hF_ hM_ => hRet _ _ (bodyPost_1 rfl (RV.tmp rfl) ?_ F_ hF_ hM_)
       have H34 : Hp w [] [.row A29 9 c30 5 1 (by8 (([255] : List UInt8) ++ (putB x 8)))] w31 := H33.sub (List.Sublist.cons_cons _ (List.Sublist.cons _ (List.Sublist.slnil)))
       have e0 : cntSz x = 9 ∧ cnt x = putB 255 1 ++ putB x 8 := by rcases cnt_cases x with ⟨_, a, b⟩ | ⟨_, _, a, b⟩ | ⟨_, _, a, b⟩ | ⟨_, a, b⟩ <;> first | exact ⟨a, b⟩ | (exfalso; omega)
       rw [e0.1, e0.2]
       exact ⟨_, _, rfl, H34⟩
     · skip
       have hb17f := of_decide_eq_true hb17
       refine G.yes rfl ?_
       refine G.sr fun K35 hK36 => ?_
       obtain ⟨p37, w38, r39, H40⟩ := H.madeRow (P := Try.prog) (Instr.buildSlice 38 1 #[(0, lb 254)]) (fun b_ => .slice (some ⟨b_, 0, none⟩) 1 1) [lb 254] 5 1 1 1 (by kernel_rfl) (by decide) (by decide) rfl
       refine GL.s 1 (r39) [(0, vu x), (16, .slice (some ⟨p37, 0, none⟩) 1 1)] ?_
       refine GL.r 2 1 [(16, .slice (some ⟨p37, 0, none⟩) 1 1), (17, vu x)] ?_
       refine GL.call (j := 3) (RPut_calls x 4 hx (by omega) w38) (by kernel_rfl) rfl (fun e_ w45 hR => ?_)
       obtain ⟨A41, c42, rfl, H44⟩ := hR
       have H43 : Hp w [] [.row (some ⟨p37, 0, none⟩) 1 1 5 1 (by8 ([254] : List UInt8)), .row A41 4 c42 5 1 (by8 (putB x 4))] w45 := H40.callNew H44
       refine ⟨_, rfl, [16, 18], [(16, .slice (some ⟨p37, 0, none⟩) 1 1), (18, .slice A41 4 c42)], by kernel_rfl, ?_⟩
       obtain ⟨A46, c47, w48, r49, H50⟩ := H43.append (P := Try.prog) (e := 5) (sz := 1) (by_ := 1) (n := 1) (c := 1) (m := 4) (d := c42) (t := 38) (ty := 38) (xs := by8 ([254] : List UInt8)) (news := by8 (putB x 4)) 0 rfl (by kernel_rfl) (H43.rdRow 1 rfl) (by first | (simp [by8_length]; done) | (rw [by8_length]; omega) | (rw [by8_length, putB_length])) (by8_one _) (by omega) (by simp only [maxLen]; omega)
       rw [← by8_append] at H50
       refine GL.s 4 (r49) [(19, .slice A46 5 c47)] ?_
       refine GL.r 5 1 [(2, .slice A46 5 c47)] ?_
       refine GL.q hK36 ?_
       refine G.ret fun F_ hF_ hM_ => hRet _ _ (bodyPost_1 rfl (RV.tmp rfl) ?_ F_ hF_ hM_)
       have H51 : Hp w [] [.row A46 5 c47 5 1 (by8 (([254] : List UInt8) ++ (putB x 4)))] w48 := H50.sub (List.Sublist.cons_cons _ (List.Sublist.cons _ (List.Sublist.slnil)))
       have e0 : cntSz x = 5 ∧ cnt x = putB 254 1 ++ putB x 4 := by rcases cnt_cases x with ⟨_, a, b⟩ | ⟨_, _, a, b⟩ | ⟨_, _, a, b⟩ | ⟨_, a, b⟩ <;> first | exact ⟨a, b⟩ | (exfalso; omega)
       rw [e0.1, e0.2]
       exact ⟨_, _, rfl, H51⟩
   · skip
     have hb12f := of_decide_eq_true hb12
     refine G.yes rfl ?_
     refine G.sr fun K52 hK53 => ?_
     obtain ⟨p54, w55, r56, H57⟩ := H.madeRow (P := Try.prog) (Instr.buildSlice 38 1 #[(0, lb 253)]) (fun b_ => .slice (some ⟨b_, 0, none⟩) 1 1) [lb 253] 5 1 1 1 (by kernel_rfl) (by decide) (by decide) rfl
     refine GL.s 1 (r56) [(0, vu x), (10, .slice (some ⟨p54, 0, none⟩) 1 1)] ?_
     refine GL.r 2 1 [(10, .slice (some ⟨p54, 0, none⟩) 1 1), (11, vu x)] ?_
     refine GL.call (j := 3) (RPut_calls x 2 hx (by omega) w55) (by kernel_rfl) rfl (fun e_ w62 hR => ?_)
     obtain ⟨A58, c59, rfl, H61⟩ := hR
     have H60 : Hp w [] [.row (some ⟨p54, 0, none⟩) 1 1 5 1 (by8 ([253] : List UInt8)), .row A58 2 c59 5 1 (by8 (putB x 2))] w62 := H57.callNew H61
     refine ⟨_, rfl, [10, 12], [(10, .slice (some ⟨p54, 0, none⟩) 1 1), (12, .slice A58 2 c59)], by kernel_rfl, ?_⟩
     obtain ⟨A63, c64, w65, r66, H67⟩ := H60.append (P := Try.prog) (e := 5) (sz := 1) (by_ := 1) (n := 1) (c := 1) (m := 2) (d := c59) (t := 38) (ty := 38) (xs := by8 ([253] : List UInt8)) (news := by8 (putB x 2)) 0 rfl (by kernel_rfl) (H60.rdRow 1 rfl) (by first | (simp [by8_length]; done) | (rw [by8_length]; omega) | (rw [by8_length, putB_length])) (by8_one _) (by omega) (by simp only [maxLen]; omega)
     rw [← by8_append] at H67
     refine GL.s 4 (r66) [(13, .slice A63 3 c64)] ?_
     refine GL.r 5 1 [(2, .slice A63 3 c64)] ?_
     refine GL.q hK53 ?_
     refine G.ret fun F_ hF_ hM_ => hRet _ _ (bodyPost_1 rfl (RV.tmp rfl) ?_ F_ hF_ hM_)
     have H68 : Hp w [] [.row A63 3 c64 5 1 (by8 (([253] : List UInt8) ++ (putB x 2)))] w65 := H67.sub (List.Sublist.cons_cons _ (List.Sublist.cons _ (List.Sublist.slnil)))
     have e0 : cntSz x = 3 ∧ cnt x = putB 253 1 ++ putB x 2 := by rcases cnt_cases x with ⟨_, a, b⟩ | ⟨_, _, a, b⟩ | ⟨_, _, a, b⟩ | ⟨_, a, b⟩ <;> first | exact ⟨a, b⟩ | (exfalso; omega)
     rw [e0.1, e0.2]
     exact ⟨_, _, rfl, H68⟩
 · skip
   have hb7f := of_decide_eq_true hb7
   refine G.yes rfl ?_
   refine G.sr fun K69 hK70 => ?_
   refine GL.r 2 2 [(6, lb (IntKind.u8.wrap (x : Int)))] ?_
   have e71 : (IntKind.u8.wrap (x : Int)) = ((UInt8.ofNat x).toNat : Int) := n_byte _
   rw [e71]
   clear e71
   obtain ⟨p72, w73, r74, H75⟩ := H.madeRow (P := Try.prog) (Instr.buildSlice 38 1 #[(0, lb ((UInt8.ofNat x).toNat : Int))]) (fun b_ => .slice (some ⟨b_, 0, none⟩) 1 1) [lb ((UInt8.ofNat x).toNat : Int)] 5 1 1 1 (by kernel_rfl) (by decide) (by decide) rfl
   refine GL.s 3 (r74) [(7, .slice (some ⟨p72, 0, none⟩) 1 1)] ?_
   refine GL.r 4 1 [(2, .slice (some ⟨p72, 0, none⟩) 1 1)] ?_
   refine GL.q hK70 ?_
   refine G.ret fun F_ hF_ hM_ => hRet _ _ (bodyPost_1 rfl (RV.tmp rfl) ?_ F_ hF_ hM_)
   have e0 : cntSz x = 1 ∧ cnt x = putB x 1 := by rcases cnt_cases x with ⟨_, a, b⟩ | ⟨_, _, a, b⟩ | ⟨_, _, a, b⟩ | ⟨_, a, b⟩ <;> first | exact ⟨a, b⟩ | (exfalso; omega)
   rw [e0.1, e0.2]
   exact ⟨_, _, rfl, H75⟩
end Go.Proofs.Ytcedmbdahbdmaaa
namespace Go.Proofs.Ytcedmbdahbdmaaa
open Go.RowKit
theorem strCells_of (bs : List UInt8) : Lib.strCells (strOf bs) = by8 bs := by
 unfold Lib.strCells by8
 rfl
def u8Row (P : Program) (t : TypeId) : Option TypeId :=
 match P.underlying t with
 | some (.slice e) => match P.info? e with
   | some i => match i.zero with
     | some (.int .u8 n) => if n = 0 ∧ i.size = 1 ∧ i.bytes = 1 then some e else none
     | _ => none
   | none => none
 | _ => none
theorem u8Row_spec {P : Program} {t e : TypeId} (h : u8Row P t = some e) : ∃ i, P.underlying t = some (.slice e) ∧ P.info? e = some i ∧ i.zero = some (.int .u8 0) ∧ i.size = 1 ∧ i.bytes = 1 := by
 unfold u8Row at h
 split at h
 · rename_i e' he
   split at h
   · rename_i i hi
     split at h
     · rename_i n hz
       split at h
       · rename_i hc
         injection h with h
         subst h
         obtain ⟨rfl, h1, h2⟩ := hc
         exact ⟨i, he, hi, hz, h1, h2⟩
       · cases h
     · cases h
   · cases h
 · cases h
section
variable {P : Program} {w0 w : World} {S : List Nat} {L : List Ent}
theorem Hp.appendStr (H : Hp w0 S L w) (i : Nat) {A : Option Addr} {n c t u ty e : Nat} {xs : List Value} (bs : List UInt8) (hL : L[i]? = some (.row A n c e 1 xs)) (ht : u8Row P t = some e) (hu : isStr P u = true) (hb : n + bs.length ≤ 140737488355328) :
   ∃ A' c' w', (Builtin.append_ #[t, u] ty #[.slice A n c, .string (strOf bs)]).run P w = .ok (.slice A' (n + bs.length) c') w' ∧ Hp w0 S (L.set i (.row A' (n + bs.length) c' e 1 (xs ++ by8 bs))) w' := by
 obtain ⟨inf, hut, hi, hz, hsz, hby⟩ := u8Row_spec ht
 have hown := H.rowAt i hL
 have h63 : n + bs.length ≤ maxLen := by simp only [maxLen]; omega
 have hus := isStr_spec hu
 obtain ⟨v', w', hrun, hown', hg, hnil⟩ := Lib.run_append_own_string (P := P) w 0 t u ty e inf hut hus hi hz hsz hby (.slice A n c) n xs hown (strOf bs) (by rw [strOf_size]; exact h63) (by rw [strOf_size]; exact hb) (Nat.zero_le _)
 have hat : v'.ownBlock = (Value.slice A n c).ownBlock ∨ v'.ownBlock = some w.heap.size := by
   rcases hown.2 with ⟨h0, hn⟩ | ⟨g, cap, cur, hv, _, hh, hnc, hcm, hcs, hx⟩
   · by_cases h : (strOf bs).size = 0
     · left
       rw [hnil.2 ⟨h0, h⟩, h0]
     · right
       have hr := run_append_nil_string (P := P) w t u ty e inf (.int .u8 0) hut hus hi hz (strOf bs) (by omega) (by rw [strOf_size]; omega) (by rw [strOf_size, hby]; omega)
       rw [h0, hr] at hrun
       injection hrun with h1
       rw [← h1]
       rfl
   · by_cases hroom : n + (strOf bs).size ≤ cap
     · left
       have hcs' : cur.size = cap := by simpa using hcs
       have hr := Lib.run_append_room_string (P := P) w t u ty e inf hut hus hi hsz g n cap cur hh (strOf bs) hroom (by omega)
       rw [hv, hr] at hrun
       injection hrun with h1
       rw [← h1, hv]
       rfl
     · right
       have hxl : xs.length = n := by simpa using hown.1
       have holds : ∀ j u, xs[j]? = some u → w.cell? ((⟨g, 0, none⟩ : Addr).add j) = some u := by
         have ho := hown
         rw [hv] at ho
         exact ho.cells (g := g) rfl
       have hr := Lib.run_append_grow_string (P := P) w t u ty e inf (.int .u8 0) hut hus hi hz ⟨g, 0, none⟩ n cap xs (by rw [hsz]; simpa using hxl) holds (strOf bs) (by omega) (by rw [strOf_size]; omega) (by rw [hby]; exact growslice_fits (by omega) (by rw [strOf_size]; omega))
       rw [hv, hr] at hrun
       injection hrun with h1
       rw [← h1]
       rfl
 rw [strOf_size, strCells_of] at hown'
 obtain ⟨A', c', rfl⟩ := row_shape hown'
 refine ⟨A', c', w', hrun, H.turnNew i hL ?_ own_ids hown' hg.os hg.tape hg.output hg.size ?_⟩
 · intro k hk
   have hk' : (Value.slice A' (n + bs.length) c').ownBlock = some k := by
     cases A' with
     | none => simp [Ent.ids] at hk
     | some a' => simp [Ent.ids] at hk; simp [Value.ownBlock, hk]
   rcases hat with hat | hat
   · rw [hat] at hk'
     left
     cases A with
     | none => simp [Value.ownBlock] at hk'
     | some a0 => simp [Value.ownBlock] at hk'; simp [Ent.ids, hk']
   · rw [hat] at hk'
     injection hk' with hk'
     right
     omega
 · intro k hk hke
   refine hg.block k hk (fun h => hke ?_)
   cases A with
   | none => simp [Value.ownBlock] at h
   | some a0 => simp [Value.ownBlock] at h; simp [Ent.ids, h]
end
end Go.Proofs.Ytcedmbdahbdmaaa
set_option maxRecDepth 100000
namespace Go.Proofs.Ytcedmbdahbdmaaa
open Go.RowKit
theorem RWrite_calls (v : Nat) (ins : List TIn) (A : Option Addr) (ca : Nat) (outs : List TOut) (B : Option Addr) (cb : Nat) (lt : Nat) (w : World) (hv : v < 4294967296) (hlt : lt < 4294967296) (hIns : RdS w A (insR ins)) (hI : ∀ x ∈ ins, x.fr.length = 32 ∧ x.ix < 4294967296 ∧ x.sq < 4294967296 ∧ x.kb.length ≤ 600) (hOuts : RdS w B (outsR outs)) (hO : ∀ x ∈ outs, x.pv < 18446744073709551616 ∧ x.lb.length ≤ 600) (hni : ins.length ≤ 70) (hno : outs.length ≤ 70) : Calls Try.prog 19 #[.agg #[.int .u64 (v : Int), .int .u64 (lt : Int), .slice A ins.length ca, .slice B outs.length cb]] w fun e w' => ∃ A' n' c', e = .returned (.slice A' n' c') ∧ Hp w [] [.row A' n' c' 5 1 (by8 (txB v ins outs lt))] w' := by
 have hK0 : K = 18446744073709551616 := rfl
 refine calls_G (args := [.agg #[vu v, vu lt, .slice A ins.length ca, .slice B outs.length cb]]) Try.func19 rfl Try.ntmps19 rfl ?_
 intro Q0 hRet hNor hPan
 have H := Hp.start w
 refine G.sr fun K1 hK2 => ?_
 obtain ⟨p3, w4, r5, H6⟩ := H.box (P := Try.prog) 64 [vu v, vu lt, .slice A ins.length ca, .slice B outs.length cb] (.agg #[vu v, vu lt, .slice A ins.length ca, .slice B outs.length cb]) rfl
 refine GL.s 1 (r5) [(1, pt p3 0)] ?_
 refine GL.r 2 1 [(1, pt p3 0)] ?_
 refine GL.q hK2 ?_
 refine G.sr fun K7 hK8 => ?_
 refine GL.r 1 1 [(1, pt p3 0), (9, pt p3 0)] ?_
 refine GL.s 2 (H6.ld (o := 0) (ty := 31) (v := vu v) 0 rfl (by kernel_rfl) rfl) [(1, pt p3 0), (10, vu v)] ?_
 refine GL.call (j := 3) (RPut_calls v 4 (Nat.lt_trans hv (by decide)) (by omega) w4) (by kernel_rfl) rfl (fun e_ w13 hR => ?_)
 obtain ⟨A9, c10, rfl, H12⟩ := hR
 have H11 : Hp w [] [.blk p3 [vu v, vu lt, .slice A ins.length ca, .slice B outs.length cb] 64, .row A9 4 c10 5 1 (by8 (putB v 4))] w13 := H6.callNew H12
 refine ⟨_, rfl, [1, 11], [(1, pt p3 0), (11, .slice A9 4 c10)], by kernel_rfl, ?_⟩
 refine GL.r 4 1 [(1, pt p3 0), (3, .slice A9 4 c10)] ?_
 refine GL.q hK8 ?_
 refine G.sr fun K14 hK15 => ?_
 refine GL.r 2 2 [(1, pt p3 0), (12, .slice A9 4 c10), (13, pt p3 2)] ?_
 refine GL.s 3 (H11.ld (o := 2) (ty := 61) (v := .slice A ins.length ca) 0 rfl (by kernel_rfl) rfl) [(1, pt p3 0), (12, .slice A9 4 c10), (14, .slice A ins.length ca)] ?_
 refine GL.r 5 2 [(1, pt p3 0), (12, .slice A9 4 c10), (16, lu (IntKind.u64.wrap (ins.length : Int)))] ?_
 have e16 : (IntKind.u64.wrap (ins.length : Int)) = (ins.length : Int) := in_u64 (by omega)
 rw [e16]
 clear e16
 have hcA17 := cntSz_le ins.length
 refine GL.call (j := 6) (RCnt_calls ins.length (by omega) w13) (by kernel_rfl) rfl (fun e_ w21 hR => ?_)
 obtain ⟨A17, c18, rfl, H20⟩ := hR
 have H19 : Hp w [] [.blk p3 [vu v, vu lt, .slice A ins.length ca, .slice B outs.length cb] 64, .row A9 4 c10 5 1 (by8 (putB v 4)), .row A17 (cntSz ins.length) c18 5 1 (by8 (cnt ins.length))] w21 := H11.callNew H20
 refine ⟨_, rfl, [1, 12, 17], [(1, pt p3 0), (12, .slice A9 4 c10), (17, .slice A17 (cntSz ins.length) c18)], by kernel_rfl, ?_⟩
 obtain ⟨A22, c23, w24, r25, H26⟩ := H19.append (P := Try.prog) (e := 5) (sz := 1) (by_ := 1) (n := 4) (c := c10) (m := (cntSz ins.length)) (d := c18) (t := 38) (ty := 38) (xs := by8 (putB v 4)) (news := by8 (cnt ins.length)) 1 rfl (by kernel_rfl) (H19.rdRow 2 rfl) (by rw [by8_length, cnt_length, Nat.mul_one]) (by8_one _) (by omega) (by simp only [maxLen]; omega)
 rw [← by8_append] at H26
 refine GL.s 7 (r25) [(1, pt p3 0), (18, .slice A22 (4 + (cntSz ins.length)) c23)] ?_
 refine GL.r 8 1 [(1, pt p3 0), (3, .slice A22 (4 + (cntSz ins.length)) c23)] ?_
 refine GL.q hK15 ?_
 refine G.seqK fun K27 hK28 => ?_
 refine G.sr fun K29 hK30 => ?_
 refine GL.r 1 1 [(1, pt p3 0), (3, .slice A22 (4 + (cntSz ins.length)) c23), (19, pt p3 2)] ?_
 refine GL.s 2 (H26.ld (o := 2) (ty := 61) (v := .slice A ins.length ca) 0 rfl (by kernel_rfl) rfl) [(1, pt p3 0), (3, .slice A22 (4 + (cntSz ins.length)) c23), (20, .slice A ins.length ca)] ?_
 refine GL.r 4 2 [(1, pt p3 0), (3, .slice A22 (4 + (cntSz ins.length)) c23), (20, .slice A ins.length ca), (21, vi ins.length), (22, li 0)] ?_
 refine GL.q hK30 ?_
 refine G.block ?_
 have H31 : Hp w [] [.blk p3 [vu v, vu lt, .slice A ins.length ca, .slice B outs.length cb] 64, .row A22 (4 + (cntSz ins.length)) c23 5 1 (by8 ((putB v 4) ++ (cnt ins.length)))] w24 := H26.sub (List.Sublist.cons_cons _ (List.Sublist.cons_cons _ (List.Sublist.cons _ (List.Sublist.slnil))))
 refine G.fit [1, 3, 20, 21, 22] (M' := [(1, pt p3 0), (3, .slice A22 (4 + (cntSz ins.length)) c23), (20, .slice A ins.length ca), (21, vi ins.length), (22, li 0)]) (by kernel_rfl) ?_
 refine G.loop (X := Nat × Option Addr × Nat × Nat × List UInt8) (fun ⟨i, A_i, c_i, m_i, b_i⟩ => [(1, pt p3 0), (3, .slice A_i m_i c_i), (20, .slice A ins.length ca), (21, vi ins.length), (22, vi i)]) (fun ⟨i, A_i, c_i, m_i, b_i⟩ w_ => (i ≤ ins.length ∧ b_i = ((putB v 4) ++ (cnt ins.length)) ++ insB (ins.take i) ∧ m_i ≤ (4 + (cntSz ins.length)) + 700 * i) ∧ Hp w [] [.blk p3 [vu v, vu lt, .slice A ins.length ca, .slice B outs.length cb] 64, .row A_i m_i c_i 5 1 (by8 b_i)] w_) (fun ⟨i, A_i, c_i, m_i, b_i⟩ => ins.length - i) ⟨0, A22, c23, (4 + (cntSz ins.length)), ((putB v 4) ++ (cnt ins.length))⟩ [1, 3, 20, 21, 22] (by kernel_rfl) ⟨⟨Nat.zero_le _, by rw [List.take_zero]; exact (List.append_nil _).symm, by omega⟩, H31⟩ ?_
 rintro ⟨i, A_i, c_i, m_i, b_i⟩ w32 ⟨hi33, H34⟩
 refine G.eq (M' := [(1, pt p3 0), (3, .slice A_i m_i c_i), (20, .slice A ins.length ca), (21, vi ins.length), (22, vi i)]) rfl ?_
 obtain ⟨hil, hbi, hmi⟩ := hi33
 refine G.sr fun K35 hK36 => ?_
 refine GL.r 1 1 [(1, pt p3 0), (3, .slice A_i m_i c_i), (20, .slice A ins.length ca), (21, vi ins.length), (22, vi i), (23, .bool (decide ((i : Int) < (ins.length : Int))))] ?_
 refine GL.q hK36 ?_
 refine G.seqK fun K37 hK38 => ?_
 cases hb39 : (decide ((i : Int) < (ins.length : Int)))
 · skip
   have hb39f := of_decide_eq_false hb39
   refine G.no rfl ?_
   refine G.exitK hK28 (fun _ _ h => h) ?_
   refine G.sr fun K40 hK41 => ?_
   refine GL.r 2 2 [(1, pt p3 0), (59, .slice A_i m_i c_i), (60, pt p3 3)] ?_
   refine GL.s 3 (H34.ld (o := 3) (ty := 62) (v := .slice B outs.length cb) 0 rfl (by kernel_rfl) rfl) [(1, pt p3 0), (59, .slice A_i m_i c_i), (61, .slice B outs.length cb)] ?_
   refine GL.r 5 2 [(1, pt p3 0), (59, .slice A_i m_i c_i), (63, lu (IntKind.u64.wrap (outs.length : Int)))] ?_
   have e42 : (IntKind.u64.wrap (outs.length : Int)) = (outs.length : Int) := in_u64 (by omega)
   rw [e42]
   clear e42
   have hcA43 := cntSz_le outs.length
   refine GL.call (j := 6) (RCnt_calls outs.length (by omega) w32) (by kernel_rfl) rfl (fun e_ w47 hR => ?_)
   obtain ⟨A43, c44, rfl, H46⟩ := hR
   have H45 : Hp w [] [.blk p3 [vu v, vu lt, .slice A ins.length ca, .slice B outs.length cb] 64, .row A_i m_i c_i 5 1 (by8 b_i), .row A43 (cntSz outs.length) c44 5 1 (by8 (cnt outs.length))] w47 := H34.callNew H46
   refine ⟨_, rfl, [1, 59, 64], [(1, pt p3 0), (59, .slice A_i m_i c_i), (64, .slice A43 (cntSz outs.length) c44)], by kernel_rfl, ?_⟩
   obtain ⟨A48, c49, w50, r51, H52⟩ := H45.append (P := Try.prog) (e := 5) (sz := 1) (by_ := 1) (n := m_i) (c := c_i) (m := (cntSz outs.length)) (d := c44) (t := 38) (ty := 38) (xs := by8 b_i) (news := by8 (cnt outs.length)) 1 rfl (by kernel_rfl) (H45.rdRow 2 rfl) (by rw [by8_length, cnt_length, Nat.mul_one]) (by8_one _) (by omega) (by simp only [maxLen]; omega)
   rw [← by8_append] at H52
   refine GL.s 7 (r51) [(1, pt p3 0), (65, .slice A48 (m_i + (cntSz outs.length)) c49)] ?_
   refine GL.r 8 1 [(1, pt p3 0), (3, .slice A48 (m_i + (cntSz outs.length)) c49)] ?_
   refine GL.q hK41 ?_
   refine G.seqK fun K53 hK54 => ?_
   refine G.sr fun K55 hK56 => ?_
   refine GL.r 1 1 [(1, pt p3 0), (3, .slice A48 (m_i + (cntSz outs.length)) c49), (66, pt p3 3)] ?_
   refine GL.s 2 (H52.ld (o := 3) (ty := 62) (v := .slice B outs.length cb) 0 rfl (by kernel_rfl) rfl) [(1, pt p3 0), (3, .slice A48 (m_i + (cntSz outs.length)) c49), (67, .slice B outs.length cb)] ?_
   refine GL.r 4 2 [(1, pt p3 0), (3, .slice A48 (m_i + (cntSz outs.length)) c49), (67, .slice B outs.length cb), (68, vi outs.length), (69, li 0)] ?_
   refine GL.q hK56 ?_
   refine G.block ?_
   have H57 : Hp w [] [.blk p3 [vu v, vu lt, .slice A ins.length ca, .slice B outs.length cb] 64, .row A48 (m_i + (cntSz outs.length)) c49 5 1 (by8 (b_i ++ (cnt outs.length)))] w50 := H52.sub (List.Sublist.cons_cons _ (List.Sublist.cons_cons _ (List.Sublist.cons _ (List.Sublist.slnil))))
   refine G.fit [1, 3, 67, 68, 69] (M' := [(1, pt p3 0), (3, .slice A48 (m_i + (cntSz outs.length)) c49), (67, .slice B outs.length cb), (68, vi outs.length), (69, li 0)]) (by kernel_rfl) ?_
   refine G.loop (X := Nat × Option Addr × Nat × Nat × List UInt8) (fun ⟨j, A_j, c_j, m_j, b_j⟩ => [(1, pt p3 0), (3, .slice A_j m_j c_j), (67, .slice B outs.length cb), (68, vi outs.length), (69, vi j)]) (fun ⟨j, A_j, c_j, m_j, b_j⟩ w_ => (j ≤ outs.length ∧ b_j = (b_i ++ (cnt outs.length)) ++ outsB (outs.take j) ∧ m_j ≤ (m_i + (cntSz outs.length)) + 700 * j) ∧ Hp w [] [.blk p3 [vu v, vu lt, .slice A ins.length ca, .slice B outs.length cb] 64, .row A_j m_j c_j 5 1 (by8 b_j)] w_) (fun ⟨j, A_j, c_j, m_j, b_j⟩ => outs.length - j) ⟨0, A48, c49, (m_i + (cntSz outs.length)), (b_i ++ (cnt outs.length))⟩ [1, 3, 67, 68, 69] (by kernel_rfl) ⟨⟨Nat.zero_le _, by rw [List.take_zero]; exact (List.append_nil _).symm, by omega⟩, H57⟩ ?_
   rintro ⟨j, A_j, c_j, m_j, b_j⟩ w58 ⟨hi59, H60⟩
   refine G.eq (M' := [(1, pt p3 0), (3, .slice A_j m_j c_j), (67, .slice B outs.length cb), (68, vi outs.length), (69, vi j)]) rfl ?_
   obtain ⟨hjl, hbj, hmj⟩ := hi59
   refine G.sr fun K61 hK62 => ?_
   refine GL.r 1 1 [(1, pt p3 0), (3, .slice A_j m_j c_j), (67, .slice B outs.length cb), (68, vi outs.length), (69, vi j), (70, .bool (decide ((j : Int) < (outs.length : Int))))] ?_
   refine GL.q hK62 ?_
   refine G.seqK fun K63 hK64 => ?_
   cases hb65 : (decide ((j : Int) < (outs.length : Int)))
   · skip
     have hb65f := of_decide_eq_false hb65
     refine G.no rfl ?_
     refine G.exitK hK54 (fun _ _ h => h) ?_
     refine G.sr fun K66 hK67 => ?_
     refine GL.r 2 2 [(90, .slice A_j m_j c_j), (91, pt p3 1)] ?_
     refine GL.s 3 (H60.ld (o := 1) (ty := 31) (v := vu lt) 0 rfl (by kernel_rfl) rfl) [(90, .slice A_j m_j c_j), (92, vu lt)] ?_
     refine GL.call (j := 4) (RPut_calls lt 4 (Nat.lt_trans hlt (by decide)) (by omega) w58) (by kernel_rfl) rfl (fun e_ w72 hR => ?_)
     obtain ⟨A68, c69, rfl, H71⟩ := hR
     have H70 : Hp w [] [.blk p3 [vu v, vu lt, .slice A ins.length ca, .slice B outs.length cb] 64, .row A_j m_j c_j 5 1 (by8 b_j), .row A68 4 c69 5 1 (by8 (putB lt 4))] w72 := H60.callNew H71
     refine ⟨_, rfl, [90, 93], [(90, .slice A_j m_j c_j), (93, .slice A68 4 c69)], by kernel_rfl, ?_⟩
     obtain ⟨A73, c74, w75, r76, H77⟩ := H70.append (P := Try.prog) (e := 5) (sz := 1) (by_ := 1) (n := m_j) (c := c_j) (m := 4) (d := c69) (t := 38) (ty := 38) (xs := by8 b_j) (news := by8 (putB lt 4)) 1 rfl (by kernel_rfl) (H70.rdRow 2 rfl) (by first | (simp [by8_length]; done) | (rw [by8_length]; omega) | (rw [by8_length, putB_length])) (by8_one _) (by omega) (by simp only [maxLen]; omega)
     rw [← by8_append] at H77
     refine GL.s 5 (r76) [(94, .slice A73 (m_j + 4) c74)] ?_
     refine GL.r 6 1 [(2, .slice A73 (m_j + 4) c74)] ?_
     refine GL.q hK67 ?_
     refine G.ret fun F_ hF_ hM_ => hRet _ _ (bodyPost_1 rfl (RV.tmp rfl) ?_ F_ hF_ hM_)
     have H78 : Hp w [] [.row A73 (m_j + 4) c74 5 1 (by8 (b_j ++ (putB lt 4)))] w75 := H77.sub (List.Sublist.cons _ (List.Sublist.cons_cons _ (List.Sublist.cons _ (List.Sublist.slnil))))
     have HF := H78
     have eB : (b_j ++ (putB lt 4)) = txB v ins outs lt := by rw [hbj, hbi, List.take_of_length_le (show ins.length ≤ i by omega), List.take_of_length_le (show outs.length ≤ j by omega)]; simp only [txB, List.append_assoc, List.nil_append]
     rw [eB] at HF
     exact ⟨_, _, _, rfl, HF⟩
   · skip
     have hb65f := of_decide_eq_true hb65
     refine G.yes rfl ?_
     refine G.skipK hK64 (fun _ _ h => h) ?_
     refine G.seqK fun K79 hK80 => ?_
     refine G.block ?_
     refine G.sr fun K81 hK82 => ?_
     obtain ⟨x83, hx84⟩ : ∃ x, outs[j]? = some x := ⟨_, List.getElem?_eq_getElem (by omega)⟩
     have hok85 := hO x83 (List.mem_of_getElem? hx84)
     have hpvx83 : x83.pv < K := hok85.1
     have hllx83 := hok85.2
     have hczx83 := cntSz_le x83.lb.length
     refine GL.s 1 (run_idxRdN (P := Try.prog) (k := .i64) (t := 62) (sz := 2) (A := B) (len := outs.length) (cap := cb) (j := j) (by kernel_rfl) rfl (hOuts.hp H60) (outsR_length _) (by decide) (by omega)) [(1, pt p3 0), (3, .slice A_j m_j c_j), (67, .slice B outs.length cb), (68, vi outs.length), (69, vi j), (71, .pointer (Option.map (fun x => Addr.add x (j * 2)) B))] ?_
     refine GL.s 2 (run_ldRdA (P := Try.prog) (ty := 91) (A := B) (o := (j * 2)) (m := 2) (sub := [vu x83.pv, .string (strOf x83.lb)]) (by kernel_rfl) (hOuts.hp H60) (outsR_cut hx84) (rfl) (by decide)) [(1, pt p3 0), (3, .slice A_j m_j c_j), (67, .slice B outs.length cb), (68, vi outs.length), (69, vi j), (72, .agg #[vu x83.pv, .string (strOf x83.lb)])] ?_
     obtain ⟨p86, w87, r88, H89⟩ := H60.alloc (P := Try.prog) 91 [lu 0, .string ⟨#[]⟩] (by kernel_rfl)
     refine GL.s 3 (r88) [(1, pt p3 0), (3, .slice A_j m_j c_j), (8, pt p86 0), (67, .slice B outs.length cb), (68, vi outs.length), (69, vi j), (72, .agg #[vu x83.pv, .string (strOf x83.lb)])] ?_
     obtain ⟨w90, r91, H92⟩ := H89.stA (P := Try.prog) (o := 0) (vs := [vu x83.pv, .string (strOf x83.lb)]) (ty := 91) (m := 2) 2 rfl (by kernel_rfl) rfl (by simp) (by simp [Value.oneCell'])
     refine GL.u 4 r91 [(1, pt p3 0), (3, .slice A_j m_j c_j), (8, pt p86 0), (67, .slice B outs.length cb), (68, vi outs.length), (69, vi j)] ?_
     refine GL.q hK82 ?_
     refine G.sr fun K93 hK94 => ?_
     refine GL.r 2 2 [(1, pt p3 0), (8, pt p86 0), (67, .slice B outs.length cb), (68, vi outs.length), (69, vi j), (73, .slice A_j m_j c_j), (74, pt p86 0)] ?_
     refine GL.s 3 (H92.ld (o := 0) (ty := 31) (v := vu x83.pv) 2 rfl (by kernel_rfl) rfl) [(1, pt p3 0), (8, pt p86 0), (67, .slice B outs.length cb), (68, vi outs.length), (69, vi j), (73, .slice A_j m_j c_j), (75, vu x83.pv)] ?_
     refine GL.call (j := 4) (RPut_calls x83.pv 8 hpvx83 (by omega) w90) (by kernel_rfl) rfl (fun e_ w99 hR => ?_)
     obtain ⟨A95, c96, rfl, H98⟩ := hR
     have H97 : Hp w [] [.blk p3 [vu v, vu lt, .slice A ins.length ca, .slice B outs.length cb] 64, .row A_j m_j c_j 5 1 (by8 b_j), .blk p86 [vu x83.pv, .string (strOf x83.lb)] 91, .row A95 8 c96 5 1 (by8 (putB x83.pv 8))] w99 := H92.callNew H98
     refine ⟨_, rfl, [1, 8, 67, 68, 69, 73, 76], [(1, pt p3 0), (8, pt p86 0), (67, .slice B outs.length cb), (68, vi outs.length), (69, vi j), (73, .slice A_j m_j c_j), (76, .slice A95 8 c96)], by kernel_rfl, ?_⟩
     obtain ⟨A100, c101, w102, r103, H104⟩ := H97.append (P := Try.prog) (e := 5) (sz := 1) (by_ := 1) (n := m_j) (c := c_j) (m := 8) (d := c96) (t := 38) (ty := 38) (xs := by8 b_j) (news := by8 (putB x83.pv 8)) 1 rfl (by kernel_rfl) (H97.rdRow 3 rfl) (by first | (simp [by8_length]; done) | (rw [by8_length]; omega) | (rw [by8_length, putB_length])) (by8_one _) (by omega) (by simp only [maxLen]; omega)
     rw [← by8_append] at H104
     refine GL.s 5 (r103) [(1, pt p3 0), (8, pt p86 0), (67, .slice B outs.length cb), (68, vi outs.length), (69, vi j), (77, .slice A100 (m_j + 8) c101)] ?_
     refine GL.r 6 1 [(1, pt p3 0), (3, .slice A100 (m_j + 8) c101), (8, pt p86 0), (67, .slice B outs.length cb), (68, vi outs.length), (69, vi j)] ?_
     refine GL.q hK94 ?_
     refine G.sr fun K105 hK106 => ?_
     refine GL.r 2 2 [(1, pt p3 0), (8, pt p86 0), (67, .slice B outs.length cb), (68, vi outs.length), (69, vi j), (78, .slice A100 (m_j + 8) c101), (79, pt p86 1)] ?_
     refine GL.s 3 (H104.ld (o := 1) (ty := 9) (v := .string (strOf x83.lb)) 2 rfl (by kernel_rfl) rfl) [(1, pt p3 0), (8, pt p86 0), (67, .slice B outs.length cb), (68, vi outs.length), (69, vi j), (78, .slice A100 (m_j + 8) c101), (80, .string (strOf x83.lb))] ?_
     refine GL.r 5 2 [(1, pt p3 0), (8, pt p86 0), (67, .slice B outs.length cb), (68, vi outs.length), (69, vi j), (78, .slice A100 (m_j + 8) c101), (82, lu (IntKind.u64.wrap ((strOf x83.lb).size : Int)))] ?_
     have e107 : (IntKind.u64.wrap ((strOf x83.lb).size : Int)) = ((x83.lb.length : Nat) : Int) := by rw [strOf_size]; exact in_u64 (by omega)
     rw [e107]
     clear e107
     have hcA108 := cntSz_le x83.lb.length
     refine GL.call (j := 6) (RCnt_calls x83.lb.length (by omega) w102) (by kernel_rfl) rfl (fun e_ w112 hR => ?_)
     obtain ⟨A108, c109, rfl, H111⟩ := hR
     have H110 : Hp w [] [.blk p3 [vu v, vu lt, .slice A ins.length ca, .slice B outs.length cb] 64, .row A100 (m_j + 8) c101 5 1 (by8 (b_j ++ (putB x83.pv 8))), .blk p86 [vu x83.pv, .string (strOf x83.lb)] 91, .row A95 8 c96 5 1 (by8 (putB x83.pv 8)), .row A108 (cntSz x83.lb.length) c109 5 1 (by8 (cnt x83.lb.length))] w112 := H104.callNew H111
     refine ⟨_, rfl, [1, 8, 67, 68, 69, 78, 83], [(1, pt p3 0), (8, pt p86 0), (67, .slice B outs.length cb), (68, vi outs.length), (69, vi j), (78, .slice A100 (m_j + 8) c101), (83, .slice A108 (cntSz x83.lb.length) c109)], by kernel_rfl, ?_⟩
     obtain ⟨A113, c114, w115, r116, H117⟩ := H110.append (P := Try.prog) (e := 5) (sz := 1) (by_ := 1) (n := (m_j + 8)) (c := c101) (m := (cntSz x83.lb.length)) (d := c109) (t := 38) (ty := 38) (xs := by8 (b_j ++ (putB x83.pv 8))) (news := by8 (cnt x83.lb.length)) 1 rfl (by kernel_rfl) (H110.rdRow 4 rfl) (by rw [by8_length, cnt_length, Nat.mul_one]) (by8_one _) (by omega) (by simp only [maxLen]; omega)
     rw [← by8_append] at H117
     refine GL.s 7 (r116) [(1, pt p3 0), (8, pt p86 0), (67, .slice B outs.length cb), (68, vi outs.length), (69, vi j), (84, .slice A113 ((m_j + 8) + (cntSz x83.lb.length)) c114)] ?_
     refine GL.r 8 1 [(1, pt p3 0), (3, .slice A113 ((m_j + 8) + (cntSz x83.lb.length)) c114), (8, pt p86 0), (67, .slice B outs.length cb), (68, vi outs.length), (69, vi j)] ?_
     refine GL.q hK106 ?_
     refine G.region ?_
     refine GL.r 2 2 [(1, pt p3 0), (67, .slice B outs.length cb), (68, vi outs.length), (69, vi j), (85, .slice A113 ((m_j + 8) + (cntSz x83.lb.length)) c114), (86, pt p86 1)] ?_
     refine GL.s 3 (H117.ld (o := 1) (ty := 9) (v := .string (strOf x83.lb)) 2 rfl (by kernel_rfl) rfl) [(1, pt p3 0), (67, .slice B outs.length cb), (68, vi outs.length), (69, vi j), (85, .slice A113 ((m_j + 8) + (cntSz x83.lb.length)) c114), (87, .string (strOf x83.lb))] ?_
     obtain ⟨A118, c119, w120, r121, H122⟩ := H117.appendStr (P := Try.prog) (t := 38) (u := 9) (ty := 38) 1 x83.lb rfl (by kernel_rfl) (by kernel_rfl) (by omega)
     rw [← by8_append] at H122
     refine GL.s 4 (r121) [(1, pt p3 0), (67, .slice B outs.length cb), (68, vi outs.length), (69, vi j), (88, .slice A118 (((m_j + 8) + (cntSz x83.lb.length)) + x83.lb.length) c119)] ?_
     refine GL.r 5 1 [(1, pt p3 0), (3, .slice A118 (((m_j + 8) + (cntSz x83.lb.length)) + x83.lb.length) c119), (67, .slice B outs.length cb), (68, vi outs.length), (69, vi j)] ?_
     refine GL.q hK80 ?_
     refine G.region ?_
     refine GL.r 2 2 [(1, pt p3 0), (3, .slice A118 (((m_j + 8) + (cntSz x83.lb.length)) + x83.lb.length) c119), (67, .slice B outs.length cb), (68, vi outs.length), (69, li (IntKind.i64.wrap ((j : Int) + 1)))] ?_
     have e123 : (IntKind.i64.wrap ((j : Int) + 1)) = ((j + 1 : Nat) : Int) := by rw [in_i64 (by omega)]; omega
     rw [e123]
     clear e123
     have H124 : Hp w [] [.blk p3 [vu v, vu lt, .slice A ins.length ca, .slice B outs.length cb] 64, .row A118 (((m_j + 8) + (cntSz x83.lb.length)) + x83.lb.length) c119 5 1 (by8 (((b_j ++ (putB x83.pv 8)) ++ (cnt x83.lb.length)) ++ x83.lb))] w120 := H122.sub (List.Sublist.cons_cons _ (List.Sublist.cons_cons _ (List.Sublist.cons _ (List.Sublist.cons _ (List.Sublist.cons _ (List.Sublist.slnil))))))
     refine GL.fit (ts := [1, 3, 67, 68, 69]) (M' := [(1, pt p3 0), (3, .slice A118 (((m_j + 8) + (cntSz x83.lb.length)) + x83.lb.length) c119), (67, .slice B outs.length cb), (68, vi outs.length), (69, vi (j + 1))]) (by kernel_rfl) ?_
     refine GL.eq (M' := [(1, pt p3 0), (3, .slice A118 (((m_j + 8) + (cntSz x83.lb.length)) + x83.lb.length) c119), (67, .slice B outs.length cb), (68, vi outs.length), (69, vi (j + 1))]) (by rfl) ?_
     exact GL.again ⟨(j + 1), A118, c119, (((m_j + 8) + (cntSz x83.lb.length)) + x83.lb.length), (((b_j ++ (putB x83.pv 8)) ++ (cnt x83.lb.length)) ++ x83.lb)⟩ [1, 3, 67, 68, 69] rfl (by kernel_rfl) (by show outs.length - (j + 1) < outs.length - j; omega) ⟨⟨by omega, by rw [hbj, outsB, outsB, flat_snoc hx84]; simp only [TOut.bytes, List.append_assoc], by omega⟩, H124⟩
 · skip
   have hb39f := of_decide_eq_true hb39
   refine G.yes rfl ?_
   refine G.skipK hK38 (fun _ _ h => h) ?_
   refine G.seqK fun K125 hK126 => ?_
   refine G.block ?_
   refine G.sr fun K127 hK128 => ?_
   obtain ⟨x129, hx130⟩ : ∃ x, ins[i]? = some x := ⟨_, List.getElem?_eq_getElem (by omega)⟩
   have hok131 := hI x129 (List.mem_of_getElem? hx130)
   have hfrx129 := hok131.1
   have hixx129 : x129.ix < K := Nat.lt_trans hok131.2.1 (by decide)
   have hsqx129 : x129.sq < K := Nat.lt_trans hok131.2.2.1 (by decide)
   have hklx129 := hok131.2.2.2
   have hczx129 := cntSz_le x129.kb.length
   refine GL.s 1 (run_idxRdN (P := Try.prog) (k := .i64) (t := 61) (sz := 35) (A := A) (len := ins.length) (cap := ca) (j := i) (by kernel_rfl) rfl (hIns.hp H34) (insR_length (fun x_ h_ => (hI x_ h_).1)) (by decide) (by omega)) [(1, pt p3 0), (3, .slice A_i m_i c_i), (20, .slice A ins.length ca), (21, vi ins.length), (22, vi i), (24, .pointer (Option.map (fun x => Addr.add x (i * 35)) A))] ?_
   refine GL.s 2 (run_ldRdA (P := Try.prog) (ty := 89) (A := A) (o := (i * 35)) (m := 35) (sub := x129.rcells) (by kernel_rfl) (hIns.hp H34) (insR_cut (fun x_ h_ => (hI x_ h_).1) hx130) (TIn.rcells_length hok131.1) (by decide)) [(1, pt p3 0), (3, .slice A_i m_i c_i), (20, .slice A ins.length ca), (21, vi ins.length), (22, vi i), (25, .agg (x129.rcells).toArray)] ?_
   obtain ⟨p132, w133, r134, H135⟩ := H34.alloc (P := Try.prog) 89 (TIn.nil.rcells) (by kernel_rfl)
   refine GL.s 3 (r134) [(1, pt p3 0), (3, .slice A_i m_i c_i), (5, pt p132 0), (20, .slice A ins.length ca), (21, vi ins.length), (22, vi i), (25, .agg (x129.rcells).toArray)] ?_
   obtain ⟨w136, r137, H138⟩ := H135.stA (P := Try.prog) (o := 0) (vs := x129.rcells) (ty := 89) (m := 35) 2 rfl (by kernel_rfl) (TIn.rcells_length hok131.1) (by rw [Nat.zero_add, TIn.rcells_length rfl]; exact Nat.le_refl _) TIn.rcells_one
   rw [tx_whole (TIn.rcells_length rfl)] at H138
   refine GL.u 4 r137 [(1, pt p3 0), (3, .slice A_i m_i c_i), (5, pt p132 0), (20, .slice A ins.length ca), (21, vi ins.length), (22, vi i)] ?_
   refine GL.q hK128 ?_
   refine G.seqK fun K139 hK140 => ?_
   refine G.sr fun K141 hK142 => ?_
   refine GL.r 1 1 [(1, pt p3 0), (3, .slice A_i m_i c_i), (5, pt p132 0), (20, .slice A ins.length ca), (21, vi ins.length), (22, vi i), (26, li 0)] ?_
   refine GL.q hK142 ?_
   refine G.block ?_
   have H143 : Hp w [] [.blk p3 [vu v, vu lt, .slice A ins.length ca, .slice B outs.length cb] 64, .row A_i (m_i + 0) c_i 5 1 (by8 (b_i ++ List.take 0 x129.fr)), .blk p132 (x129.rcells) 89] w136 := (by have h_ := H138; rw [List.take_zero, List.append_nil]; exact h_)
   refine G.eq (M' := [(1, pt p3 0), (3, .slice A_i (m_i + 0) c_i), (5, pt p132 0), (20, .slice A ins.length ca), (21, vi ins.length), (22, vi i), (26, li 0)]) rfl ?_
   refine G.fit [1, 3, 5, 20, 21, 22, 26] (M' := [(1, pt p3 0), (3, .slice A_i (m_i + 0) c_i), (5, pt p132 0), (20, .slice A ins.length ca), (21, vi ins.length), (22, vi i), (26, li 0)]) (by kernel_rfl) ?_
   refine G.loop (X := Nat × Option Addr × Nat) (fun ⟨k143, Ak143, ck143⟩ => [(1, pt p3 0), (3, .slice Ak143 (m_i + k143) ck143), (5, pt p132 0), (20, .slice A ins.length ca), (21, vi ins.length), (22, vi i), (26, vi k143)]) (fun ⟨k143, Ak143, ck143⟩ w_ => (k143 ≤ 32) ∧ Hp w [] [.blk p3 [vu v, vu lt, .slice A ins.length ca, .slice B outs.length cb] 64, .row Ak143 (m_i + k143) ck143 5 1 (by8 (b_i ++ List.take k143 x129.fr)), .blk p132 (x129.rcells) 89] w_) (fun ⟨k143, Ak143, ck143⟩ => 32 - k143) ⟨0, A_i, c_i⟩ [1, 3, 5, 20, 21, 22, 26] (by kernel_rfl) ⟨by omega, H143⟩ ?_
   rintro ⟨k143, Ak143, ck143⟩ w145 ⟨hi146, H147⟩
   refine G.eq (M' := [(1, pt p3 0), (3, .slice Ak143 (m_i + k143) ck143), (5, pt p132 0), (20, .slice A ins.length ca), (21, vi ins.length), (22, vi i), (26, vi k143)]) rfl ?_
   have hk143 := hi146
   refine G.sr fun K148 hK149 => ?_
   refine GL.r 1 1 [(1, pt p3 0), (3, .slice Ak143 (m_i + k143) ck143), (5, pt p132 0), (20, .slice A ins.length ca), (21, vi ins.length), (22, vi i), (26, vi k143), (27, .bool (decide ((k143 : Int) < 32)))] ?_
   refine GL.q hK149 ?_
   refine G.seqK fun K150 hK151 => ?_
   cases hb152 : (decide ((k143 : Int) < 32))
   · skip
     have hb152f := of_decide_eq_false hb152
     obtain rfl : k143 = 32 := by omega
     have H153 : Hp w [] [.blk p3 [vu v, vu lt, .slice A ins.length ca, .slice B outs.length cb] 64, .row Ak143 (m_i + 32) ck143 5 1 (by8 (b_i ++ x129.fr)), .blk p132 (x129.rcells) 89] w145 := (by have h_ := H147; rw [List.take_of_length_le (l := x129.fr) (by omega)] at h_; exact h_)
     refine G.no rfl ?_
     refine G.exitK hK140 (fun _ _ h => h) ?_
     refine G.sr fun K154 hK155 => ?_
     refine GL.r 2 2 [(1, pt p3 0), (5, pt p132 0), (20, .slice A ins.length ca), (21, vi ins.length), (22, vi i), (37, .slice Ak143 (m_i + 32) ck143), (38, pt p132 32)] ?_
     refine GL.s 3 (H153.ld (o := 32) (ty := 31) (v := vu x129.ix) 2 rfl (by kernel_rfl) (TIn.rcells_ix hok131.1)) [(1, pt p3 0), (5, pt p132 0), (20, .slice A ins.length ca), (21, vi ins.length), (22, vi i), (37, .slice Ak143 (m_i + 32) ck143), (39, vu x129.ix)] ?_
     refine GL.call (j := 4) (RPut_calls x129.ix 4 hixx129 (by omega) w145) (by kernel_rfl) rfl (fun e_ w160 hR => ?_)
     obtain ⟨A156, c157, rfl, H159⟩ := hR
     have H158 : Hp w [] [.blk p3 [vu v, vu lt, .slice A ins.length ca, .slice B outs.length cb] 64, .row Ak143 (m_i + 32) ck143 5 1 (by8 (b_i ++ x129.fr)), .blk p132 (x129.rcells) 89, .row A156 4 c157 5 1 (by8 (putB x129.ix 4))] w160 := H153.callNew H159
     refine ⟨_, rfl, [1, 5, 20, 21, 22, 37, 40], [(1, pt p3 0), (5, pt p132 0), (20, .slice A ins.length ca), (21, vi ins.length), (22, vi i), (37, .slice Ak143 (m_i + 32) ck143), (40, .slice A156 4 c157)], by kernel_rfl, ?_⟩
     obtain ⟨A161, c162, w163, r164, H165⟩ := H158.append (P := Try.prog) (e := 5) (sz := 1) (by_ := 1) (n := (m_i + 32)) (c := ck143) (m := 4) (d := c157) (t := 38) (ty := 38) (xs := by8 (b_i ++ x129.fr)) (news := by8 (putB x129.ix 4)) 1 rfl (by kernel_rfl) (H158.rdRow 3 rfl) (by first | (simp [by8_length]; done) | (rw [by8_length]; omega) | (rw [by8_length, putB_length])) (by8_one _) (by omega) (by simp only [maxLen]; omega)
     rw [← by8_append] at H165
     refine GL.s 5 (r164) [(1, pt p3 0), (5, pt p132 0), (20, .slice A ins.length ca), (21, vi ins.length), (22, vi i), (41, .slice A161 ((m_i + 32) + 4) c162)] ?_
     refine GL.r 6 1 [(1, pt p3 0), (3, .slice A161 ((m_i + 32) + 4) c162), (5, pt p132 0), (20, .slice A ins.length ca), (21, vi ins.length), (22, vi i)] ?_
     refine GL.q hK155 ?_
     refine G.sr fun K166 hK167 => ?_
     refine GL.r 2 2 [(1, pt p3 0), (5, pt p132 0), (20, .slice A ins.length ca), (21, vi ins.length), (22, vi i), (42, .slice A161 ((m_i + 32) + 4) c162), (43, pt p132 34)] ?_
     refine GL.s 3 (H165.ld (o := 34) (ty := 9) (v := .string (strOf x129.kb)) 2 rfl (by kernel_rfl) (TIn.rcells_key hok131.1)) [(1, pt p3 0), (5, pt p132 0), (20, .slice A ins.length ca), (21, vi ins.length), (22, vi i), (42, .slice A161 ((m_i + 32) + 4) c162), (44, .string (strOf x129.kb))] ?_
     refine GL.r 5 2 [(1, pt p3 0), (5, pt p132 0), (20, .slice A ins.length ca), (21, vi ins.length), (22, vi i), (42, .slice A161 ((m_i + 32) + 4) c162), (46, lu (IntKind.u64.wrap ((strOf x129.kb).size : Int)))] ?_
     have e168 : (IntKind.u64.wrap ((strOf x129.kb).size : Int)) = ((x129.kb.length : Nat) : Int) := by rw [strOf_size]; exact in_u64 (by omega)
     rw [e168]
     clear e168
     have hcA169 := cntSz_le x129.kb.length
     refine GL.call (j := 6) (RCnt_calls x129.kb.length (by omega) w163) (by kernel_rfl) rfl (fun e_ w173 hR => ?_)
     obtain ⟨A169, c170, rfl, H172⟩ := hR
     have H171 : Hp w [] [.blk p3 [vu v, vu lt, .slice A ins.length ca, .slice B outs.length cb] 64, .row A161 ((m_i + 32) + 4) c162 5 1 (by8 ((b_i ++ x129.fr) ++ (putB x129.ix 4))), .blk p132 (x129.rcells) 89, .row A156 4 c157 5 1 (by8 (putB x129.ix 4)), .row A169 (cntSz x129.kb.length) c170 5 1 (by8 (cnt x129.kb.length))] w173 := H165.callNew H172
     refine ⟨_, rfl, [1, 5, 20, 21, 22, 42, 47], [(1, pt p3 0), (5, pt p132 0), (20, .slice A ins.length ca), (21, vi ins.length), (22, vi i), (42, .slice A161 ((m_i + 32) + 4) c162), (47, .slice A169 (cntSz x129.kb.length) c170)], by kernel_rfl, ?_⟩
     obtain ⟨A174, c175, w176, r177, H178⟩ := H171.append (P := Try.prog) (e := 5) (sz := 1) (by_ := 1) (n := ((m_i + 32) + 4)) (c := c162) (m := (cntSz x129.kb.length)) (d := c170) (t := 38) (ty := 38) (xs := by8 ((b_i ++ x129.fr) ++ (putB x129.ix 4))) (news := by8 (cnt x129.kb.length)) 1 rfl (by kernel_rfl) (H171.rdRow 4 rfl) (by rw [by8_length, cnt_length, Nat.mul_one]) (by8_one _) (by omega) (by simp only [maxLen]; omega)
     rw [← by8_append] at H178
     refine GL.s 7 (r177) [(1, pt p3 0), (5, pt p132 0), (20, .slice A ins.length ca), (21, vi ins.length), (22, vi i), (48, .slice A174 (((m_i + 32) + 4) + (cntSz x129.kb.length)) c175)] ?_
     refine GL.r 8 1 [(1, pt p3 0), (3, .slice A174 (((m_i + 32) + 4) + (cntSz x129.kb.length)) c175), (5, pt p132 0), (20, .slice A ins.length ca), (21, vi ins.length), (22, vi i)] ?_
     refine GL.q hK167 ?_
     refine G.sr fun K179 hK180 => ?_
     refine GL.r 2 2 [(1, pt p3 0), (5, pt p132 0), (20, .slice A ins.length ca), (21, vi ins.length), (22, vi i), (49, .slice A174 (((m_i + 32) + 4) + (cntSz x129.kb.length)) c175), (50, pt p132 34)] ?_
     refine GL.s 3 (H178.ld (o := 34) (ty := 9) (v := .string (strOf x129.kb)) 2 rfl (by kernel_rfl) (TIn.rcells_key hok131.1)) [(1, pt p3 0), (5, pt p132 0), (20, .slice A ins.length ca), (21, vi ins.length), (22, vi i), (49, .slice A174 (((m_i + 32) + 4) + (cntSz x129.kb.length)) c175), (51, .string (strOf x129.kb))] ?_
     obtain ⟨A181, c182, w183, r184, H185⟩ := H178.appendStr (P := Try.prog) (t := 38) (u := 9) (ty := 38) 1 x129.kb rfl (by kernel_rfl) (by kernel_rfl) (by omega)
     rw [← by8_append] at H185
     refine GL.s 4 (r184) [(1, pt p3 0), (5, pt p132 0), (20, .slice A ins.length ca), (21, vi ins.length), (22, vi i), (52, .slice A181 ((((m_i + 32) + 4) + (cntSz x129.kb.length)) + x129.kb.length) c182)] ?_
     refine GL.r 5 1 [(1, pt p3 0), (3, .slice A181 ((((m_i + 32) + 4) + (cntSz x129.kb.length)) + x129.kb.length) c182), (5, pt p132 0), (20, .slice A ins.length ca), (21, vi ins.length), (22, vi i)] ?_
     refine GL.q hK180 ?_
     refine G.region ?_
     refine GL.r 2 2 [(1, pt p3 0), (20, .slice A ins.length ca), (21, vi ins.length), (22, vi i), (53, .slice A181 ((((m_i + 32) + 4) + (cntSz x129.kb.length)) + x129.kb.length) c182), (54, pt p132 33)] ?_
     refine GL.s 3 (H185.ld (o := 33) (ty := 31) (v := vu x129.sq) 2 rfl (by kernel_rfl) (TIn.rcells_sq hok131.1)) [(1, pt p3 0), (20, .slice A ins.length ca), (21, vi ins.length), (22, vi i), (53, .slice A181 ((((m_i + 32) + 4) + (cntSz x129.kb.length)) + x129.kb.length) c182), (55, vu x129.sq)] ?_
     refine GL.call (j := 4) (RPut_calls x129.sq 4 hsqx129 (by omega) w183) (by kernel_rfl) rfl (fun e_ w190 hR => ?_)
     obtain ⟨A186, c187, rfl, H189⟩ := hR
     have H188 : Hp w [] [.blk p3 [vu v, vu lt, .slice A ins.length ca, .slice B outs.length cb] 64, .row A181 ((((m_i + 32) + 4) + (cntSz x129.kb.length)) + x129.kb.length) c182 5 1 (by8 ((((b_i ++ x129.fr) ++ (putB x129.ix 4)) ++ (cnt x129.kb.length)) ++ x129.kb)), .blk p132 (x129.rcells) 89, .row A156 4 c157 5 1 (by8 (putB x129.ix 4)), .row A169 (cntSz x129.kb.length) c170 5 1 (by8 (cnt x129.kb.length)), .row A186 4 c187 5 1 (by8 (putB x129.sq 4))] w190 := H185.callNew H189
     refine ⟨_, rfl, [1, 20, 21, 22, 53, 56], [(1, pt p3 0), (20, .slice A ins.length ca), (21, vi ins.length), (22, vi i), (53, .slice A181 ((((m_i + 32) + 4) + (cntSz x129.kb.length)) + x129.kb.length) c182), (56, .slice A186 4 c187)], by kernel_rfl, ?_⟩
     obtain ⟨A191, c192, w193, r194, H195⟩ := H188.append (P := Try.prog) (e := 5) (sz := 1) (by_ := 1) (n := ((((m_i + 32) + 4) + (cntSz x129.kb.length)) + x129.kb.length)) (c := c182) (m := 4) (d := c187) (t := 38) (ty := 38) (xs := by8 ((((b_i ++ x129.fr) ++ (putB x129.ix 4)) ++ (cnt x129.kb.length)) ++ x129.kb)) (news := by8 (putB x129.sq 4)) 1 rfl (by kernel_rfl) (H188.rdRow 5 rfl) (by first | (simp [by8_length]; done) | (rw [by8_length]; omega) | (rw [by8_length, putB_length])) (by8_one _) (by omega) (by simp only [maxLen]; omega)
     rw [← by8_append] at H195
     refine GL.s 5 (r194) [(1, pt p3 0), (20, .slice A ins.length ca), (21, vi ins.length), (22, vi i), (57, .slice A191 (((((m_i + 32) + 4) + (cntSz x129.kb.length)) + x129.kb.length) + 4) c192)] ?_
     refine GL.r 6 1 [(1, pt p3 0), (3, .slice A191 (((((m_i + 32) + 4) + (cntSz x129.kb.length)) + x129.kb.length) + 4) c192), (20, .slice A ins.length ca), (21, vi ins.length), (22, vi i)] ?_
     refine GL.q hK126 ?_
     refine G.region ?_
     refine GL.r 2 2 [(1, pt p3 0), (3, .slice A191 (((((m_i + 32) + 4) + (cntSz x129.kb.length)) + x129.kb.length) + 4) c192), (20, .slice A ins.length ca), (21, vi ins.length), (22, li (IntKind.i64.wrap ((i : Int) + 1)))] ?_
     have e196 : (IntKind.i64.wrap ((i : Int) + 1)) = ((i + 1 : Nat) : Int) := by rw [in_i64 (by omega)]; omega
     rw [e196]
     clear e196
     have H197 : Hp w [] [.blk p3 [vu v, vu lt, .slice A ins.length ca, .slice B outs.length cb] 64, .row A191 (((((m_i + 32) + 4) + (cntSz x129.kb.length)) + x129.kb.length) + 4) c192 5 1 (by8 (((((b_i ++ x129.fr) ++ (putB x129.ix 4)) ++ (cnt x129.kb.length)) ++ x129.kb) ++ (putB x129.sq 4)))] w193 := H195.sub (List.Sublist.cons_cons _ (List.Sublist.cons_cons _ (List.Sublist.cons _ (List.Sublist.cons _ (List.Sublist.cons _ (List.Sublist.cons _ (List.Sublist.slnil)))))))
     refine GL.fit (ts := [1, 3, 20, 21, 22]) (M' := [(1, pt p3 0), (3, .slice A191 (((((m_i + 32) + 4) + (cntSz x129.kb.length)) + x129.kb.length) + 4) c192), (20, .slice A ins.length ca), (21, vi ins.length), (22, vi (i + 1))]) (by kernel_rfl) ?_
     refine GL.eq (M' := [(1, pt p3 0), (3, .slice A191 (((((m_i + 32) + 4) + (cntSz x129.kb.length)) + x129.kb.length) + 4) c192), (20, .slice A ins.length ca), (21, vi ins.length), (22, vi (i + 1))]) (by rfl) ?_
     exact GL.again ⟨(i + 1), A191, c192, (((((m_i + 32) + 4) + (cntSz x129.kb.length)) + x129.kb.length) + 4), (((((b_i ++ x129.fr) ++ (putB x129.ix 4)) ++ (cnt x129.kb.length)) ++ x129.kb) ++ (putB x129.sq 4))⟩ [1, 3, 20, 21, 22] rfl (by kernel_rfl) (by show ins.length - (i + 1) < ins.length - i; omega) ⟨⟨by omega, by rw [hbi, insB, insB, flat_snoc hx130]; simp only [TIn.bytes, List.append_assoc], by omega⟩, H197⟩
   · skip
     have hb152f := of_decide_eq_true hb152
     refine G.yes rfl ?_
     refine G.skipK hK151 (fun _ _ h => h) ?_
     refine G.seqK fun K198 hK199 => ?_
     refine G.block ?_
     refine G.sr fun K200 hK201 => ?_
     refine GL.r 2 2 [(1, pt p3 0), (3, .slice Ak143 (m_i + k143) ck143), (5, pt p132 0), (6, vi k143), (20, .slice A ins.length ca), (21, vi ins.length), (22, vi i), (26, vi k143)] ?_
     refine GL.q hK201 ?_
     refine G.region ?_
     refine GL.r 3 3 [(1, pt p3 0), (5, pt p132 0), (20, .slice A ins.length ca), (21, vi ins.length), (22, vi i), (26, vi k143), (29, .slice Ak143 (m_i + k143) ck143), (30, vi k143), (31, pt p132 0)] ?_
     refine GL.s 4 (run_idxArr (P := Try.prog) (k := .i64) (t := 50) (len := 32) (sz := 1) (b := p132) (o := 0) (j := k143) (by kernel_rfl) rfl (by omega)) [(1, pt p3 0), (5, pt p132 0), (20, .slice A ins.length ca), (21, vi ins.length), (22, vi i), (26, vi k143), (29, .slice Ak143 (m_i + k143) ck143), (32, pt p132 (0 + k143 * 1))] ?_
     refine GL.s 5 (H147.ld (o := (0 + k143 * 1)) (ty := 5) (v := .int .u8 (((x129.fr.getD k143 0)).toNat : Int)) 2 rfl (by kernel_rfl) (TIn.rcells_byte hok131.1 (by omega))) [(1, pt p3 0), (5, pt p132 0), (20, .slice A ins.length ca), (21, vi ins.length), (22, vi i), (26, vi k143), (29, .slice Ak143 (m_i + k143) ck143), (33, lb (((x129.fr.getD k143 0)).toNat : Int))] ?_
     obtain ⟨p202, w203, r204, H205⟩ := H147.madeRow (P := Try.prog) (Instr.buildSlice 38 1 #[(0, lb (((x129.fr.getD k143 0)).toNat : Int))]) (fun b_ => .slice (some ⟨b_, 0, none⟩) 1 1) [lb (((x129.fr.getD k143 0)).toNat : Int)] 5 1 1 1 (by kernel_rfl) (by decide) (by decide) rfl
     refine GL.s 6 (r204) [(1, pt p3 0), (5, pt p132 0), (20, .slice A ins.length ca), (21, vi ins.length), (22, vi i), (26, vi k143), (29, .slice Ak143 (m_i + k143) ck143), (34, .slice (some ⟨p202, 0, none⟩) 1 1)] ?_
     obtain ⟨A206, c207, w208, r209, H210⟩ := H205.append (P := Try.prog) (e := 5) (sz := 1) (by_ := 1) (n := (m_i + k143)) (c := ck143) (m := 1) (d := 1) (t := 38) (ty := 38) (xs := by8 (b_i ++ List.take k143 x129.fr)) (news := by8 ([((x129.fr.getD k143 0))] : List UInt8)) 1 rfl (by kernel_rfl) (H205.rdRow 3 rfl) (by first | (simp [by8_length]; done) | (rw [by8_length]; omega) | (rw [by8_length, putB_length])) (by8_one _) (by omega) (by simp only [maxLen]; omega)
     rw [← by8_append] at H210
     refine GL.s 7 (r209) [(1, pt p3 0), (5, pt p132 0), (20, .slice A ins.length ca), (21, vi ins.length), (22, vi i), (26, vi k143), (35, .slice A206 ((m_i + k143) + 1) c207)] ?_
     refine GL.r 8 1 [(1, pt p3 0), (3, .slice A206 ((m_i + k143) + 1) c207), (5, pt p132 0), (20, .slice A ins.length ca), (21, vi ins.length), (22, vi i), (26, vi k143)] ?_
     refine GL.q hK199 ?_
     refine G.region ?_
     refine GL.r 2 2 [(1, pt p3 0), (3, .slice A206 ((m_i + k143) + 1) c207), (5, pt p132 0), (20, .slice A ins.length ca), (21, vi ins.length), (22, vi i), (26, li (IntKind.i64.wrap ((k143 : Int) + 1)))] ?_
     have e211 : (IntKind.i64.wrap ((k143 : Int) + 1)) = ((k143 + 1 : Nat) : Int) := by rw [in_i64 (by omega)]; omega
     rw [e211]
     clear e211
     have H212 : Hp w [] [.blk p3 [vu v, vu lt, .slice A ins.length ca, .slice B outs.length cb] 64, .row A206 ((m_i + k143) + 1) c207 5 1 (by8 ((b_i ++ List.take k143 x129.fr) ++ ([((x129.fr.getD k143 0))] : List UInt8))), .blk p132 (x129.rcells) 89] w208 := H210.sub (List.Sublist.cons_cons _ (List.Sublist.cons_cons _ (List.Sublist.cons_cons _ (List.Sublist.cons _ (List.Sublist.slnil)))))
     have H213 : Hp w [] [.blk p3 [vu v, vu lt, .slice A ins.length ca, .slice B outs.length cb] 64, .row A206 (m_i + (k143 + 1)) c207 5 1 (by8 (b_i ++ List.take (k143 + 1) x129.fr)), .blk p132 (x129.rcells) 89] w208 := by rw [take_byte (by omega), ← List.append_assoc]; exact H212
     refine GL.fit (ts := [1, 3, 5, 20, 21, 22, 26]) (M' := [(1, pt p3 0), (3, .slice A206 ((m_i + k143) + 1) c207), (5, pt p132 0), (20, .slice A ins.length ca), (21, vi ins.length), (22, vi i), (26, vi (k143 + 1))]) (by kernel_rfl) ?_
     refine GL.eq (M' := [(1, pt p3 0), (3, .slice A206 (m_i + (k143 + 1)) c207), (5, pt p132 0), (20, .slice A ins.length ca), (21, vi ins.length), (22, vi i), (26, vi (k143 + 1))]) (by rfl) ?_
     exact GL.again ⟨(k143 + 1), A206, c207⟩ [1, 3, 5, 20, 21, 22, 26] rfl (by kernel_rfl) (by show 32 - (k143 + 1) < 32 - k143; omega) ⟨by omega, H213⟩
end Go.Proofs.Ytcedmbdahbdmaaa
set_option maxRecDepth 100000
namespace Go.Proofs.Ytcedmbdahbdmaaa
open Go.RowKit
theorem Grow_nil (n : Nat) (hn : n ≤ 1099511627776) (w : World) : Calls Try.prog 72 #[.slice none 0 0, .int .i64 (n : Int)] w fun e w' =>
   ∃ A c, e = .returned (.slice A 0 c) ∧ n ≤ c ∧ Hp w [] [.row A 0 c 5 1 (by8 [])] w' := by
 refine calls_G (args := [.slice none 0 0, vi n]) Try.func72 rfl Try.ntmps72 rfl ?_
 intro Q0 hRet hNor hPan
 have H := Hp.start w
 refine G.sr fun K1 hK2 => ?_
 refine GL.r 1 1 [(0, .slice none 0 0), (1, vi n)] ?_
 refine GL.q hK2 ?_
 refine G.seqK fun K3 hK4 => ?_
 refine G.sr fun K5 hK6 => ?_
 refine GL.r 2 2 [(0, .slice none 0 0), (1, vi n), (6, .bool (decide ((n : Int) < 0)))] ?_
 refine GL.q hK6 ?_
 have hb7 : (decide ((n : Int) < 0)) = false := decide_eq_false (by omega)
 rw [hb7]
 refine G.no rfl ?_
 refine G.skipK hK4 (fun _ _ h => h) ?_
 refine G.seqK fun K8 hK9 => ?_
 refine G.sr fun K10 hK11 => ?_
 refine GL.r 8 8 [(0, .slice none 0 0), (1, li (IntKind.i64.wrap ((n : Int) - 0)))] ?_
 have e12 : (IntKind.i64.wrap ((n : Int) - 0)) = (n : Int) := by rw [in_i64 (by omega)]; omega
 rw [e12]
 clear e12
 refine GL.q hK11 ?_
 refine G.sr fun K13 hK14 => ?_
 refine GL.r 2 2 [(0, .slice none 0 0), (1, vi n), (16, .bool (decide (0 < (n : Int))))] ?_
 refine GL.q hK14 ?_
 cases hb15 : (decide (0 < (n : Int)))
 · skip
   have hb15f := of_decide_eq_false hb15
   have hn0 : n = 0 := by have := of_decide_eq_false hb15; omega
   refine G.no rfl ?_
   refine G.skipK hK9 (fun _ _ h => h) ?_
   refine G.sr fun K16 hK17 => ?_
   refine GL.r 2 2 [(4, .slice none 0 0)] ?_
   refine GL.q hK17 ?_
   refine G.ret fun F_ hF_ hM_ => hRet _ _ (bodyPost_1 rfl (RV.tmp rfl) ?_ F_ hF_ hM_)
   exact ⟨none, 0, rfl, by omega, H.rowNil 5 1⟩
 · skip
   have hb15f := of_decide_eq_true hb15
   have hn0 : 0 < n := by have := of_decide_eq_true hb15; omega
   refine G.yes rfl ?_
   refine G.region ?_
   refine GL.r 5 5 [(0, .slice none 0 0), (20, .slice none 0 0), (21, vi n)] ?_
   obtain ⟨b18, c19, w20, r21, hc22, H23⟩ := H.appendMake (P := Try.prog) (t := 38) (ti := 3) (ty := 38) (by_ := 1) (n := n) (by kernel_rfl) (by kernel_rfl) (by assumption) (by omega) (by simp only [maxLen]; omega)
   refine GL.s 6 (r21) [(0, .slice none 0 0), (22, .slice (some ⟨b18, 0, none⟩) n c19)] ?_
   refine GL.r 8 2 [(22, .slice (some ⟨b18, 0, none⟩) n c19), (24, li 0)] ?_
   refine GL.s 9 (run_sliceSl0 (P := Try.prog) (lo := none) (hi := some (li 0)) (t := 38) (len := n) (cap := c19) (A := (some ⟨b18, 0, none⟩)) (h := 0) (by kernel_rfl) (Or.inl ⟨rfl, rfl⟩) (Or.inr ⟨_, _, rfl, rfl⟩) (by omega)) [(25, .slice (some ⟨b18, 0, none⟩) 0 c19)] ?_
   refine GL.r 10 1 [(0, .slice (some ⟨b18, 0, none⟩) 0 c19)] ?_
   refine GL.q hK9 ?_
   refine G.sr fun K24 hK25 => ?_
   refine GL.r 2 2 [(4, .slice (some ⟨b18, 0, none⟩) 0 c19)] ?_
   refine GL.q hK25 ?_
   refine G.ret fun F_ hF_ hM_ => hRet _ _ (bodyPost_1 rfl (RV.tmp rfl) ?_ F_ hF_ hM_)
   exact ⟨_, _, rfl, by omega, H23⟩
theorem Concat_calls (b : Nat) (vs : List SB) (w : World) (hb : Blk w b (vs.map sv) 38) (hr : ∀ s ∈ vs, RdS w s.1 (by8 s.2.2)) (hn : (flat vs).length ≤ 1099511627776) (hvs : vs.length ≤ 1099511627776) :
   Calls Try.prog 53 #[.slice (some ⟨b, 0, none⟩) vs.length vs.length] w fun e w' => ∃ A c, e = .returned (.slice A (flat vs).length c) ∧ Hp w [] [.row A (flat vs).length c 5 1 (by8 (flat vs))] w' := by
 refine calls_G (args := [.slice (some ⟨b, 0, none⟩) vs.length vs.length]) Try.func53 rfl Try.ntmps53 rfl ?_
 intro Q0 hRet hNor hPan
 have H := Hp.start w
 refine G.sr fun K1 hK2 => ?_
 refine GL.r 1 1 [(0, .slice (some ⟨b, 0, none⟩) vs.length vs.length)] ?_
 refine GL.q hK2 ?_
 refine G.sr fun K3 hK4 => ?_
 refine GL.r 1 1 [(0, .slice (some ⟨b, 0, none⟩) vs.length vs.length), (3, li 0)] ?_
 refine GL.q hK4 ?_
 refine G.seqK fun K5 hK6 => ?_
 refine G.sr fun K7 hK8 => ?_
 refine GL.r 3 3 [(0, .slice (some ⟨b, 0, none⟩) vs.length vs.length), (3, li 0), (9, .slice (some ⟨b, 0, none⟩) vs.length vs.length), (10, vi vs.length), (11, li 0)] ?_
 refine GL.q hK8 ?_
 refine G.block ?_
 refine G.fit [0, 3, 9, 10, 11] (M' := [(0, .slice (some ⟨b, 0, none⟩) vs.length vs.length), (3, li 0), (9, .slice (some ⟨b, 0, none⟩) vs.length vs.length), (10, vi vs.length), (11, li 0)]) (by kernel_rfl) ?_
 refine G.eq (M' := [(0, .slice (some ⟨b, 0, none⟩) vs.length vs.length), (3, vi ((flat (vs.take 0)).length)), (9, .slice (some ⟨b, 0, none⟩) vs.length vs.length), (10, vi vs.length), (11, li 0)]) (by rfl) ?_
 refine G.loop (X := Nat) (fun k => [(0, .slice (some ⟨b, 0, none⟩) vs.length vs.length), (3, vi ((flat (vs.take k)).length)), (9, .slice (some ⟨b, 0, none⟩) vs.length vs.length), (10, vi vs.length), (11, vi k)]) (fun k w_ => (k ≤ vs.length) ∧ Hp w [] [] w_) (fun k => vs.length - (k)) 0 [0, 3, 9, 10, 11] (by kernel_rfl) ⟨Nat.zero_le _, H⟩ ?_
 rintro k w9 ⟨hi10, H11⟩
 refine G.eq (M' := [(0, .slice (some ⟨b, 0, none⟩) vs.length vs.length), (3, vi ((flat (vs.take k)).length)), (9, .slice (some ⟨b, 0, none⟩) vs.length vs.length), (10, vi vs.length), (11, vi k)]) rfl ?_
 have hk := hi10
 refine G.sr fun K12 hK13 => ?_
 refine GL.r 1 1 [(0, .slice (some ⟨b, 0, none⟩) vs.length vs.length), (3, vi ((flat (vs.take k)).length)), (9, .slice (some ⟨b, 0, none⟩) vs.length vs.length), (10, vi vs.length), (11, vi k), (12, .bool (decide ((k : Int) < (vs.length : Int))))] ?_
 refine GL.q hK13 ?_
 refine G.seqK fun K14 hK15 => ?_
 cases hb16 : (decide ((k : Int) < (vs.length : Int)))
 · skip
   have hb16f := of_decide_eq_false hb16
   have hge : vs.length ≤ k := by have := of_decide_eq_false hb16; omega
   refine G.no rfl ?_
   refine G.exitK hK6 (fun _ _ h => h) ?_
   refine G.sr fun K17 hK18 => ?_
   refine GL.r 1 1 [(0, .slice (some ⟨b, 0, none⟩) vs.length vs.length), (23, vi ((flat (vs.take k)).length))] ?_
   have e0 : vs.take k = vs := List.take_of_length_le (by omega)
   rw [e0]
   refine GL.call (j := 2) (Grow_nil ((flat vs).length) (by omega) w9) (by kernel_rfl) rfl (fun e_ w21 hR => ?_)
   obtain ⟨A19, c20, rfl, _, H23⟩ := hR
   have H22 : Hp w [] [.row A19 0 c20 5 1 (by8 [])] w21 := H11.callNew H23
   refine ⟨_, rfl, [0, 24], [(0, .slice (some ⟨b, 0, none⟩) vs.length vs.length), (24, .slice A19 0 c20)], by kernel_rfl, ?_⟩
   refine GL.r 3 1 [(0, .slice (some ⟨b, 0, none⟩) vs.length vs.length), (6, .slice A19 0 c20)] ?_
   refine GL.q hK18 ?_
   refine G.seqK fun K24 hK25 => ?_
   refine G.sr fun K26 hK27 => ?_
   refine GL.r 3 3 [(6, .slice A19 0 c20), (25, .slice (some ⟨b, 0, none⟩) vs.length vs.length), (26, vi vs.length), (27, li 0)] ?_
   refine GL.q hK27 ?_
   refine G.block ?_
   refine G.fit [6, 25, 26, 27] (M' := [(6, .slice A19 0 c20), (25, .slice (some ⟨b, 0, none⟩) vs.length vs.length), (26, vi vs.length), (27, li 0)]) (by kernel_rfl) ?_
   refine G.eq (M' := [(6, .slice A19 ((flat (vs.take 0)).length) c20), (25, .slice (some ⟨b, 0, none⟩) vs.length vs.length), (26, vi vs.length), (27, li 0)]) (by rfl) ?_
   refine G.loop (X := Nat × Option Addr × Nat) (fun ⟨k, A, c⟩ => [(6, .slice A ((flat (vs.take k)).length) c), (25, .slice (some ⟨b, 0, none⟩) vs.length vs.length), (26, vi vs.length), (27, vi k)]) (fun ⟨k, A, c⟩ w_ => (k ≤ vs.length) ∧ Hp w [] [.row A ((flat (vs.take k)).length) c 5 1 (by8 (flat (vs.take k)))] w_) (fun ⟨k, A, c⟩ => vs.length - (k)) ⟨0, A19, c20⟩ [6, 25, 26, 27] (by kernel_rfl) ⟨Nat.zero_le _, H22⟩ ?_
   rintro ⟨k, A, c⟩ w28 ⟨hi29, H30⟩
   refine G.eq (M' := [(6, .slice A ((flat (vs.take k)).length) c), (25, .slice (some ⟨b, 0, none⟩) vs.length vs.length), (26, vi vs.length), (27, vi k)]) rfl ?_
   have hk := hi29
   refine G.sr fun K31 hK32 => ?_
   refine GL.r 1 1 [(6, .slice A ((flat (vs.take k)).length) c), (25, .slice (some ⟨b, 0, none⟩) vs.length vs.length), (26, vi vs.length), (27, vi k), (28, .bool (decide ((k : Int) < (vs.length : Int))))] ?_
   refine GL.q hK32 ?_
   refine G.seqK fun K33 hK34 => ?_
   cases hb35 : (decide ((k : Int) < (vs.length : Int)))
   · skip
     have hb35f := of_decide_eq_false hb35
     have hge : vs.length ≤ k := by have := of_decide_eq_false hb35; omega
     refine G.no rfl ?_
     refine G.exitK hK25 (fun _ _ h => h) ?_
     refine G.sr fun K36 hK37 => ?_
     refine GL.r 2 2 [(2, .slice A ((flat (vs.take k)).length) c)] ?_
     refine GL.q hK37 ?_
     refine G.ret fun F_ hF_ hM_ => hRet _ _ (bodyPost_1 rfl (RV.tmp rfl) ?_ F_ hF_ hM_)
     have e0 : vs.take k = vs := List.take_of_length_le (by omega)
     rw [e0] at H30 ⊢
     exact ⟨_, _, rfl, H30⟩
   · skip
     have hb35f := of_decide_eq_true hb35
     have hlt : k < vs.length := by have := of_decide_eq_true hb35; omega
     obtain ⟨s, hs⟩ : ∃ s, vs[k]? = some s := ⟨vs[k], List.getElem?_eq_getElem hlt⟩
     have e1 := flat_take hs
     have e2 := flat_le vs (k + 1)
     rw [e1, List.length_append] at e2
     refine G.yes rfl ?_
     refine G.skipK hK34 (fun _ _ h => h) ?_
     refine G.seqK fun K38 hK39 => ?_
     refine G.block ?_
     refine G.sr fun K40 hK41 => ?_
     refine GL.s 1 (run_idxSl (P := Try.prog) (k := .i64) (t := 125) (sz := 1) (a := ⟨b, 0, none⟩) (len := vs.length) (cap := vs.length) (j := k) (by kernel_rfl) rfl (by first | rfl | omega | (simp only [List.length_cons, List.length_nil, List.length_drop, List.length_take, List.length_append] <;> omega))) [(6, .slice A ((flat (vs.take k)).length) c), (25, .slice (some ⟨b, 0, none⟩) vs.length vs.length), (26, vi vs.length), (27, vi k), (29, .pointer (some (Addr.add ⟨b, 0, none⟩ (k * 1))))] ?_
     refine GL.s 2 (run_ld1 (P := Try.prog) (ty := 38) (a := (Addr.add ⟨b, 0, none⟩ (k * 1))) (v := sv s) (by kernel_rfl) (by rw [addr_add, (H30.oldBlk hb).cell]; simp [hs])) [(6, .slice A ((flat (vs.take k)).length) c), (25, .slice (some ⟨b, 0, none⟩) vs.length vs.length), (26, vi vs.length), (27, vi k), (30, .slice s.1 s.2.2.length s.2.1)] ?_
     refine GL.r 3 1 [(6, .slice A ((flat (vs.take k)).length) c), (8, .slice s.1 s.2.2.length s.2.1), (25, .slice (some ⟨b, 0, none⟩) vs.length vs.length), (26, vi vs.length), (27, vi k)] ?_
     refine GL.q hK41 ?_
     refine G.region ?_
     refine GL.r 2 2 [(25, .slice (some ⟨b, 0, none⟩) vs.length vs.length), (26, vi vs.length), (27, vi k), (31, .slice A ((flat (vs.take k)).length) c), (32, .slice s.1 s.2.2.length s.2.1)] ?_
     obtain ⟨A42, c43, w44, r45, H46⟩ := H30.append (P := Try.prog) (e := 5) (sz := 1) (by_ := 1) (n := (flat (vs.take k)).length) (c := c) (m := s.2.2.length) (d := s.2.1) (t := 38) (ty := 38) (xs := by8 (flat (vs.take k))) (news := by8 s.2.2) 0 rfl (by kernel_rfl) ((hr s (List.mem_of_getElem? hs)).hp H30) (by simp [by8_length]) (by8_one _) (by omega) (by simp only [maxLen]; omega)
     rw [← by8_append] at H46
     refine GL.s 3 (r45) [(25, .slice (some ⟨b, 0, none⟩) vs.length vs.length), (26, vi vs.length), (27, vi k), (33, .slice A42 ((flat (vs.take k)).length + s.2.2.length) c43)] ?_
     refine GL.r 4 1 [(6, .slice A42 ((flat (vs.take k)).length + s.2.2.length) c43), (25, .slice (some ⟨b, 0, none⟩) vs.length vs.length), (26, vi vs.length), (27, vi k)] ?_
     refine GL.q hK39 ?_
     refine G.region ?_
     refine GL.r 2 2 [(6, .slice A42 ((flat (vs.take k)).length + s.2.2.length) c43), (25, .slice (some ⟨b, 0, none⟩) vs.length vs.length), (26, vi vs.length), (27, li (IntKind.i64.wrap ((k : Int) + 1)))] ?_
     have e47 : (IntKind.i64.wrap ((k : Int) + 1)) = ((k + 1 : Nat) : Int) := by rw [in_i64 (by omega)]; omega
     rw [e47]
     clear e47
     have H48 : Hp w [] [.row A42 ((flat (vs.take (k + 1))).length) c43 5 1 (by8 (flat (vs.take (k + 1))))] w44 := by rw [e1, List.length_append]; exact H46
     refine GL.fit (ts := [6, 25, 26, 27]) (M' := [(6, .slice A42 ((flat (vs.take k)).length + s.2.2.length) c43), (25, .slice (some ⟨b, 0, none⟩) vs.length vs.length), (26, vi vs.length), (27, vi (k + 1))]) (by kernel_rfl) ?_
     refine GL.eq (M' := [(6, .slice A42 ((flat (vs.take (k + 1))).length) c43), (25, .slice (some ⟨b, 0, none⟩) vs.length vs.length), (26, vi vs.length), (27, vi (k + 1))]) (by rw [e1, List.length_append]) ?_
     exact GL.again ⟨k + 1, A42, c43⟩ [6, 25, 26, 27] rfl (by kernel_rfl) (by show vs.length - (k + 1) < vs.length - (k); omega) ⟨by omega, H48⟩
 · skip
   have hb16f := of_decide_eq_true hb16
   have hlt : k < vs.length := by have := of_decide_eq_true hb16; omega
   obtain ⟨s, hs⟩ : ∃ s, vs[k]? = some s := ⟨vs[k], List.getElem?_eq_getElem hlt⟩
   have e1 := flat_take hs
   have e2 := flat_le vs (k + 1)
   rw [e1, List.length_append] at e2
   refine G.yes rfl ?_
   refine G.skipK hK15 (fun _ _ h => h) ?_
   refine G.seqK fun K49 hK50 => ?_
   refine G.block ?_
   refine G.sr fun K51 hK52 => ?_
   refine GL.s 1 (run_idxSl (P := Try.prog) (k := .i64) (t := 125) (sz := 1) (a := ⟨b, 0, none⟩) (len := vs.length) (cap := vs.length) (j := k) (by kernel_rfl) rfl (by first | rfl | omega | (simp only [List.length_cons, List.length_nil, List.length_drop, List.length_take, List.length_append] <;> omega))) [(0, .slice (some ⟨b, 0, none⟩) vs.length vs.length), (3, vi ((flat (vs.take k)).length)), (9, .slice (some ⟨b, 0, none⟩) vs.length vs.length), (10, vi vs.length), (11, vi k), (13, .pointer (some (Addr.add ⟨b, 0, none⟩ (k * 1))))] ?_
   refine GL.s 2 (run_ld1 (P := Try.prog) (ty := 38) (a := (Addr.add ⟨b, 0, none⟩ (k * 1))) (v := sv s) (by kernel_rfl) (by rw [addr_add, (H11.oldBlk hb).cell]; simp [hs])) [(0, .slice (some ⟨b, 0, none⟩) vs.length vs.length), (3, vi ((flat (vs.take k)).length)), (9, .slice (some ⟨b, 0, none⟩) vs.length vs.length), (10, vi vs.length), (11, vi k), (14, .slice s.1 s.2.2.length s.2.1)] ?_
   refine GL.r 3 1 [(0, .slice (some ⟨b, 0, none⟩) vs.length vs.length), (3, vi ((flat (vs.take k)).length)), (5, .slice s.1 s.2.2.length s.2.1), (9, .slice (some ⟨b, 0, none⟩) vs.length vs.length), (10, vi vs.length), (11, vi k)] ?_
   refine GL.q hK52 ?_
   refine G.sr fun K53 hK54 => ?_
   refine GL.r 5 5 [(0, .slice (some ⟨b, 0, none⟩) vs.length vs.length), (3, li (IntKind.i64.wrap ((((flat (vs.take k)).length : Nat) : Int) + (s.2.2.length : Int)))), (9, .slice (some ⟨b, 0, none⟩) vs.length vs.length), (10, vi vs.length), (11, vi k)] ?_
   have e55 : (IntKind.i64.wrap ((((flat (vs.take k)).length : Nat) : Int) + (s.2.2.length : Int))) = ((((flat (vs.take k)).length) + s.2.2.length : Nat) : Int) := by rw [in_i64 (by first | rfl | omega | (simp only [List.length_cons, List.length_nil, List.length_drop, List.length_take, List.length_append] <;> omega))]; omega
   rw [e55]
   clear e55
   refine GL.q hK54 ?_
   refine G.sr fun K56 hK57 => ?_
   refine GL.r 2 2 [(0, .slice (some ⟨b, 0, none⟩) vs.length vs.length), (3, vi (((flat (vs.take k)).length) + s.2.2.length)), (9, .slice (some ⟨b, 0, none⟩) vs.length vs.length), (10, vi vs.length), (11, vi k), (20, .bool (decide (((((flat (vs.take k)).length) + s.2.2.length : Nat) : Int) < 0)))] ?_
   refine GL.q hK57 ?_
   have hb58 : (decide (((((flat (vs.take k)).length) + s.2.2.length : Nat) : Int) < 0)) = false := decide_eq_false (by omega)
   rw [hb58]
   refine G.no rfl ?_
   refine G.skipK hK50 (fun _ _ h => h) ?_
   refine G.region ?_
   refine GL.r 2 2 [(0, .slice (some ⟨b, 0, none⟩) vs.length vs.length), (3, vi (((flat (vs.take k)).length) + s.2.2.length)), (9, .slice (some ⟨b, 0, none⟩) vs.length vs.length), (10, vi vs.length), (11, li (IntKind.i64.wrap ((k : Int) + 1)))] ?_
   have e59 : (IntKind.i64.wrap ((k : Int) + 1)) = ((k + 1 : Nat) : Int) := by rw [in_i64 (by omega)]; omega
   rw [e59]
   clear e59
   refine GL.fit (ts := [0, 3, 9, 10, 11]) (M' := [(0, .slice (some ⟨b, 0, none⟩) vs.length vs.length), (3, vi (((flat (vs.take k)).length) + s.2.2.length)), (9, .slice (some ⟨b, 0, none⟩) vs.length vs.length), (10, vi vs.length), (11, vi (k + 1))]) (by kernel_rfl) ?_
   refine GL.eq (M' := [(0, .slice (some ⟨b, 0, none⟩) vs.length vs.length), (3, vi ((flat (vs.take (k + 1))).length)), (9, .slice (some ⟨b, 0, none⟩) vs.length vs.length), (10, vi vs.length), (11, vi (k + 1))]) (by rw [e1, List.length_append]) ?_
   exact GL.again (k + 1) [0, 3, 9, 10, 11] rfl (by kernel_rfl) (by show vs.length - (k + 1) < vs.length - (k); omega) ⟨by omega, H11⟩
theorem Equal_calls (xs ys : List UInt8) (A B : Option Addr) (c d : Nat) (w : World) (hx : RdS w A (by8 xs)) (hy : RdS w B (by8 ys)) : Calls Try.prog 29 #[.slice A xs.length c, .slice B ys.length d] w fun e w' => e = .returned (.bool (xs == ys)) ∧ Hp w [] [] w' := by
 refine calls_G (args := [.slice A xs.length c, .slice B ys.length d]) Try.func29 rfl Try.ntmps29 rfl ?_
 intro Q0 hRet hNor hPan
 have H := Hp.start w
 refine G.sr fun K1 hK2 => ?_
 refine GL.r 1 1 [(0, .slice A xs.length c), (1, .slice B ys.length d)] ?_
 refine GL.q hK2 ?_
 refine G.sr fun K3 hK4 => ?_
 refine GL.r 1 1 [(1, .slice B ys.length d), (5, .slice A xs.length c)] ?_
 refine GL.s 2 (run_toStr (P := Try.prog) (src := 38) (dst := 9) (A := A) (bs := xs) (n := xs.length) (c := c) (by kernel_rfl) (by kernel_rfl) (hx.hp H) (rfl)) [(1, .slice B ys.length d), (6, .string (strOf xs))] ?_
 refine GL.r 3 1 [(6, .string (strOf xs)), (7, .slice B ys.length d)] ?_
 refine GL.s 4 (run_toStr (P := Try.prog) (src := 38) (dst := 9) (A := B) (bs := ys) (n := ys.length) (c := d) (by kernel_rfl) (by kernel_rfl) (hy.hp H) (rfl)) [(6, .string (strOf xs)), (8, .string (strOf ys))] ?_
 refine GL.s 5 (run_str_eql (P := Try.prog) (t := 9) xs ys _) [(9, .bool (xs == ys))] ?_
 refine GL.r 6 1 [(4, .bool (xs == ys))] ?_
 refine GL.q hK4 ?_
 refine G.ret fun F_ hF_ hM_ => hRet _ _ (bodyPost_1 rfl (RV.tmp rfl) ?_ F_ hF_ hM_)
 exact ⟨rfl, H.sub (List.nil_sublist _)⟩
theorem SClone_calls (xs : List UInt8) (A : Option Addr) (c : Nat) (w : World) (hx : RdS w A (by8 xs)) (hA : A.isNone = false) (hn : xs.length ≤ 1099511627776) : Calls Try.prog 30 #[.slice A xs.length c] w fun e w' => ∃ A c, e = .returned ((.slice A xs.length c)) ∧ Hp w [] [.row A xs.length c 5 1 (by8 xs)] w' := by
 refine calls_G (args := [.slice A xs.length c]) Try.func30 rfl Try.ntmps30 rfl ?_
 intro Q0 hRet hNor hPan
 have H := Hp.start w
 have H : Hp w [] [] w := H
 refine G.seqK fun K1 hK2 => ?_
 refine G.region ?_
 refine GL.run (j := 1) 1 [0] [(0, .slice A xs.length c)] (by kernel_rfl) rfl ?_
 refine GL.k rfl hK2 (fun _ _ h => h) ?_
 refine G.seqK fun K3 hK4 => ?_
 refine G.seqK fun K5 hK6 => ?_
 refine G.region ?_
 refine GL.run (j := 1) 1 [0, 3] [(0, .slice A xs.length c), (3, .slice A xs.length c)] (by kernel_rfl) rfl ?_
 refine GL.sem (j := 2) (run_sl_nil (P := Try.prog) (sz := 1) (t := 38) (n := xs.length) (c := c) (A := A) (by kernel_rfl) _) [0, 4] [(0, .slice A xs.length c), (4, .bool (Option.isNone A))] (by kernel_rfl) (by kernel_rfl) rfl ?_
 refine GL.k rfl hK6 (fun _ _ h => h) ?_
 have hb7 : (Option.isNone A) = false := hA
 rw [hb7]
 refine G.no rfl ?_
 refine G.skipK hK4 (fun _ _ h => h) ?_
 refine G.seqK fun K8 hK9 => ?_
 refine G.region ?_
 obtain ⟨p10, w11, r12, H13⟩ := H.madeRow (P := Try.prog) (Instr.buildSlice 38 0 #[]) (fun b_ => .slice (some ⟨b_, 0, none⟩) 0 0) [] 5 0 0 1 (by kernel_rfl) (by decide) (by decide) rfl
 have H13 : Hp w [] [.row (some ⟨p10, 0, none⟩) 0 0 5 1 (by8 ([] : List UInt8))] w11 := H13
 refine GL.sem (j := 1) (r12) [0, 5] [(0, .slice A xs.length c), (5, .slice (some ⟨p10, 0, none⟩) 0 0)] (by kernel_rfl) (by kernel_rfl) rfl ?_
 refine GL.run (j := 2) 1 [5, 6] [(5, .slice (some ⟨p10, 0, none⟩) 0 0), (6, .slice A xs.length c)] (by kernel_rfl) rfl ?_
 obtain ⟨A14, c15, w16, r17, H18⟩ := H13.append (P := Try.prog) (e := 5) (sz := 1) (by_ := 1) (n := 0) (c := 0) (m := xs.length) (d := c) (t := 38) (ty := 38) (xs := by8 ([] : List UInt8)) (news := by8 xs) 0 rfl (by kernel_rfl) (hx.hp H13) (by simp [by8_length]) (by8_one _) (by omega) (by simp only [maxLen]; omega)
 rw [Nat.zero_add] at r17 H18
 have H18 : Hp w [] [.row A14 xs.length c15 5 1 (by8 xs)] w16 := H18
 refine GL.sem (j := 3) (r17) [7] [(7, .slice A14 xs.length c15)] (by kernel_rfl) (by kernel_rfl) rfl ?_
 refine GL.run (j := 4) 1 [2] [(2, .slice A14 xs.length c15)] (by kernel_rfl) rfl ?_
 refine GL.k rfl hK9 (fun _ _ h => h) ?_
 refine G.ret ?_
 intro F_ hF_ hM_
 refine hRet _ _ (bodyPost_1 rfl (RV.tmp rfl) ?_ F_ hF_ hM_)
 exact ⟨_, _, rfl, H18.sub (by simp)⟩
end Go.Proofs.Ytcedmbdahbdmaaa
set_option maxRecDepth 100000
namespace Go.Proofs.Ytcedmbdahbdmaaa
open Go.RowKit
theorem u8_of {n : Nat} (h : n < 256) : IntKind.u8.wrap (n : Int) = ((UInt8.ofNat n).toNat : Int) := by
 rw [in_u8 (by omega), UInt8.toNat_ofNat']
 omega
theorem Bytes_addr (a0 a1 a2 a3 a4 a5 a6 a7 a8 a9 a10 a11 a12 a13 a14 a15 a16 a17 a18 a19 : UInt8) (A : Option Addr) (n c : Nat) (w : World) : Calls Try.prog 25 #[.agg #[.int .i64 1, .int .u8 (a0.toNat : Int), .int .u8 (a1.toNat : Int), .int .u8 (a2.toNat : Int), .int .u8 (a3.toNat : Int), .int .u8 (a4.toNat : Int), .int .u8 (a5.toNat : Int), .int .u8 (a6.toNat : Int), .int .u8 (a7.toNat : Int), .int .u8 (a8.toNat : Int), .int .u8 (a9.toNat : Int), .int .u8 (a10.toNat : Int), .int .u8 (a11.toNat : Int), .int .u8 (a12.toNat : Int), .int .u8 (a13.toNat : Int), .int .u8 (a14.toNat : Int), .int .u8 (a15.toNat : Int), .int .u8 (a16.toNat : Int), .int .u8 (a17.toNat : Int), .int .u8 (a18.toNat : Int), .int .u8 (a19.toNat : Int), .slice A n c]] w fun e w' => ∃ A c, e = .returned (.tuple #[.slice A ([118, 169, 20, a0, a1, a2, a3, a4, a5, a6, a7, a8, a9, a10, a11, a12, a13, a14, a15, a16, a17, a18, a19, 136, 172] : List UInt8).length c, .int .i64 0]) ∧ Hp w [] [.row A ([118, 169, 20, a0, a1, a2, a3, a4, a5, a6, a7, a8, a9, a10, a11, a12, a13, a14, a15, a16, a17, a18, a19, 136, 172] : List UInt8).length c 5 1 (by8 ([118, 169, 20, a0, a1, a2, a3, a4, a5, a6, a7, a8, a9, a10, a11, a12, a13, a14, a15, a16, a17, a18, a19, 136, 172] : List UInt8))] w' := by
 refine calls_G (args := [.agg #[li 1, lb (a0.toNat : Int), lb (a1.toNat : Int), lb (a2.toNat : Int), lb (a3.toNat : Int), lb (a4.toNat : Int), lb (a5.toNat : Int), lb (a6.toNat : Int), lb (a7.toNat : Int), lb (a8.toNat : Int), lb (a9.toNat : Int), lb (a10.toNat : Int), lb (a11.toNat : Int), lb (a12.toNat : Int), lb (a13.toNat : Int), lb (a14.toNat : Int), lb (a15.toNat : Int), lb (a16.toNat : Int), lb (a17.toNat : Int), lb (a18.toNat : Int), lb (a19.toNat : Int), .slice A n c]]) Try.func25 rfl Try.ntmps25 rfl ?_
 intro Q0 hRet hNor hPan
 have H := Hp.start w
 refine G.sr fun K1 hK2 => ?_
 obtain ⟨p3, w4, r5, H6⟩ := H.box (P := Try.prog) 43 [li 1, lb (a0.toNat : Int), lb (a1.toNat : Int), lb (a2.toNat : Int), lb (a3.toNat : Int), lb (a4.toNat : Int), lb (a5.toNat : Int), lb (a6.toNat : Int), lb (a7.toNat : Int), lb (a8.toNat : Int), lb (a9.toNat : Int), lb (a10.toNat : Int), lb (a11.toNat : Int), lb (a12.toNat : Int), lb (a13.toNat : Int), lb (a14.toNat : Int), lb (a15.toNat : Int), lb (a16.toNat : Int), lb (a17.toNat : Int), lb (a18.toNat : Int), lb (a19.toNat : Int), .slice A n c] (.agg #[li 1, lb (a0.toNat : Int), lb (a1.toNat : Int), lb (a2.toNat : Int), lb (a3.toNat : Int), lb (a4.toNat : Int), lb (a5.toNat : Int), lb (a6.toNat : Int), lb (a7.toNat : Int), lb (a8.toNat : Int), lb (a9.toNat : Int), lb (a10.toNat : Int), lb (a11.toNat : Int), lb (a12.toNat : Int), lb (a13.toNat : Int), lb (a14.toNat : Int), lb (a15.toNat : Int), lb (a16.toNat : Int), lb (a17.toNat : Int), lb (a18.toNat : Int), lb (a19.toNat : Int), .slice A n c]) rfl
 refine GL.s 1 (r5) [(1, pt p3 0)] ?_
 refine GL.r 3 2 [(1, pt p3 0)] ?_
 refine GL.q hK2 ?_
 refine G.seqK fun K7 hK8 => ?_
 refine G.sr fun K9 hK10 => ?_
 refine GL.r 1 1 [(1, pt p3 0), (4, pt p3 0)] ?_
 refine GL.s 2 (H6.ld (o := 0) (ty := 41) (v := .int .i64 1) 0 rfl (by kernel_rfl) rfl) [(1, pt p3 0), (5, li 1)] ?_
 refine GL.q hK10 ?_
 refine G.block ?_
 refine G.sr fun K11 hK12 => ?_
 refine GL.r 2 2 [(1, pt p3 0), (5, li 1), (6, .bool true)] ?_
 refine GL.q hK12 ?_
 refine G.yes rfl ?_
 refine G.sr fun K13 hK14 => ?_
 obtain ⟨p15, w16, r17, H18⟩ := H6.made (P := Try.prog) (Instr.buildSlice 38 3 #[(0, lb 118), (1, lb 169), (2, lb 20)]) (fun b_ => .slice (some ⟨b_, 0, none⟩) 3 3) [lb 118, lb 169, lb 20] 5 (by kernel_rfl)
 refine GL.s 1 (r17) [(1, pt p3 0), (8, .slice (some ⟨p15, 0, none⟩) 3 3)] ?_
 refine GL.r 3 2 [(8, .slice (some ⟨p15, 0, none⟩) 3 3), (10, .slice (some ⟨p3, 1, none⟩) 20 20)] ?_
 obtain ⟨p19, w20, r21, H22⟩ := H18.made (P := Try.prog) (Instr.buildSlice 38 2 #[(0, lb 136), (1, lb 172)]) (fun b_ => .slice (some ⟨b_, 0, none⟩) 2 2) [lb 136, lb 172] 5 (by kernel_rfl)
 refine GL.s 4 (r21) [(8, .slice (some ⟨p15, 0, none⟩) 3 3), (10, .slice (some ⟨p3, 1, none⟩) 20 20), (11, .slice (some ⟨p19, 0, none⟩) 2 2)] ?_
 obtain ⟨p23, w24, r25, H26⟩ := H22.made (P := Try.prog) (Instr.buildSlice 125 3 #[(0, .slice (some ⟨p15, 0, none⟩) 3 3), (1, .slice (some ⟨p3, 1, none⟩) 20 20), (2, .slice (some ⟨p19, 0, none⟩) 2 2)]) (fun b_ => .slice (some ⟨b_, 0, none⟩) 3 3) [.slice (some ⟨p15, 0, none⟩) 3 3, .slice (some ⟨p3, 1, none⟩) 20 20, .slice (some ⟨p19, 0, none⟩) 2 2] 38 (by kernel_rfl)
 refine GL.s 5 (r25) [(12, .slice (some ⟨p23, 0, none⟩) 3 3)] ?_
 have hr27 : ∀ s ∈ ([(some ⟨p15, 0, none⟩, 3, ([118, 169, 20] : List UInt8)), ((some ⟨p3, 1, none⟩), 20, ([a0, a1, a2, a3, a4, a5, a6, a7, a8, a9, a10, a11, a12, a13, a14, a15, a16, a17, a18, a19] : List UInt8)), (some ⟨p19, 0, none⟩, 2, ([136, 172] : List UInt8))] : List SB), RdS w24 s.1 (by8 s.2.2) := by
   intro s hs
   simp only [List.mem_cons, List.not_mem_nil, or_false] at hs
   rcases hs with rfl | rfl | rfl
   · exact H26.rdBlk (o := 0) (xs := by8 ([118, 169, 20] : List UInt8)) 1 3 rfl rfl
   · exact H26.rdBlk (o := 1) (xs := by8 ([a0, a1, a2, a3, a4, a5, a6, a7, a8, a9, a10, a11, a12, a13, a14, a15, a16, a17, a18, a19] : List UInt8)) 0 20 rfl rfl
   · exact H26.rdBlk (o := 0) (xs := by8 ([136, 172] : List UInt8)) 2 2 rfl rfl
 have hX28 : flat ([(some ⟨p15, 0, none⟩, 3, ([118, 169, 20] : List UInt8)), ((some ⟨p3, 1, none⟩), 20, ([a0, a1, a2, a3, a4, a5, a6, a7, a8, a9, a10, a11, a12, a13, a14, a15, a16, a17, a18, a19] : List UInt8)), (some ⟨p19, 0, none⟩, 2, ([136, 172] : List UInt8))] : List SB) = ([118, 169, 20, a0, a1, a2, a3, a4, a5, a6, a7, a8, a9, a10, a11, a12, a13, a14, a15, a16, a17, a18, a19, 136, 172] : List UInt8) := rfl
 have hX28n : (flat ([(some ⟨p15, 0, none⟩, 3, ([118, 169, 20] : List UInt8)), ((some ⟨p3, 1, none⟩), 20, ([a0, a1, a2, a3, a4, a5, a6, a7, a8, a9, a10, a11, a12, a13, a14, a15, a16, a17, a18, a19] : List UInt8)), (some ⟨p19, 0, none⟩, 2, ([136, 172] : List UInt8))] : List SB)).length ≤ 1099511627776 := by rw [hX28]; simp; try omega
 refine GL.call (j := 6) (Concat_calls p23 ([(some ⟨p15, 0, none⟩, 3, ([118, 169, 20] : List UInt8)), ((some ⟨p3, 1, none⟩), 20, ([a0, a1, a2, a3, a4, a5, a6, a7, a8, a9, a10, a11, a12, a13, a14, a15, a16, a17, a18, a19] : List UInt8)), (some ⟨p19, 0, none⟩, 2, ([136, 172] : List UInt8))] : List SB) w24 (H26.blkAt 3 rfl) hr27 hX28n (by simp)) (by kernel_rfl) rfl (fun e_ w29 hR => ?_)
 rw [hX28] at hR
 obtain ⟨A30, c31, rfl, H33⟩ := hR
 have H32 : Hp w [] [.blk p3 [li 1, lb (a0.toNat : Int), lb (a1.toNat : Int), lb (a2.toNat : Int), lb (a3.toNat : Int), lb (a4.toNat : Int), lb (a5.toNat : Int), lb (a6.toNat : Int), lb (a7.toNat : Int), lb (a8.toNat : Int), lb (a9.toNat : Int), lb (a10.toNat : Int), lb (a11.toNat : Int), lb (a12.toNat : Int), lb (a13.toNat : Int), lb (a14.toNat : Int), lb (a15.toNat : Int), lb (a16.toNat : Int), lb (a17.toNat : Int), lb (a18.toNat : Int), lb (a19.toNat : Int), .slice A n c] 43, .blk p15 [lb 118, lb 169, lb 20] 5, .blk p19 [lb 136, lb 172] 5, .blk p23 [.slice (some ⟨p15, 0, none⟩) 3 3, .slice (some ⟨p3, 1, none⟩) 20 20, .slice (some ⟨p19, 0, none⟩) 2 2] 38, .row A30 ((([118, 169, 20, a0, a1, a2, a3, a4, a5, a6, a7, a8, a9, a10, a11, a12, a13, a14, a15, a16, a17, a18, a19, 136, 172] : List UInt8)).length) c31 5 1 (by8 ([118, 169, 20, a0, a1, a2, a3, a4, a5, a6, a7, a8, a9, a10, a11, a12, a13, a14, a15, a16, a17, a18, a19, 136, 172] : List UInt8))] w29 := H26.callNew H33
 refine ⟨_, rfl, [13], [(13, .slice A30 ((([118, 169, 20, a0, a1, a2, a3, a4, a5, a6, a7, a8, a9, a10, a11, a12, a13, a14, a15, a16, a17, a18, a19, 136, 172] : List UInt8)).length) c31)], by kernel_rfl, ?_⟩
 refine GL.r 8 2 [(2, .slice A30 ((([118, 169, 20, a0, a1, a2, a3, a4, a5, a6, a7, a8, a9, a10, a11, a12, a13, a14, a15, a16, a17, a18, a19, 136, 172] : List UInt8)).length) c31), (3, li 0)] ?_
 refine GL.q hK14 ?_
 refine G.ret fun F_ hF_ hM_ => hRet _ _ (bodyPost_2 rfl (RV.tmp rfl) (RV.tmp rfl) ?_ F_ hF_ hM_)
 exact ⟨_, _, rfl, H32.sub (by simp)⟩
theorem Bytes_tag (a0 a1 a2 a3 a4 a5 a6 a7 a8 a9 a10 a11 a12 a13 a14 a15 a16 a17 a18 a19 : UInt8) (bs : List UInt8) (A : Option Addr) (c : Nat) (w : World) (hr : RdS w A (by8 bs)) (h1 : 1 ≤ bs.length) (h40 : bs.length ≤ 40) : Calls Try.prog 25 #[.agg #[.int .i64 2, .int .u8 (a0.toNat : Int), .int .u8 (a1.toNat : Int), .int .u8 (a2.toNat : Int), .int .u8 (a3.toNat : Int), .int .u8 (a4.toNat : Int), .int .u8 (a5.toNat : Int), .int .u8 (a6.toNat : Int), .int .u8 (a7.toNat : Int), .int .u8 (a8.toNat : Int), .int .u8 (a9.toNat : Int), .int .u8 (a10.toNat : Int), .int .u8 (a11.toNat : Int), .int .u8 (a12.toNat : Int), .int .u8 (a13.toNat : Int), .int .u8 (a14.toNat : Int), .int .u8 (a15.toNat : Int), .int .u8 (a16.toNat : Int), .int .u8 (a17.toNat : Int), .int .u8 (a18.toNat : Int), .int .u8 (a19.toNat : Int), .slice A bs.length c]] w fun e w' => ∃ A c, e = .returned (.tuple #[.slice A (106 :: UInt8.ofNat bs.length :: bs).length c, .int .i64 0]) ∧ Hp w [] [.row A (106 :: UInt8.ofNat bs.length :: bs).length c 5 1 (by8 (106 :: UInt8.ofNat bs.length :: bs))] w' := by
 refine calls_G (args := [.agg #[li 2, lb (a0.toNat : Int), lb (a1.toNat : Int), lb (a2.toNat : Int), lb (a3.toNat : Int), lb (a4.toNat : Int), lb (a5.toNat : Int), lb (a6.toNat : Int), lb (a7.toNat : Int), lb (a8.toNat : Int), lb (a9.toNat : Int), lb (a10.toNat : Int), lb (a11.toNat : Int), lb (a12.toNat : Int), lb (a13.toNat : Int), lb (a14.toNat : Int), lb (a15.toNat : Int), lb (a16.toNat : Int), lb (a17.toNat : Int), lb (a18.toNat : Int), lb (a19.toNat : Int), .slice A bs.length c]]) Try.func25 rfl Try.ntmps25 rfl ?_
 intro Q0 hRet hNor hPan
 have H := Hp.start w
 refine G.sr fun K1 hK2 => ?_
 obtain ⟨p3, w4, r5, H6⟩ := H.box (P := Try.prog) 43 [li 2, lb (a0.toNat : Int), lb (a1.toNat : Int), lb (a2.toNat : Int), lb (a3.toNat : Int), lb (a4.toNat : Int), lb (a5.toNat : Int), lb (a6.toNat : Int), lb (a7.toNat : Int), lb (a8.toNat : Int), lb (a9.toNat : Int), lb (a10.toNat : Int), lb (a11.toNat : Int), lb (a12.toNat : Int), lb (a13.toNat : Int), lb (a14.toNat : Int), lb (a15.toNat : Int), lb (a16.toNat : Int), lb (a17.toNat : Int), lb (a18.toNat : Int), lb (a19.toNat : Int), .slice A bs.length c] (.agg #[li 2, lb (a0.toNat : Int), lb (a1.toNat : Int), lb (a2.toNat : Int), lb (a3.toNat : Int), lb (a4.toNat : Int), lb (a5.toNat : Int), lb (a6.toNat : Int), lb (a7.toNat : Int), lb (a8.toNat : Int), lb (a9.toNat : Int), lb (a10.toNat : Int), lb (a11.toNat : Int), lb (a12.toNat : Int), lb (a13.toNat : Int), lb (a14.toNat : Int), lb (a15.toNat : Int), lb (a16.toNat : Int), lb (a17.toNat : Int), lb (a18.toNat : Int), lb (a19.toNat : Int), .slice A bs.length c]) rfl
 refine GL.s 1 (r5) [(1, pt p3 0)] ?_
 refine GL.r 3 2 [(1, pt p3 0)] ?_
 refine GL.q hK2 ?_
 refine G.seqK fun K7 hK8 => ?_
 refine G.sr fun K9 hK10 => ?_
 refine GL.r 1 1 [(1, pt p3 0), (4, pt p3 0)] ?_
 refine GL.s 2 (H6.ld (o := 0) (ty := 41) (v := .int .i64 2) 0 rfl (by kernel_rfl) rfl) [(1, pt p3 0), (5, li 2)] ?_
 refine GL.q hK10 ?_
 refine G.block ?_
 refine G.sr fun K11 hK12 => ?_
 refine GL.r 2 2 [(1, pt p3 0), (5, li 2), (6, .bool false)] ?_
 refine GL.q hK12 ?_
 refine G.no rfl ?_
 refine G.sr fun K13 hK14 => ?_
 refine GL.r 2 2 [(1, pt p3 0), (14, .bool true)] ?_
 refine GL.q hK14 ?_
 refine G.yes rfl ?_
 refine G.seqK fun K15 hK16 => ?_
 refine G.sr fun K17 hK18 => ?_
 refine GL.r 1 1 [(1, pt p3 0), (16, pt p3 21)] ?_
 refine GL.s 2 (H6.ld (o := 21) (ty := 38) (v := .slice A bs.length c) 0 rfl (by kernel_rfl) rfl) [(1, pt p3 0), (17, .slice A bs.length c)] ?_
 refine GL.r 5 3 [(1, pt p3 0), (20, .bool ((bs.length : Int) == 0))] ?_
 have hb19 : ((bs.length : Int) == 0) = false := beq_eq_false_iff_ne.2 (by omega)
 rw [hb19]
 refine GL.r 6 1 [(1, pt p3 0), (20, .bool false), (21, pt p3 21)] ?_
 refine GL.s 7 (H6.ld (o := 21) (ty := 38) (v := .slice A bs.length c) 0 rfl (by kernel_rfl) rfl) [(1, pt p3 0), (20, .bool false), (22, .slice A bs.length c)] ?_
 refine GL.r 10 3 [(1, pt p3 0), (25, .bool (decide (40 < (bs.length : Int))))] ?_
 refine GL.q hK18 ?_
 have hb20 : (decide (40 < (bs.length : Int))) = false := decide_eq_false (by omega)
 rw [hb20]
 refine G.no rfl ?_
 refine G.skipK hK16 (fun _ _ h => h) ?_
 refine G.sr fun K21 hK22 => ?_
 refine GL.r 1 1 [(1, pt p3 0), (26, pt p3 21)] ?_
 refine GL.s 2 (H6.ld (o := 21) (ty := 38) (v := .slice A bs.length c) 0 rfl (by kernel_rfl) rfl) [(1, pt p3 0), (27, .slice A bs.length c)] ?_
 refine GL.r 4 2 [(1, pt p3 0), (29, lb (IntKind.u8.wrap (bs.length : Int)))] ?_
 have e23 : (IntKind.u8.wrap (bs.length : Int)) = ((UInt8.ofNat bs.length).toNat : Int) := u8_of (by omega)
 rw [e23]
 clear e23
 obtain ⟨p24, w25, r26, H27⟩ := H6.made (P := Try.prog) (Instr.buildSlice 38 2 #[(0, lb 106), (1, lb ((UInt8.ofNat bs.length).toNat : Int))]) (fun b_ => .slice (some ⟨b_, 0, none⟩) 2 2) [lb 106, lb ((UInt8.ofNat bs.length).toNat : Int)] 5 (by kernel_rfl)
 refine GL.s 5 (r26) [(1, pt p3 0), (30, .slice (some ⟨p24, 0, none⟩) 2 2)] ?_
 refine GL.r 6 1 [(30, .slice (some ⟨p24, 0, none⟩) 2 2), (31, pt p3 21)] ?_
 refine GL.s 7 (H27.ld (o := 21) (ty := 38) (v := .slice A bs.length c) 0 rfl (by kernel_rfl) rfl) [(30, .slice (some ⟨p24, 0, none⟩) 2 2), (32, .slice A bs.length c)] ?_
 obtain ⟨p28, w29, r30, H31⟩ := H27.made (P := Try.prog) (Instr.buildSlice 125 2 #[(0, .slice (some ⟨p24, 0, none⟩) 2 2), (1, .slice A bs.length c)]) (fun b_ => .slice (some ⟨b_, 0, none⟩) 2 2) [.slice (some ⟨p24, 0, none⟩) 2 2, .slice A bs.length c] 38 (by kernel_rfl)
 refine GL.s 8 (r30) [(33, .slice (some ⟨p28, 0, none⟩) 2 2)] ?_
 have hr32 : ∀ s ∈ ([(some ⟨p24, 0, none⟩, 2, ([106, (UInt8.ofNat bs.length)] : List UInt8)), (A, c, bs)] : List SB), RdS w29 s.1 (by8 s.2.2) := by
   intro s hs
   simp only [List.mem_cons, List.not_mem_nil, or_false] at hs
   rcases hs with rfl | rfl
   · exact H31.rdBlk (o := 0) (xs := by8 ([106, (UInt8.ofNat bs.length)] : List UInt8)) 1 2 rfl rfl
   · exact hr.hp H31
 have hX33 : flat ([(some ⟨p24, 0, none⟩, 2, ([106, (UInt8.ofNat bs.length)] : List UInt8)), (A, c, bs)] : List SB) = (106 :: UInt8.ofNat bs.length :: bs) := by simp [flat]
 have hX33n : (flat ([(some ⟨p24, 0, none⟩, 2, ([106, (UInt8.ofNat bs.length)] : List UInt8)), (A, c, bs)] : List SB)).length ≤ 1099511627776 := by rw [hX33]; simp; try omega
 refine GL.call (j := 9) (Concat_calls p28 ([(some ⟨p24, 0, none⟩, 2, ([106, (UInt8.ofNat bs.length)] : List UInt8)), (A, c, bs)] : List SB) w29 (H31.blkAt 2 rfl) hr32 hX33n (by simp)) (by kernel_rfl) rfl (fun e_ w34 hR => ?_)
 rw [hX33] at hR
 obtain ⟨A35, c36, rfl, H38⟩ := hR
 have H37 : Hp w [] [.blk p3 [li 2, lb (a0.toNat : Int), lb (a1.toNat : Int), lb (a2.toNat : Int), lb (a3.toNat : Int), lb (a4.toNat : Int), lb (a5.toNat : Int), lb (a6.toNat : Int), lb (a7.toNat : Int), lb (a8.toNat : Int), lb (a9.toNat : Int), lb (a10.toNat : Int), lb (a11.toNat : Int), lb (a12.toNat : Int), lb (a13.toNat : Int), lb (a14.toNat : Int), lb (a15.toNat : Int), lb (a16.toNat : Int), lb (a17.toNat : Int), lb (a18.toNat : Int), lb (a19.toNat : Int), .slice A bs.length c] 43, .blk p24 [lb 106, lb ((UInt8.ofNat bs.length).toNat : Int)] 5, .blk p28 [.slice (some ⟨p24, 0, none⟩) 2 2, .slice A bs.length c] 38, .row A35 (((106 :: UInt8.ofNat bs.length :: bs)).length) c36 5 1 (by8 (106 :: UInt8.ofNat bs.length :: bs))] w34 := H31.callNew H38
 refine ⟨_, rfl, [34], [(34, .slice A35 (((106 :: UInt8.ofNat bs.length :: bs)).length) c36)], by kernel_rfl, ?_⟩
 refine GL.r 11 2 [(2, .slice A35 (((106 :: UInt8.ofNat bs.length :: bs)).length) c36), (3, li 0)] ?_
 refine GL.q hK22 ?_
 refine G.ret fun F_ hF_ hM_ => hRet _ _ (bodyPost_2 rfl (RV.tmp rfl) (RV.tmp rfl) ?_ F_ hF_ hM_)
 exact ⟨_, _, rfl, H37.sub (by simp)⟩
theorem Bytes_long (a0 a1 a2 a3 a4 a5 a6 a7 a8 a9 a10 a11 a12 a13 a14 a15 a16 a17 a18 a19 : UInt8) (A : Option Addr) (n c : Nat) (w : World) (hn : n = 0 ∨ 40 < n) : Calls Try.prog 25 #[.agg #[.int .i64 2, .int .u8 (a0.toNat : Int), .int .u8 (a1.toNat : Int), .int .u8 (a2.toNat : Int), .int .u8 (a3.toNat : Int), .int .u8 (a4.toNat : Int), .int .u8 (a5.toNat : Int), .int .u8 (a6.toNat : Int), .int .u8 (a7.toNat : Int), .int .u8 (a8.toNat : Int), .int .u8 (a9.toNat : Int), .int .u8 (a10.toNat : Int), .int .u8 (a11.toNat : Int), .int .u8 (a12.toNat : Int), .int .u8 (a13.toNat : Int), .int .u8 (a14.toNat : Int), .int .u8 (a15.toNat : Int), .int .u8 (a16.toNat : Int), .int .u8 (a17.toNat : Int), .int .u8 (a18.toNat : Int), .int .u8 (a19.toNat : Int), .slice A n c]] w fun e w' => e = .returned (.tuple #[.slice none 0 0, .int .i64 3]) ∧ Hp w [] [] w' := by
 refine calls_G (args := [.agg #[li 2, lb (a0.toNat : Int), lb (a1.toNat : Int), lb (a2.toNat : Int), lb (a3.toNat : Int), lb (a4.toNat : Int), lb (a5.toNat : Int), lb (a6.toNat : Int), lb (a7.toNat : Int), lb (a8.toNat : Int), lb (a9.toNat : Int), lb (a10.toNat : Int), lb (a11.toNat : Int), lb (a12.toNat : Int), lb (a13.toNat : Int), lb (a14.toNat : Int), lb (a15.toNat : Int), lb (a16.toNat : Int), lb (a17.toNat : Int), lb (a18.toNat : Int), lb (a19.toNat : Int), .slice A n c]]) Try.func25 rfl Try.ntmps25 rfl ?_
 intro Q0 hRet hNor hPan
 have H := Hp.start w
 refine G.sr fun K1 hK2 => ?_
 obtain ⟨p3, w4, r5, H6⟩ := H.box (P := Try.prog) 43 [li 2, lb (a0.toNat : Int), lb (a1.toNat : Int), lb (a2.toNat : Int), lb (a3.toNat : Int), lb (a4.toNat : Int), lb (a5.toNat : Int), lb (a6.toNat : Int), lb (a7.toNat : Int), lb (a8.toNat : Int), lb (a9.toNat : Int), lb (a10.toNat : Int), lb (a11.toNat : Int), lb (a12.toNat : Int), lb (a13.toNat : Int), lb (a14.toNat : Int), lb (a15.toNat : Int), lb (a16.toNat : Int), lb (a17.toNat : Int), lb (a18.toNat : Int), lb (a19.toNat : Int), .slice A n c] (.agg #[li 2, lb (a0.toNat : Int), lb (a1.toNat : Int), lb (a2.toNat : Int), lb (a3.toNat : Int), lb (a4.toNat : Int), lb (a5.toNat : Int), lb (a6.toNat : Int), lb (a7.toNat : Int), lb (a8.toNat : Int), lb (a9.toNat : Int), lb (a10.toNat : Int), lb (a11.toNat : Int), lb (a12.toNat : Int), lb (a13.toNat : Int), lb (a14.toNat : Int), lb (a15.toNat : Int), lb (a16.toNat : Int), lb (a17.toNat : Int), lb (a18.toNat : Int), lb (a19.toNat : Int), .slice A n c]) rfl
 refine GL.s 1 (r5) [(1, pt p3 0)] ?_
 refine GL.r 3 2 [(1, pt p3 0)] ?_
 refine GL.q hK2 ?_
 refine G.seqK fun K7 hK8 => ?_
 refine G.sr fun K9 hK10 => ?_
 refine GL.r 1 1 [(1, pt p3 0), (4, pt p3 0)] ?_
 refine GL.s 2 (H6.ld (o := 0) (ty := 41) (v := .int .i64 2) 0 rfl (by kernel_rfl) rfl) [(1, pt p3 0), (5, li 2)] ?_
 refine GL.q hK10 ?_
 refine G.block ?_
 refine G.sr fun K11 hK12 => ?_
 refine GL.r 2 2 [(1, pt p3 0), (5, li 2), (6, .bool false)] ?_
 refine GL.q hK12 ?_
 refine G.no rfl ?_
 refine G.sr fun K13 hK14 => ?_
 refine GL.r 2 2 [(1, pt p3 0), (14, .bool true)] ?_
 refine GL.q hK14 ?_
 refine G.yes rfl ?_
 refine G.seqK fun K15 hK16 => ?_
 refine G.sr fun K17 hK18 => ?_
 refine GL.r 1 1 [(1, pt p3 0), (16, pt p3 21)] ?_
 refine GL.s 2 (H6.ld (o := 21) (ty := 38) (v := .slice A n c) 0 rfl (by kernel_rfl) rfl) [(1, pt p3 0), (17, .slice A n c)] ?_
 refine GL.r 5 3 [(1, pt p3 0), (20, .bool ((n : Int) == 0))] ?_
 cases hb19 : ((n : Int) == 0)
 · skip
   have hb19f := ne_of_beq_false hb19
   refine GL.r 6 1 [(1, pt p3 0), (20, .bool false), (21, pt p3 21)] ?_
   refine GL.s 7 (H6.ld (o := 21) (ty := 38) (v := .slice A n c) 0 rfl (by kernel_rfl) rfl) [(1, pt p3 0), (20, .bool false), (22, .slice A n c)] ?_
   refine GL.r 10 3 [(1, pt p3 0), (25, .bool (decide (40 < (n : Int))))] ?_
   refine GL.q hK18 ?_
   have hb20 : (decide (40 < (n : Int))) = true := decide_eq_true (by omega)
   rw [hb20]
   refine G.yes rfl ?_
   refine G.sr fun K21 hK22 => ?_
   refine GL.r 2 2 [(2, .slice none 0 0), (3, li 3)] ?_
   refine GL.q hK22 ?_
   refine G.ret fun F_ hF_ hM_ => hRet _ _ (bodyPost_2 rfl (RV.tmp rfl) (RV.tmp rfl) ?_ F_ hF_ hM_)
   exact ⟨rfl, H6.sub (List.nil_sublist _)⟩
 · skip
   have hb19f := eq_of_beq hb19
   refine GL.r 10 5 [(1, pt p3 0), (25, .bool true)] ?_
   refine GL.q hK18 ?_
   refine G.yes rfl ?_
   refine G.sr fun K23 hK24 => ?_
   refine GL.r 2 2 [(2, .slice none 0 0), (3, li 3)] ?_
   refine GL.q hK24 ?_
   refine G.ret fun F_ hF_ hM_ => hRet _ _ (bodyPost_2 rfl (RV.tmp rfl) (RV.tmp rfl) ?_ F_ hF_ hM_)
   exact ⟨rfl, H6.sub (List.nil_sublist _)⟩
end Go.Proofs.Ytcedmbdahbdmaaa
set_option maxRecDepth 100000
namespace Go.Proofs.Ytcedmbdahbdmaaa
open Go.RowKit
theorem Parse_addr (x0 x1 x2 x3 x4 x5 x6 x7 x8 x9 x10 x11 x12 x13 x14 x15 x16 x17 x18 x19 : UInt8) (A : Option Addr) (c : Nat) (w : World) (hr : RdS w A (by8 ([118, 169, 20, x0, x1, x2, x3, x4, x5, x6, x7, x8, x9, x10, x11, x12, x13, x14, x15, x16, x17, x18, x19, 136, 172] : List UInt8))) (hc : 25 ≤ c) : Calls Try.prog 11 #[.slice A 25 c] w fun e w' => e = .returned (.agg #[.int .i64 1, .int .u8 (x0.toNat : Int), .int .u8 (x1.toNat : Int), .int .u8 (x2.toNat : Int), .int .u8 (x3.toNat : Int), .int .u8 (x4.toNat : Int), .int .u8 (x5.toNat : Int), .int .u8 (x6.toNat : Int), .int .u8 (x7.toNat : Int), .int .u8 (x8.toNat : Int), .int .u8 (x9.toNat : Int), .int .u8 (x10.toNat : Int), .int .u8 (x11.toNat : Int), .int .u8 (x12.toNat : Int), .int .u8 (x13.toNat : Int), .int .u8 (x14.toNat : Int), .int .u8 (x15.toNat : Int), .int .u8 (x16.toNat : Int), .int .u8 (x17.toNat : Int), .int .u8 (x18.toNat : Int), .int .u8 (x19.toNat : Int), .slice none 0 0]) ∧ Hp w [] [] w' := by
 refine calls_G (args := [.slice A 25 c]) Try.func11 rfl Try.ntmps11 rfl ?_
 intro Q0 hRet hNor hPan
 have H := Hp.start w
 refine G.sr fun K1 hK2 => ?_
 obtain ⟨p3, w4, r5, H6⟩ := H.alloc (P := Try.prog) 43 [li 0, lb 0, lb 0, lb 0, lb 0, lb 0, lb 0, lb 0, lb 0, lb 0, lb 0, lb 0, lb 0, lb 0, lb 0, lb 0, lb 0, lb 0, lb 0, lb 0, lb 0, .slice none 0 0] (by kernel_rfl)
 refine GL.s 1 (r5) [(0, .slice A 25 c), (2, pt p3 0)] ?_
 refine GL.q hK2 ?_
 refine G.seqK fun K7 hK8 => ?_
 refine G.sr fun K9 hK10 => ?_
 refine GL.r 3 3 [(0, .slice A 25 c), (2, pt p3 0), (11, .bool true)] ?_
 refine GL.q hK10 ?_
 refine G.yes rfl ?_
 refine G.sr fun K11 hK12 => ?_
 refine GL.r 1 1 [(0, .slice A 25 c), (2, pt p3 0), (12, .slice A 25 c)] ?_
 refine GL.s 2 (run_sliceSl (P := Try.prog) (lo := some (li 3)) (hi := some (li 23)) (t := 38) (len := 25) (cap := c) (A := A) (l := 3) (h := 23) (by kernel_rfl) (Or.inr ⟨_, _, rfl, rfl⟩) (Or.inr ⟨_, _, rfl, rfl⟩) (by omega) (by omega)) [(0, .slice A 25 c), (2, pt p3 0), (13, .slice (if c = 3 then A else Option.map (fun x => Addr.add x 3) A) 20 (c - 3))] ?_
 refine GL.s 3 (run_s2a (P := Try.prog) (t := 28) (len := 20) (cap := (c - 3)) (n := 20) (A := (if c = 3 then A else Option.map (fun x => Addr.add x 3) A)) (by kernel_rfl) (by omega)) [(0, .slice A 25 c), (2, pt p3 0), (14, .pointer (if c = 3 then A else Option.map (fun x => Addr.add x 3) A))] ?_
 refine GL.s 4 (run_ldArr (P := Try.prog) (ty := 28) (m := 20) (A := (if c = 3 then A else Option.map (fun x => Addr.add x 3) A)) (xs := by8 ([x0, x1, x2, x3, x4, x5, x6, x7, x8, x9, x10, x11, x12, x13, x14, x15, x16, x17, x18, x19] : List UInt8)) (by kernel_rfl) (RdS.cut8 (cap := c) (hr.hp H6) 3 23 (cs := ([x0, x1, x2, x3, x4, x5, x6, x7, x8, x9, x10, x11, x12, x13, x14, x15, x16, x17, x18, x19] : List UInt8)) (by first | rfl | omega | (simp only [List.length_cons, List.length_nil, List.length_drop, List.length_take, List.length_append] <;> omega)) rfl) rfl (by decide)) [(0, .slice A 25 c), (2, pt p3 0), (15, .agg #[lb (x0.toNat : Int), lb (x1.toNat : Int), lb (x2.toNat : Int), lb (x3.toNat : Int), lb (x4.toNat : Int), lb (x5.toNat : Int), lb (x6.toNat : Int), lb (x7.toNat : Int), lb (x8.toNat : Int), lb (x9.toNat : Int), lb (x10.toNat : Int), lb (x11.toNat : Int), lb (x12.toNat : Int), lb (x13.toNat : Int), lb (x14.toNat : Int), lb (x15.toNat : Int), lb (x16.toNat : Int), lb (x17.toNat : Int), lb (x18.toNat : Int), lb (x19.toNat : Int)])] ?_
 refine GL.r 5 1 [(0, .slice A 25 c), (2, pt p3 0), (16, .agg #[li 1, lb (x0.toNat : Int), lb (x1.toNat : Int), lb (x2.toNat : Int), lb (x3.toNat : Int), lb (x4.toNat : Int), lb (x5.toNat : Int), lb (x6.toNat : Int), lb (x7.toNat : Int), lb (x8.toNat : Int), lb (x9.toNat : Int), lb (x10.toNat : Int), lb (x11.toNat : Int), lb (x12.toNat : Int), lb (x13.toNat : Int), lb (x14.toNat : Int), lb (x15.toNat : Int), lb (x16.toNat : Int), lb (x17.toNat : Int), lb (x18.toNat : Int), lb (x19.toNat : Int), .slice none 0 0])] ?_
 obtain ⟨p13, w14, r15, H16⟩ := H6.alloc (P := Try.prog) 43 [li 0, lb 0, lb 0, lb 0, lb 0, lb 0, lb 0, lb 0, lb 0, lb 0, lb 0, lb 0, lb 0, lb 0, lb 0, lb 0, lb 0, lb 0, lb 0, lb 0, lb 0, .slice none 0 0] (by kernel_rfl)
 refine GL.s 6 (r15) [(0, .slice A 25 c), (2, pt p3 0), (3, pt p13 0), (16, .agg #[li 1, lb (x0.toNat : Int), lb (x1.toNat : Int), lb (x2.toNat : Int), lb (x3.toNat : Int), lb (x4.toNat : Int), lb (x5.toNat : Int), lb (x6.toNat : Int), lb (x7.toNat : Int), lb (x8.toNat : Int), lb (x9.toNat : Int), lb (x10.toNat : Int), lb (x11.toNat : Int), lb (x12.toNat : Int), lb (x13.toNat : Int), lb (x14.toNat : Int), lb (x15.toNat : Int), lb (x16.toNat : Int), lb (x17.toNat : Int), lb (x18.toNat : Int), lb (x19.toNat : Int), .slice none 0 0])] ?_
 obtain ⟨w17, r18, H19⟩ := H16.stA (P := Try.prog) (o := 0) (vs := [li 1, lb (x0.toNat : Int), lb (x1.toNat : Int), lb (x2.toNat : Int), lb (x3.toNat : Int), lb (x4.toNat : Int), lb (x5.toNat : Int), lb (x6.toNat : Int), lb (x7.toNat : Int), lb (x8.toNat : Int), lb (x9.toNat : Int), lb (x10.toNat : Int), lb (x11.toNat : Int), lb (x12.toNat : Int), lb (x13.toNat : Int), lb (x14.toNat : Int), lb (x15.toNat : Int), lb (x16.toNat : Int), lb (x17.toNat : Int), lb (x18.toNat : Int), lb (x19.toNat : Int), .slice none 0 0]) (ty := 43) (m := 22) 1 rfl (by kernel_rfl) rfl (by simp) (by simp [Value.oneCell'])
 refine GL.u 7 r18 [(0, .slice A 25 c), (2, pt p3 0), (3, pt p13 0)] ?_
 refine GL.q hK12 ?_
 refine G.sr fun K20 hK21 => ?_
 refine GL.s 1 (H19.ldA (o := 0) (ty := 43) (m := 22) (sub := [li 1, lb (x0.toNat : Int), lb (x1.toNat : Int), lb (x2.toNat : Int), lb (x3.toNat : Int), lb (x4.toNat : Int), lb (x5.toNat : Int), lb (x6.toNat : Int), lb (x7.toNat : Int), lb (x8.toNat : Int), lb (x9.toNat : Int), lb (x10.toNat : Int), lb (x11.toNat : Int), lb (x12.toNat : Int), lb (x13.toNat : Int), lb (x14.toNat : Int), lb (x15.toNat : Int), lb (x16.toNat : Int), lb (x17.toNat : Int), lb (x18.toNat : Int), lb (x19.toNat : Int), .slice none 0 0]) 1 rfl (by kernel_rfl) rfl rfl) [(0, .slice A 25 c), (2, pt p3 0), (3, pt p13 0), (18, .agg #[li 1, lb (x0.toNat : Int), lb (x1.toNat : Int), lb (x2.toNat : Int), lb (x3.toNat : Int), lb (x4.toNat : Int), lb (x5.toNat : Int), lb (x6.toNat : Int), lb (x7.toNat : Int), lb (x8.toNat : Int), lb (x9.toNat : Int), lb (x10.toNat : Int), lb (x11.toNat : Int), lb (x12.toNat : Int), lb (x13.toNat : Int), lb (x14.toNat : Int), lb (x15.toNat : Int), lb (x16.toNat : Int), lb (x17.toNat : Int), lb (x18.toNat : Int), lb (x19.toNat : Int), .slice none 0 0])] ?_
 refine GL.call (j := 2) (Bytes_addr x0 x1 x2 x3 x4 x5 x6 x7 x8 x9 x10 x11 x12 x13 x14 x15 x16 x17 x18 x19 none 0 0 w17) (by kernel_rfl) rfl (fun e_ w26 hR => ?_)
 obtain ⟨A22, c23, rfl, H25⟩ := hR
 have H24 : Hp w [] [.blk p3 [li 0, lb 0, lb 0, lb 0, lb 0, lb 0, lb 0, lb 0, lb 0, lb 0, lb 0, lb 0, lb 0, lb 0, lb 0, lb 0, lb 0, lb 0, lb 0, lb 0, lb 0, .slice none 0 0] 43, .blk p13 [li 1, lb (x0.toNat : Int), lb (x1.toNat : Int), lb (x2.toNat : Int), lb (x3.toNat : Int), lb (x4.toNat : Int), lb (x5.toNat : Int), lb (x6.toNat : Int), lb (x7.toNat : Int), lb (x8.toNat : Int), lb (x9.toNat : Int), lb (x10.toNat : Int), lb (x11.toNat : Int), lb (x12.toNat : Int), lb (x13.toNat : Int), lb (x14.toNat : Int), lb (x15.toNat : Int), lb (x16.toNat : Int), lb (x17.toNat : Int), lb (x18.toNat : Int), lb (x19.toNat : Int), .slice none 0 0] 43, .row A22 (([118, 169, 20, x0, x1, x2, x3, x4, x5, x6, x7, x8, x9, x10, x11, x12, x13, x14, x15, x16, x17, x18, x19, 136, 172] : List UInt8).length) c23 5 1 (by8 ([118, 169, 20, x0, x1, x2, x3, x4, x5, x6, x7, x8, x9, x10, x11, x12, x13, x14, x15, x16, x17, x18, x19, 136, 172] : List UInt8))] w26 := H19.callNew H25
 refine ⟨_, rfl, [0, 2, 3, 19], [(0, .slice A 25 c), (2, pt p3 0), (3, pt p13 0), (19, .tuple #[.slice A22 (([118, 169, 20, x0, x1, x2, x3, x4, x5, x6, x7, x8, x9, x10, x11, x12, x13, x14, x15, x16, x17, x18, x19, 136, 172] : List UInt8).length) c23, li 0])], by kernel_rfl, ?_⟩
 refine GL.r 7 5 [(0, .slice A 25 c), (2, pt p3 0), (3, pt p13 0), (4, .slice A22 (([118, 169, 20, x0, x1, x2, x3, x4, x5, x6, x7, x8, x9, x10, x11, x12, x13, x14, x15, x16, x17, x18, x19, 136, 172] : List UInt8).length) c23), (5, li 0)] ?_
 refine GL.q hK21 ?_
 refine G.sr fun K27 hK28 => ?_
 refine GL.r 5 5 [(0, .slice A 25 c), (2, pt p3 0), (3, pt p13 0), (24, .bool true), (25, .slice A22 (([118, 169, 20, x0, x1, x2, x3, x4, x5, x6, x7, x8, x9, x10, x11, x12, x13, x14, x15, x16, x17, x18, x19, 136, 172] : List UInt8).length) c23), (26, .slice A 25 c)] ?_
 refine GL.call (j := 6) (Equal_calls ([118, 169, 20, x0, x1, x2, x3, x4, x5, x6, x7, x8, x9, x10, x11, x12, x13, x14, x15, x16, x17, x18, x19, 136, 172] : List UInt8) ([118, 169, 20, x0, x1, x2, x3, x4, x5, x6, x7, x8, x9, x10, x11, x12, x13, x14, x15, x16, x17, x18, x19, 136, 172] : List UInt8) A22 A c23 c w26 (H24.rdRow 2 rfl) (hr.hp H24)) (by kernel_rfl) rfl (fun e_ w29 hR => ?_)
 obtain ⟨rfl, H31⟩ := hR
 have H30 : Hp w [] [.blk p3 [li 0, lb 0, lb 0, lb 0, lb 0, lb 0, lb 0, lb 0, lb 0, lb 0, lb 0, lb 0, lb 0, lb 0, lb 0, lb 0, lb 0, lb 0, lb 0, lb 0, lb 0, .slice none 0 0] 43, .blk p13 [li 1, lb (x0.toNat : Int), lb (x1.toNat : Int), lb (x2.toNat : Int), lb (x3.toNat : Int), lb (x4.toNat : Int), lb (x5.toNat : Int), lb (x6.toNat : Int), lb (x7.toNat : Int), lb (x8.toNat : Int), lb (x9.toNat : Int), lb (x10.toNat : Int), lb (x11.toNat : Int), lb (x12.toNat : Int), lb (x13.toNat : Int), lb (x14.toNat : Int), lb (x15.toNat : Int), lb (x16.toNat : Int), lb (x17.toNat : Int), lb (x18.toNat : Int), lb (x19.toNat : Int), .slice none 0 0] 43, .row A22 (([118, 169, 20, x0, x1, x2, x3, x4, x5, x6, x7, x8, x9, x10, x11, x12, x13, x14, x15, x16, x17, x18, x19, 136, 172] : List UInt8).length) c23 5 1 (by8 ([118, 169, 20, x0, x1, x2, x3, x4, x5, x6, x7, x8, x9, x10, x11, x12, x13, x14, x15, x16, x17, x18, x19, 136, 172] : List UInt8))] w29 := H24.callNil H31
 refine ⟨_, rfl, [0, 2, 3, 24, 27], [(0, .slice A 25 c), (2, pt p3 0), (3, pt p13 0), (24, .bool true), (27, .bool (([118, 169, 20, x0, x1, x2, x3, x4, x5, x6, x7, x8, x9, x10, x11, x12, x13, x14, x15, x16, x17, x18, x19, 136, 172] : List UInt8) == ([118, 169, 20, x0, x1, x2, x3, x4, x5, x6, x7, x8, x9, x10, x11, x12, x13, x14, x15, x16, x17, x18, x19, 136, 172] : List UInt8)))], by kernel_rfl, ?_⟩
 refine GL.r 7 1 [(0, .slice A 25 c), (2, pt p3 0), (3, pt p13 0), (28, .bool (([118, 169, 20, x0, x1, x2, x3, x4, x5, x6, x7, x8, x9, x10, x11, x12, x13, x14, x15, x16, x17, x18, x19, 136, 172] : List UInt8) == ([118, 169, 20, x0, x1, x2, x3, x4, x5, x6, x7, x8, x9, x10, x11, x12, x13, x14, x15, x16, x17, x18, x19, 136, 172] : List UInt8)))] ?_
 refine GL.q hK28 ?_
 have hb32 : (([118, 169, 20, x0, x1, x2, x3, x4, x5, x6, x7, x8, x9, x10, x11, x12, x13, x14, x15, x16, x17, x18, x19, 136, 172] : List UInt8) == ([118, 169, 20, x0, x1, x2, x3, x4, x5, x6, x7, x8, x9, x10, x11, x12, x13, x14, x15, x16, x17, x18, x19, 136, 172] : List UInt8)) = true := beq_self_eq_true _
 rw [hb32]
 refine G.yes rfl ?_
 refine G.sr fun K33 hK34 => ?_
 refine GL.s 1 (H30.ldA (o := 0) (ty := 43) (m := 22) (sub := [li 1, lb (x0.toNat : Int), lb (x1.toNat : Int), lb (x2.toNat : Int), lb (x3.toNat : Int), lb (x4.toNat : Int), lb (x5.toNat : Int), lb (x6.toNat : Int), lb (x7.toNat : Int), lb (x8.toNat : Int), lb (x9.toNat : Int), lb (x10.toNat : Int), lb (x11.toNat : Int), lb (x12.toNat : Int), lb (x13.toNat : Int), lb (x14.toNat : Int), lb (x15.toNat : Int), lb (x16.toNat : Int), lb (x17.toNat : Int), lb (x18.toNat : Int), lb (x19.toNat : Int), .slice none 0 0]) 1 rfl (by kernel_rfl) rfl rfl) [(2, pt p3 0), (29, .agg #[li 1, lb (x0.toNat : Int), lb (x1.toNat : Int), lb (x2.toNat : Int), lb (x3.toNat : Int), lb (x4.toNat : Int), lb (x5.toNat : Int), lb (x6.toNat : Int), lb (x7.toNat : Int), lb (x8.toNat : Int), lb (x9.toNat : Int), lb (x10.toNat : Int), lb (x11.toNat : Int), lb (x12.toNat : Int), lb (x13.toNat : Int), lb (x14.toNat : Int), lb (x15.toNat : Int), lb (x16.toNat : Int), lb (x17.toNat : Int), lb (x18.toNat : Int), lb (x19.toNat : Int), .slice none 0 0])] ?_
 obtain ⟨w35, r36, H37⟩ := H30.stA (P := Try.prog) (o := 0) (vs := [li 1, lb (x0.toNat : Int), lb (x1.toNat : Int), lb (x2.toNat : Int), lb (x3.toNat : Int), lb (x4.toNat : Int), lb (x5.toNat : Int), lb (x6.toNat : Int), lb (x7.toNat : Int), lb (x8.toNat : Int), lb (x9.toNat : Int), lb (x10.toNat : Int), lb (x11.toNat : Int), lb (x12.toNat : Int), lb (x13.toNat : Int), lb (x14.toNat : Int), lb (x15.toNat : Int), lb (x16.toNat : Int), lb (x17.toNat : Int), lb (x18.toNat : Int), lb (x19.toNat : Int), .slice none 0 0]) (ty := 43) (m := 22) 0 rfl (by kernel_rfl) rfl (by simp) (by simp [Value.oneCell'])
 refine GL.u 2 r36 [(2, pt p3 0)] ?_
 refine GL.q hK34 ?_
 refine G.ret fun F_ hF_ hM_ => hRet _ _ (bodyPost_1 rfl (RV.cell rfl (H37.ldA (o := 0) (ty := 43) (m := 22) (sub := [li 1, lb (x0.toNat : Int), lb (x1.toNat : Int), lb (x2.toNat : Int), lb (x3.toNat : Int), lb (x4.toNat : Int), lb (x5.toNat : Int), lb (x6.toNat : Int), lb (x7.toNat : Int), lb (x8.toNat : Int), lb (x9.toNat : Int), lb (x10.toNat : Int), lb (x11.toNat : Int), lb (x12.toNat : Int), lb (x13.toNat : Int), lb (x14.toNat : Int), lb (x15.toNat : Int), lb (x16.toNat : Int), lb (x17.toNat : Int), lb (x18.toNat : Int), lb (x19.toNat : Int), .slice none 0 0]) 0 rfl (by kernel_rfl) rfl rfl)) ?_ F_ hF_ hM_)
 exact ⟨rfl, H37.sub (List.nil_sublist _)⟩
theorem isNone_drop {w : World} {A : Option Addr} {bs : List UInt8} {c l : Nat} (hr : RdS w A (by8 bs)) (hl : l < bs.length) (hc : l < c) : (if c = l then A else A.map fun x => Addr.add x l).isNone = false := by
 obtain ⟨a, rfl, _⟩ := hr.cell (j := l) (List.getElem?_eq_getElem (by rw [by8_length]; exact hl))
 rw [if_neg (by omega)]
 rfl
theorem Parse_tagN (t : List UInt8) (A : Option Addr) (c : Nat) (w : World) (hr : RdS w A (by8 (106 :: UInt8.ofNat t.length :: t))) (h1 : 1 ≤ t.length) (h40 : t.length ≤ 40) (h23 : t.length ≠ 23) (hc : t.length + 2 ≤ c) : Calls Try.prog 11 #[.slice A ((106 :: UInt8.ofNat t.length :: t).length) c] w fun e w' => ∃ A c, e = .returned (.agg #[.int .i64 2, .int .u8 0, .int .u8 0, .int .u8 0, .int .u8 0, .int .u8 0, .int .u8 0, .int .u8 0, .int .u8 0, .int .u8 0, .int .u8 0, .int .u8 0, .int .u8 0, .int .u8 0, .int .u8 0, .int .u8 0, .int .u8 0, .int .u8 0, .int .u8 0, .int .u8 0, .int .u8 0, .slice A t.length c]) ∧ Hp w [] [.row A t.length c 5 1 (by8 t)] w' := by
 refine calls_G (args := [.slice A ((106 :: UInt8.ofNat t.length :: t).length) c]) Try.func11 rfl Try.ntmps11 rfl ?_
 intro Q0 hRet hNor hPan
 have H := Hp.start w
 refine G.sr fun K1 hK2 => ?_
 obtain ⟨p3, w4, r5, H6⟩ := H.alloc (P := Try.prog) 43 [li 0, lb 0, lb 0, lb 0, lb 0, lb 0, lb 0, lb 0, lb 0, lb 0, lb 0, lb 0, lb 0, lb 0, lb 0, lb 0, lb 0, lb 0, lb 0, lb 0, lb 0, .slice none 0 0] (by kernel_rfl)
 refine GL.s 1 (r5) [(0, .slice A ((106 :: UInt8.ofNat t.length :: t).length) c), (2, pt p3 0)] ?_
 refine GL.q hK2 ?_
 refine G.seqK fun K7 hK8 => ?_
 refine G.sr fun K9 hK10 => ?_
 refine GL.r 3 3 [(0, .slice A ((106 :: UInt8.ofNat t.length :: t).length) c), (2, pt p3 0), (11, .bool ((((106 :: UInt8.ofNat t.length :: t).length : Nat) : Int) == 25))] ?_
 refine GL.q hK10 ?_
 have hb11 : ((((106 :: UInt8.ofNat t.length :: t).length : Nat) : Int) == 25) = false := beq_eq_false_iff_ne.2 (by simp; omega)
 rw [hb11]
 refine G.no rfl ?_
 refine G.skipK hK8 (fun _ _ h => h) ?_
 refine G.seqK fun K12 hK13 => ?_
 refine G.sr fun K14 hK15 => ?_
 refine GL.r 3 3 [(0, .slice A ((106 :: UInt8.ofNat t.length :: t).length) c), (2, pt p3 0), (32, .bool (decide (2 < (((106 :: UInt8.ofNat t.length :: t).length : Nat) : Int))))] ?_
 refine GL.q hK15 ?_
 have hb16 : (decide (2 < (((106 :: UInt8.ofNat t.length :: t).length : Nat) : Int))) = true := decide_eq_true (by simp; omega)
 rw [hb16]
 refine G.yes rfl ?_
 refine G.sr fun K17 hK18 => ?_
 refine GL.r 1 1 [(0, .slice A ((106 :: UInt8.ofNat t.length :: t).length) c), (2, pt p3 0), (33, .slice A ((106 :: UInt8.ofNat t.length :: t).length) c)] ?_
 refine GL.s 2 (run_sliceSl (P := Try.prog) (lo := some (li 2)) (hi := none) (t := 38) (len := (106 :: UInt8.ofNat t.length :: t).length) (cap := c) (A := A) (l := 2) (h := (106 :: UInt8.ofNat t.length :: t).length) (by kernel_rfl) (Or.inr ⟨_, _, rfl, rfl⟩) (Or.inl ⟨rfl, rfl⟩) (by first | rfl | omega | (simp only [List.length_cons, List.length_nil, List.length_drop, List.length_take, List.length_append] <;> omega)) (by first | rfl | omega | (simp only [List.length_cons, List.length_nil, List.length_drop, List.length_take, List.length_append] <;> omega))) [(0, .slice A ((106 :: UInt8.ofNat t.length :: t).length) c), (2, pt p3 0), (34, .slice (if c = 2 then A else Option.map (fun x => Addr.add x 2) A) t.length (c - 2))] ?_
 refine GL.call (j := 3) (SClone_calls t (if c = 2 then A else Option.map (fun x => Addr.add x 2) A) (c - 2) w4 (RdS.drop8 (cap := c) (hr.hp H6) 2 (cs := t) (by first | rfl | omega | (simp only [List.length_cons, List.length_nil, List.length_drop, List.length_take, List.length_append] <;> omega)) rfl) (isNone_drop hr (by first | rfl | omega | (simp only [List.length_cons, List.length_nil, List.length_drop, List.length_take, List.length_append] <;> omega)) (by first | rfl | omega | (simp only [List.length_cons, List.length_nil, List.length_drop, List.length_take, List.length_append] <;> omega))) (by first | rfl | omega | (simp only [List.length_cons, List.length_nil, List.length_drop, List.length_take, List.length_append] <;> omega))) (by kernel_rfl) rfl (fun e_ w23 hR => ?_)
 obtain ⟨A19, c20, rfl, H22⟩ := hR
 have H21 : Hp w [] [.blk p3 [li 0, lb 0, lb 0, lb 0, lb 0, lb 0, lb 0, lb 0, lb 0, lb 0, lb 0, lb 0, lb 0, lb 0, lb 0, lb 0, lb 0, lb 0, lb 0, lb 0, lb 0, .slice none 0 0] 43, .row A19 t.length c20 5 1 (by8 t)] w23 := H6.callNew H22
 refine ⟨_, rfl, [0, 2, 35], [(0, .slice A ((106 :: UInt8.ofNat t.length :: t).length) c), (2, pt p3 0), (35, .slice A19 t.length c20)], by kernel_rfl, ?_⟩
 refine GL.r 4 1 [(0, .slice A ((106 :: UInt8.ofNat t.length :: t).length) c), (2, pt p3 0), (36, .agg #[li 2, lb 0, lb 0, lb 0, lb 0, lb 0, lb 0, lb 0, lb 0, lb 0, lb 0, lb 0, lb 0, lb 0, lb 0, lb 0, lb 0, lb 0, lb 0, lb 0, lb 0, .slice A19 t.length c20])] ?_
 obtain ⟨p24, w25, r26, H27⟩ := H21.alloc (P := Try.prog) 43 [li 0, lb 0, lb 0, lb 0, lb 0, lb 0, lb 0, lb 0, lb 0, lb 0, lb 0, lb 0, lb 0, lb 0, lb 0, lb 0, lb 0, lb 0, lb 0, lb 0, lb 0, .slice none 0 0] (by kernel_rfl)
 refine GL.s 5 (r26) [(0, .slice A ((106 :: UInt8.ofNat t.length :: t).length) c), (2, pt p3 0), (6, pt p24 0), (36, .agg #[li 2, lb 0, lb 0, lb 0, lb 0, lb 0, lb 0, lb 0, lb 0, lb 0, lb 0, lb 0, lb 0, lb 0, lb 0, lb 0, lb 0, lb 0, lb 0, lb 0, lb 0, .slice A19 t.length c20])] ?_
 obtain ⟨w28, r29, H30⟩ := H27.stA (P := Try.prog) (o := 0) (vs := [li 2, lb 0, lb 0, lb 0, lb 0, lb 0, lb 0, lb 0, lb 0, lb 0, lb 0, lb 0, lb 0, lb 0, lb 0, lb 0, lb 0, lb 0, lb 0, lb 0, lb 0, .slice A19 t.length c20]) (ty := 43) (m := 22) 2 rfl (by kernel_rfl) rfl (by simp) (by simp [Value.oneCell'])
 refine GL.u 6 r29 [(0, .slice A ((106 :: UInt8.ofNat t.length :: t).length) c), (2, pt p3 0), (6, pt p24 0)] ?_
 refine GL.q hK18 ?_
 refine G.sr fun K31 hK32 => ?_
 refine GL.s 1 (H30.ldA (o := 0) (ty := 43) (m := 22) (sub := [li 2, lb 0, lb 0, lb 0, lb 0, lb 0, lb 0, lb 0, lb 0, lb 0, lb 0, lb 0, lb 0, lb 0, lb 0, lb 0, lb 0, lb 0, lb 0, lb 0, lb 0, .slice A19 t.length c20]) 2 rfl (by kernel_rfl) rfl rfl) [(0, .slice A ((106 :: UInt8.ofNat t.length :: t).length) c), (2, pt p3 0), (6, pt p24 0), (38, .agg #[li 2, lb 0, lb 0, lb 0, lb 0, lb 0, lb 0, lb 0, lb 0, lb 0, lb 0, lb 0, lb 0, lb 0, lb 0, lb 0, lb 0, lb 0, lb 0, lb 0, lb 0, .slice A19 t.length c20])] ?_
 refine GL.call (j := 2) (Bytes_tag (0 : UInt8) (0 : UInt8) (0 : UInt8) (0 : UInt8) (0 : UInt8) (0 : UInt8) (0 : UInt8) (0 : UInt8) (0 : UInt8) (0 : UInt8) (0 : UInt8) (0 : UInt8) (0 : UInt8) (0 : UInt8) (0 : UInt8) (0 : UInt8) (0 : UInt8) (0 : UInt8) (0 : UInt8) (0 : UInt8) t A19 c20 w28 (H30.rdRow 1 rfl) (by omega) (by omega)) (by kernel_rfl) rfl (fun e_ w37 hR => ?_)
 obtain ⟨A33, c34, rfl, H36⟩ := hR
 have H35 : Hp w [] [.blk p3 [li 0, lb 0, lb 0, lb 0, lb 0, lb 0, lb 0, lb 0, lb 0, lb 0, lb 0, lb 0, lb 0, lb 0, lb 0, lb 0, lb 0, lb 0, lb 0, lb 0, lb 0, .slice none 0 0] 43, .row A19 t.length c20 5 1 (by8 t), .blk p24 [li 2, lb 0, lb 0, lb 0, lb 0, lb 0, lb 0, lb 0, lb 0, lb 0, lb 0, lb 0, lb 0, lb 0, lb 0, lb 0, lb 0, lb 0, lb 0, lb 0, lb 0, .slice A19 t.length c20] 43, .row A33 ((106 :: UInt8.ofNat t.length :: t).length) c34 5 1 (by8 (106 :: UInt8.ofNat t.length :: t))] w37 := H30.callNew H36
 refine ⟨_, rfl, [0, 2, 6, 39], [(0, .slice A ((106 :: UInt8.ofNat t.length :: t).length) c), (2, pt p3 0), (6, pt p24 0), (39, .tuple #[.slice A33 ((106 :: UInt8.ofNat t.length :: t).length) c34, li 0])], by kernel_rfl, ?_⟩
 refine GL.r 7 5 [(0, .slice A ((106 :: UInt8.ofNat t.length :: t).length) c), (2, pt p3 0), (6, pt p24 0), (7, .slice A33 ((106 :: UInt8.ofNat t.length :: t).length) c34), (8, li 0)] ?_
 refine GL.q hK32 ?_
 refine G.sr fun K38 hK39 => ?_
 refine GL.r 5 5 [(2, pt p3 0), (6, pt p24 0), (44, .bool true), (45, .slice A33 ((106 :: UInt8.ofNat t.length :: t).length) c34), (46, .slice A ((106 :: UInt8.ofNat t.length :: t).length) c)] ?_
 refine GL.call (j := 6) (Equal_calls (106 :: UInt8.ofNat t.length :: t) (106 :: UInt8.ofNat t.length :: t) A33 A c34 c w37 (H35.rdRow 3 rfl) (hr.hp H35)) (by kernel_rfl) rfl (fun e_ w40 hR => ?_)
 obtain ⟨rfl, H42⟩ := hR
 have H41 : Hp w [] [.blk p3 [li 0, lb 0, lb 0, lb 0, lb 0, lb 0, lb 0, lb 0, lb 0, lb 0, lb 0, lb 0, lb 0, lb 0, lb 0, lb 0, lb 0, lb 0, lb 0, lb 0, lb 0, .slice none 0 0] 43, .row A19 t.length c20 5 1 (by8 t), .blk p24 [li 2, lb 0, lb 0, lb 0, lb 0, lb 0, lb 0, lb 0, lb 0, lb 0, lb 0, lb 0, lb 0, lb 0, lb 0, lb 0, lb 0, lb 0, lb 0, lb 0, lb 0, .slice A19 t.length c20] 43, .row A33 ((106 :: UInt8.ofNat t.length :: t).length) c34 5 1 (by8 (106 :: UInt8.ofNat t.length :: t))] w40 := H35.callNil H42
 refine ⟨_, rfl, [2, 6, 44, 47], [(2, pt p3 0), (6, pt p24 0), (44, .bool true), (47, .bool ((106 :: UInt8.ofNat t.length :: t) == (106 :: UInt8.ofNat t.length :: t)))], by kernel_rfl, ?_⟩
 refine GL.r 7 1 [(2, pt p3 0), (6, pt p24 0), (48, .bool ((106 :: UInt8.ofNat t.length :: t) == (106 :: UInt8.ofNat t.length :: t)))] ?_
 refine GL.q hK39 ?_
 have hb43 : ((106 :: UInt8.ofNat t.length :: t) == (106 :: UInt8.ofNat t.length :: t)) = true := beq_self_eq_true _
 rw [hb43]
 refine G.yes rfl ?_
 refine G.sr fun K44 hK45 => ?_
 refine GL.s 1 (H41.ldA (o := 0) (ty := 43) (m := 22) (sub := [li 2, lb 0, lb 0, lb 0, lb 0, lb 0, lb 0, lb 0, lb 0, lb 0, lb 0, lb 0, lb 0, lb 0, lb 0, lb 0, lb 0, lb 0, lb 0, lb 0, lb 0, .slice A19 t.length c20]) 2 rfl (by kernel_rfl) rfl rfl) [(2, pt p3 0), (49, .agg #[li 2, lb 0, lb 0, lb 0, lb 0, lb 0, lb 0, lb 0, lb 0, lb 0, lb 0, lb 0, lb 0, lb 0, lb 0, lb 0, lb 0, lb 0, lb 0, lb 0, lb 0, .slice A19 t.length c20])] ?_
 obtain ⟨w46, r47, H48⟩ := H41.stA (P := Try.prog) (o := 0) (vs := [li 2, lb 0, lb 0, lb 0, lb 0, lb 0, lb 0, lb 0, lb 0, lb 0, lb 0, lb 0, lb 0, lb 0, lb 0, lb 0, lb 0, lb 0, lb 0, lb 0, lb 0, .slice A19 t.length c20]) (ty := 43) (m := 22) 0 rfl (by kernel_rfl) rfl (by simp) (by simp [Value.oneCell'])
 refine GL.u 2 r47 [(2, pt p3 0)] ?_
 refine GL.q hK45 ?_
 refine G.ret fun F_ hF_ hM_ => hRet _ _ (bodyPost_1 rfl (RV.cell rfl (H48.ldA (o := 0) (ty := 43) (m := 22) (sub := [li 2, lb 0, lb 0, lb 0, lb 0, lb 0, lb 0, lb 0, lb 0, lb 0, lb 0, lb 0, lb 0, lb 0, lb 0, lb 0, lb 0, lb 0, lb 0, lb 0, lb 0, .slice A19 t.length c20]) 0 rfl (by kernel_rfl) rfl rfl)) ?_ F_ hF_ hM_)
 exact ⟨_, _, rfl, H48.sub (by simp)⟩
theorem Parse_tag23 (x0 x1 x2 x3 x4 x5 x6 x7 x8 x9 x10 x11 x12 x13 x14 x15 x16 x17 x18 x19 x20 x21 x22 : UInt8) (A : Option Addr) (c : Nat) (w : World) (hr : RdS w A (by8 ([106, 23, x0, x1, x2, x3, x4, x5, x6, x7, x8, x9, x10, x11, x12, x13, x14, x15, x16, x17, x18, x19, x20, x21, x22] : List UInt8))) (hc : 25 ≤ c) : Calls Try.prog 11 #[.slice A 25 c] w fun e w' => ∃ A c, e = .returned (.agg #[.int .i64 2, .int .u8 0, .int .u8 0, .int .u8 0, .int .u8 0, .int .u8 0, .int .u8 0, .int .u8 0, .int .u8 0, .int .u8 0, .int .u8 0, .int .u8 0, .int .u8 0, .int .u8 0, .int .u8 0, .int .u8 0, .int .u8 0, .int .u8 0, .int .u8 0, .int .u8 0, .int .u8 0, .slice A 23 c]) ∧ Hp w [] [.row A 23 c 5 1 (by8 ([x0, x1, x2, x3, x4, x5, x6, x7, x8, x9, x10, x11, x12, x13, x14, x15, x16, x17, x18, x19, x20, x21, x22] : List UInt8))] w' := by
 refine calls_G (args := [.slice A 25 c]) Try.func11 rfl Try.ntmps11 rfl ?_
 intro Q0 hRet hNor hPan
 have H := Hp.start w
 refine G.sr fun K1 hK2 => ?_
 obtain ⟨p3, w4, r5, H6⟩ := H.alloc (P := Try.prog) 43 [li 0, lb 0, lb 0, lb 0, lb 0, lb 0, lb 0, lb 0, lb 0, lb 0, lb 0, lb 0, lb 0, lb 0, lb 0, lb 0, lb 0, lb 0, lb 0, lb 0, lb 0, .slice none 0 0] (by kernel_rfl)
 refine GL.s 1 (r5) [(0, .slice A 25 c), (2, pt p3 0)] ?_
 refine GL.q hK2 ?_
 refine G.seqK fun K7 hK8 => ?_
 refine G.sr fun K9 hK10 => ?_
 refine GL.r 3 3 [(0, .slice A 25 c), (2, pt p3 0), (11, .bool true)] ?_
 refine GL.q hK10 ?_
 refine G.yes rfl ?_
 refine G.sr fun K11 hK12 => ?_
 refine GL.r 1 1 [(0, .slice A 25 c), (2, pt p3 0), (12, .slice A 25 c)] ?_
 refine GL.s 2 (run_sliceSl (P := Try.prog) (lo := some (li 3)) (hi := some (li 23)) (t := 38) (len := 25) (cap := c) (A := A) (l := 3) (h := 23) (by kernel_rfl) (Or.inr ⟨_, _, rfl, rfl⟩) (Or.inr ⟨_, _, rfl, rfl⟩) (by omega) (by omega)) [(0, .slice A 25 c), (2, pt p3 0), (13, .slice (if c = 3 then A else Option.map (fun x => Addr.add x 3) A) 20 (c - 3))] ?_
 refine GL.s 3 (run_s2a (P := Try.prog) (t := 28) (len := 20) (cap := (c - 3)) (n := 20) (A := (if c = 3 then A else Option.map (fun x => Addr.add x 3) A)) (by kernel_rfl) (by omega)) [(0, .slice A 25 c), (2, pt p3 0), (14, .pointer (if c = 3 then A else Option.map (fun x => Addr.add x 3) A))] ?_
 refine GL.s 4 (run_ldArr (P := Try.prog) (ty := 28) (m := 20) (A := (if c = 3 then A else Option.map (fun x => Addr.add x 3) A)) (xs := by8 ([x1, x2, x3, x4, x5, x6, x7, x8, x9, x10, x11, x12, x13, x14, x15, x16, x17, x18, x19, x20] : List UInt8)) (by kernel_rfl) (RdS.cut8 (cap := c) (hr.hp H6) 3 23 (cs := ([x1, x2, x3, x4, x5, x6, x7, x8, x9, x10, x11, x12, x13, x14, x15, x16, x17, x18, x19, x20] : List UInt8)) (by first | rfl | omega | (simp only [List.length_cons, List.length_nil, List.length_drop, List.length_take, List.length_append] <;> omega)) rfl) rfl (by decide)) [(0, .slice A 25 c), (2, pt p3 0), (15, .agg #[lb (x1.toNat : Int), lb (x2.toNat : Int), lb (x3.toNat : Int), lb (x4.toNat : Int), lb (x5.toNat : Int), lb (x6.toNat : Int), lb (x7.toNat : Int), lb (x8.toNat : Int), lb (x9.toNat : Int), lb (x10.toNat : Int), lb (x11.toNat : Int), lb (x12.toNat : Int), lb (x13.toNat : Int), lb (x14.toNat : Int), lb (x15.toNat : Int), lb (x16.toNat : Int), lb (x17.toNat : Int), lb (x18.toNat : Int), lb (x19.toNat : Int), lb (x20.toNat : Int)])] ?_
 refine GL.r 5 1 [(0, .slice A 25 c), (2, pt p3 0), (16, .agg #[li 1, lb (x1.toNat : Int), lb (x2.toNat : Int), lb (x3.toNat : Int), lb (x4.toNat : Int), lb (x5.toNat : Int), lb (x6.toNat : Int), lb (x7.toNat : Int), lb (x8.toNat : Int), lb (x9.toNat : Int), lb (x10.toNat : Int), lb (x11.toNat : Int), lb (x12.toNat : Int), lb (x13.toNat : Int), lb (x14.toNat : Int), lb (x15.toNat : Int), lb (x16.toNat : Int), lb (x17.toNat : Int), lb (x18.toNat : Int), lb (x19.toNat : Int), lb (x20.toNat : Int), .slice none 0 0])] ?_
 obtain ⟨p13, w14, r15, H16⟩ := H6.alloc (P := Try.prog) 43 [li 0, lb 0, lb 0, lb 0, lb 0, lb 0, lb 0, lb 0, lb 0, lb 0, lb 0, lb 0, lb 0, lb 0, lb 0, lb 0, lb 0, lb 0, lb 0, lb 0, lb 0, .slice none 0 0] (by kernel_rfl)
 refine GL.s 6 (r15) [(0, .slice A 25 c), (2, pt p3 0), (3, pt p13 0), (16, .agg #[li 1, lb (x1.toNat : Int), lb (x2.toNat : Int), lb (x3.toNat : Int), lb (x4.toNat : Int), lb (x5.toNat : Int), lb (x6.toNat : Int), lb (x7.toNat : Int), lb (x8.toNat : Int), lb (x9.toNat : Int), lb (x10.toNat : Int), lb (x11.toNat : Int), lb (x12.toNat : Int), lb (x13.toNat : Int), lb (x14.toNat : Int), lb (x15.toNat : Int), lb (x16.toNat : Int), lb (x17.toNat : Int), lb (x18.toNat : Int), lb (x19.toNat : Int), lb (x20.toNat : Int), .slice none 0 0])] ?_
 obtain ⟨w17, r18, H19⟩ := H16.stA (P := Try.prog) (o := 0) (vs := [li 1, lb (x1.toNat : Int), lb (x2.toNat : Int), lb (x3.toNat : Int), lb (x4.toNat : Int), lb (x5.toNat : Int), lb (x6.toNat : Int), lb (x7.toNat : Int), lb (x8.toNat : Int), lb (x9.toNat : Int), lb (x10.toNat : Int), lb (x11.toNat : Int), lb (x12.toNat : Int), lb (x13.toNat : Int), lb (x14.toNat : Int), lb (x15.toNat : Int), lb (x16.toNat : Int), lb (x17.toNat : Int), lb (x18.toNat : Int), lb (x19.toNat : Int), lb (x20.toNat : Int), .slice none 0 0]) (ty := 43) (m := 22) 1 rfl (by kernel_rfl) rfl (by simp) (by simp [Value.oneCell'])
 refine GL.u 7 r18 [(0, .slice A 25 c), (2, pt p3 0), (3, pt p13 0)] ?_
 refine GL.q hK12 ?_
 refine G.sr fun K20 hK21 => ?_
 refine GL.s 1 (H19.ldA (o := 0) (ty := 43) (m := 22) (sub := [li 1, lb (x1.toNat : Int), lb (x2.toNat : Int), lb (x3.toNat : Int), lb (x4.toNat : Int), lb (x5.toNat : Int), lb (x6.toNat : Int), lb (x7.toNat : Int), lb (x8.toNat : Int), lb (x9.toNat : Int), lb (x10.toNat : Int), lb (x11.toNat : Int), lb (x12.toNat : Int), lb (x13.toNat : Int), lb (x14.toNat : Int), lb (x15.toNat : Int), lb (x16.toNat : Int), lb (x17.toNat : Int), lb (x18.toNat : Int), lb (x19.toNat : Int), lb (x20.toNat : Int), .slice none 0 0]) 1 rfl (by kernel_rfl) rfl rfl) [(0, .slice A 25 c), (2, pt p3 0), (3, pt p13 0), (18, .agg #[li 1, lb (x1.toNat : Int), lb (x2.toNat : Int), lb (x3.toNat : Int), lb (x4.toNat : Int), lb (x5.toNat : Int), lb (x6.toNat : Int), lb (x7.toNat : Int), lb (x8.toNat : Int), lb (x9.toNat : Int), lb (x10.toNat : Int), lb (x11.toNat : Int), lb (x12.toNat : Int), lb (x13.toNat : Int), lb (x14.toNat : Int), lb (x15.toNat : Int), lb (x16.toNat : Int), lb (x17.toNat : Int), lb (x18.toNat : Int), lb (x19.toNat : Int), lb (x20.toNat : Int), .slice none 0 0])] ?_
 refine GL.call (j := 2) (Bytes_addr x1 x2 x3 x4 x5 x6 x7 x8 x9 x10 x11 x12 x13 x14 x15 x16 x17 x18 x19 x20 none 0 0 w17) (by kernel_rfl) rfl (fun e_ w26 hR => ?_)
 obtain ⟨A22, c23, rfl, H25⟩ := hR
 have H24 : Hp w [] [.blk p3 [li 0, lb 0, lb 0, lb 0, lb 0, lb 0, lb 0, lb 0, lb 0, lb 0, lb 0, lb 0, lb 0, lb 0, lb 0, lb 0, lb 0, lb 0, lb 0, lb 0, lb 0, .slice none 0 0] 43, .blk p13 [li 1, lb (x1.toNat : Int), lb (x2.toNat : Int), lb (x3.toNat : Int), lb (x4.toNat : Int), lb (x5.toNat : Int), lb (x6.toNat : Int), lb (x7.toNat : Int), lb (x8.toNat : Int), lb (x9.toNat : Int), lb (x10.toNat : Int), lb (x11.toNat : Int), lb (x12.toNat : Int), lb (x13.toNat : Int), lb (x14.toNat : Int), lb (x15.toNat : Int), lb (x16.toNat : Int), lb (x17.toNat : Int), lb (x18.toNat : Int), lb (x19.toNat : Int), lb (x20.toNat : Int), .slice none 0 0] 43, .row A22 (([118, 169, 20, x1, x2, x3, x4, x5, x6, x7, x8, x9, x10, x11, x12, x13, x14, x15, x16, x17, x18, x19, x20, 136, 172] : List UInt8).length) c23 5 1 (by8 ([118, 169, 20, x1, x2, x3, x4, x5, x6, x7, x8, x9, x10, x11, x12, x13, x14, x15, x16, x17, x18, x19, x20, 136, 172] : List UInt8))] w26 := H19.callNew H25
 refine ⟨_, rfl, [0, 2, 3, 19], [(0, .slice A 25 c), (2, pt p3 0), (3, pt p13 0), (19, .tuple #[.slice A22 (([118, 169, 20, x1, x2, x3, x4, x5, x6, x7, x8, x9, x10, x11, x12, x13, x14, x15, x16, x17, x18, x19, x20, 136, 172] : List UInt8).length) c23, li 0])], by kernel_rfl, ?_⟩
 refine GL.r 7 5 [(0, .slice A 25 c), (2, pt p3 0), (3, pt p13 0), (4, .slice A22 (([118, 169, 20, x1, x2, x3, x4, x5, x6, x7, x8, x9, x10, x11, x12, x13, x14, x15, x16, x17, x18, x19, x20, 136, 172] : List UInt8).length) c23), (5, li 0)] ?_
 refine GL.q hK21 ?_
 refine G.sr fun K27 hK28 => ?_
 refine GL.r 5 5 [(0, .slice A 25 c), (2, pt p3 0), (3, pt p13 0), (24, .bool true), (25, .slice A22 (([118, 169, 20, x1, x2, x3, x4, x5, x6, x7, x8, x9, x10, x11, x12, x13, x14, x15, x16, x17, x18, x19, x20, 136, 172] : List UInt8).length) c23), (26, .slice A 25 c)] ?_
 refine GL.call (j := 6) (Equal_calls ([118, 169, 20, x1, x2, x3, x4, x5, x6, x7, x8, x9, x10, x11, x12, x13, x14, x15, x16, x17, x18, x19, x20, 136, 172] : List UInt8) ([106, 23, x0, x1, x2, x3, x4, x5, x6, x7, x8, x9, x10, x11, x12, x13, x14, x15, x16, x17, x18, x19, x20, x21, x22] : List UInt8) A22 A c23 c w26 (H24.rdRow 2 rfl) (hr.hp H24)) (by kernel_rfl) rfl (fun e_ w29 hR => ?_)
 obtain ⟨rfl, H31⟩ := hR
 have H30 : Hp w [] [.blk p3 [li 0, lb 0, lb 0, lb 0, lb 0, lb 0, lb 0, lb 0, lb 0, lb 0, lb 0, lb 0, lb 0, lb 0, lb 0, lb 0, lb 0, lb 0, lb 0, lb 0, lb 0, .slice none 0 0] 43, .blk p13 [li 1, lb (x1.toNat : Int), lb (x2.toNat : Int), lb (x3.toNat : Int), lb (x4.toNat : Int), lb (x5.toNat : Int), lb (x6.toNat : Int), lb (x7.toNat : Int), lb (x8.toNat : Int), lb (x9.toNat : Int), lb (x10.toNat : Int), lb (x11.toNat : Int), lb (x12.toNat : Int), lb (x13.toNat : Int), lb (x14.toNat : Int), lb (x15.toNat : Int), lb (x16.toNat : Int), lb (x17.toNat : Int), lb (x18.toNat : Int), lb (x19.toNat : Int), lb (x20.toNat : Int), .slice none 0 0] 43, .row A22 (([118, 169, 20, x1, x2, x3, x4, x5, x6, x7, x8, x9, x10, x11, x12, x13, x14, x15, x16, x17, x18, x19, x20, 136, 172] : List UInt8).length) c23 5 1 (by8 ([118, 169, 20, x1, x2, x3, x4, x5, x6, x7, x8, x9, x10, x11, x12, x13, x14, x15, x16, x17, x18, x19, x20, 136, 172] : List UInt8))] w29 := H24.callNil H31
 refine ⟨_, rfl, [0, 2, 3, 24, 27], [(0, .slice A 25 c), (2, pt p3 0), (3, pt p13 0), (24, .bool true), (27, .bool (([118, 169, 20, x1, x2, x3, x4, x5, x6, x7, x8, x9, x10, x11, x12, x13, x14, x15, x16, x17, x18, x19, x20, 136, 172] : List UInt8) == ([106, 23, x0, x1, x2, x3, x4, x5, x6, x7, x8, x9, x10, x11, x12, x13, x14, x15, x16, x17, x18, x19, x20, x21, x22] : List UInt8)))], by kernel_rfl, ?_⟩
 refine GL.r 7 1 [(0, .slice A 25 c), (2, pt p3 0), (3, pt p13 0), (28, .bool (([118, 169, 20, x1, x2, x3, x4, x5, x6, x7, x8, x9, x10, x11, x12, x13, x14, x15, x16, x17, x18, x19, x20, 136, 172] : List UInt8) == ([106, 23, x0, x1, x2, x3, x4, x5, x6, x7, x8, x9, x10, x11, x12, x13, x14, x15, x16, x17, x18, x19, x20, x21, x22] : List UInt8)))] ?_
 refine GL.q hK28 ?_
 have hb32 : (([118, 169, 20, x1, x2, x3, x4, x5, x6, x7, x8, x9, x10, x11, x12, x13, x14, x15, x16, x17, x18, x19, x20, 136, 172] : List UInt8) == ([106, 23, x0, x1, x2, x3, x4, x5, x6, x7, x8, x9, x10, x11, x12, x13, x14, x15, x16, x17, x18, x19, x20, x21, x22] : List UInt8)) = false := by simp
 rw [hb32]
 refine G.no rfl ?_
 refine G.skipK hK8 (fun _ _ h => h) ?_
 refine G.seqK fun K33 hK34 => ?_
 refine G.sr fun K35 hK36 => ?_
 refine GL.r 3 3 [(0, .slice A 25 c), (2, pt p3 0), (32, .bool true)] ?_
 refine GL.q hK36 ?_
 refine G.yes rfl ?_
 refine G.sr fun K37 hK38 => ?_
 refine GL.r 1 1 [(0, .slice A 25 c), (2, pt p3 0), (33, .slice A 25 c)] ?_
 refine GL.s 2 (run_sliceSl (P := Try.prog) (lo := some (li 2)) (hi := none) (t := 38) (len := 25) (cap := c) (A := A) (l := 2) (h := 25) (by kernel_rfl) (Or.inr ⟨_, _, rfl, rfl⟩) (Or.inl ⟨rfl, rfl⟩) (by omega) (by omega)) [(0, .slice A 25 c), (2, pt p3 0), (34, .slice (if c = 2 then A else Option.map (fun x => Addr.add x 2) A) 23 (c - 2))] ?_
 refine GL.call (j := 3) (SClone_calls ([x0, x1, x2, x3, x4, x5, x6, x7, x8, x9, x10, x11, x12, x13, x14, x15, x16, x17, x18, x19, x20, x21, x22] : List UInt8) (if c = 2 then A else Option.map (fun x => Addr.add x 2) A) (c - 2) w29 (RdS.drop8 (cap := c) (hr.hp H30) 2 (cs := ([x0, x1, x2, x3, x4, x5, x6, x7, x8, x9, x10, x11, x12, x13, x14, x15, x16, x17, x18, x19, x20, x21, x22] : List UInt8)) (by first | rfl | omega | (simp only [List.length_cons, List.length_nil, List.length_drop, List.length_take, List.length_append] <;> omega)) rfl) (isNone_drop hr (by first | rfl | omega | (simp only [List.length_cons, List.length_nil, List.length_drop, List.length_take, List.length_append] <;> omega)) (by first | rfl | omega | (simp only [List.length_cons, List.length_nil, List.length_drop, List.length_take, List.length_append] <;> omega))) (by first | rfl | omega | (simp only [List.length_cons, List.length_nil, List.length_drop, List.length_take, List.length_append] <;> omega))) (by kernel_rfl) rfl (fun e_ w43 hR => ?_)
 obtain ⟨A39, c40, rfl, H42⟩ := hR
 have H41 : Hp w [] [.blk p3 [li 0, lb 0, lb 0, lb 0, lb 0, lb 0, lb 0, lb 0, lb 0, lb 0, lb 0, lb 0, lb 0, lb 0, lb 0, lb 0, lb 0, lb 0, lb 0, lb 0, lb 0, .slice none 0 0] 43, .blk p13 [li 1, lb (x1.toNat : Int), lb (x2.toNat : Int), lb (x3.toNat : Int), lb (x4.toNat : Int), lb (x5.toNat : Int), lb (x6.toNat : Int), lb (x7.toNat : Int), lb (x8.toNat : Int), lb (x9.toNat : Int), lb (x10.toNat : Int), lb (x11.toNat : Int), lb (x12.toNat : Int), lb (x13.toNat : Int), lb (x14.toNat : Int), lb (x15.toNat : Int), lb (x16.toNat : Int), lb (x17.toNat : Int), lb (x18.toNat : Int), lb (x19.toNat : Int), lb (x20.toNat : Int), .slice none 0 0] 43, .row A22 (([118, 169, 20, x1, x2, x3, x4, x5, x6, x7, x8, x9, x10, x11, x12, x13, x14, x15, x16, x17, x18, x19, x20, 136, 172] : List UInt8).length) c23 5 1 (by8 ([118, 169, 20, x1, x2, x3, x4, x5, x6, x7, x8, x9, x10, x11, x12, x13, x14, x15, x16, x17, x18, x19, x20, 136, 172] : List UInt8)), .row A39 23 c40 5 1 (by8 ([x0, x1, x2, x3, x4, x5, x6, x7, x8, x9, x10, x11, x12, x13, x14, x15, x16, x17, x18, x19, x20, x21, x22] : List UInt8))] w43 := H30.callNew H42
 refine ⟨_, rfl, [0, 2, 35], [(0, .slice A 25 c), (2, pt p3 0), (35, .slice A39 23 c40)], by kernel_rfl, ?_⟩
 refine GL.r 4 1 [(0, .slice A 25 c), (2, pt p3 0), (36, .agg #[li 2, lb 0, lb 0, lb 0, lb 0, lb 0, lb 0, lb 0, lb 0, lb 0, lb 0, lb 0, lb 0, lb 0, lb 0, lb 0, lb 0, lb 0, lb 0, lb 0, lb 0, .slice A39 23 c40])] ?_
 obtain ⟨p44, w45, r46, H47⟩ := H41.alloc (P := Try.prog) 43 [li 0, lb 0, lb 0, lb 0, lb 0, lb 0, lb 0, lb 0, lb 0, lb 0, lb 0, lb 0, lb 0, lb 0, lb 0, lb 0, lb 0, lb 0, lb 0, lb 0, lb 0, .slice none 0 0] (by kernel_rfl)
 refine GL.s 5 (r46) [(0, .slice A 25 c), (2, pt p3 0), (6, pt p44 0), (36, .agg #[li 2, lb 0, lb 0, lb 0, lb 0, lb 0, lb 0, lb 0, lb 0, lb 0, lb 0, lb 0, lb 0, lb 0, lb 0, lb 0, lb 0, lb 0, lb 0, lb 0, lb 0, .slice A39 23 c40])] ?_
 obtain ⟨w48, r49, H50⟩ := H47.stA (P := Try.prog) (o := 0) (vs := [li 2, lb 0, lb 0, lb 0, lb 0, lb 0, lb 0, lb 0, lb 0, lb 0, lb 0, lb 0, lb 0, lb 0, lb 0, lb 0, lb 0, lb 0, lb 0, lb 0, lb 0, .slice A39 23 c40]) (ty := 43) (m := 22) 4 rfl (by kernel_rfl) rfl (by simp) (by simp [Value.oneCell'])
 refine GL.u 6 r49 [(0, .slice A 25 c), (2, pt p3 0), (6, pt p44 0)] ?_
 refine GL.q hK38 ?_
 refine G.sr fun K51 hK52 => ?_
 refine GL.s 1 (H50.ldA (o := 0) (ty := 43) (m := 22) (sub := [li 2, lb 0, lb 0, lb 0, lb 0, lb 0, lb 0, lb 0, lb 0, lb 0, lb 0, lb 0, lb 0, lb 0, lb 0, lb 0, lb 0, lb 0, lb 0, lb 0, lb 0, .slice A39 23 c40]) 4 rfl (by kernel_rfl) rfl rfl) [(0, .slice A 25 c), (2, pt p3 0), (6, pt p44 0), (38, .agg #[li 2, lb 0, lb 0, lb 0, lb 0, lb 0, lb 0, lb 0, lb 0, lb 0, lb 0, lb 0, lb 0, lb 0, lb 0, lb 0, lb 0, lb 0, lb 0, lb 0, lb 0, .slice A39 23 c40])] ?_
 refine GL.call (j := 2) (Bytes_tag (0 : UInt8) (0 : UInt8) (0 : UInt8) (0 : UInt8) (0 : UInt8) (0 : UInt8) (0 : UInt8) (0 : UInt8) (0 : UInt8) (0 : UInt8) (0 : UInt8) (0 : UInt8) (0 : UInt8) (0 : UInt8) (0 : UInt8) (0 : UInt8) (0 : UInt8) (0 : UInt8) (0 : UInt8) (0 : UInt8) ([x0, x1, x2, x3, x4, x5, x6, x7, x8, x9, x10, x11, x12, x13, x14, x15, x16, x17, x18, x19, x20, x21, x22] : List UInt8) A39 c40 w48 (H50.rdRow 3 rfl) (by simp) (by simp)) (by kernel_rfl) rfl (fun e_ w57 hR => ?_)
 obtain ⟨A53, c54, rfl, H56⟩ := hR
 have H55 : Hp w [] [.blk p3 [li 0, lb 0, lb 0, lb 0, lb 0, lb 0, lb 0, lb 0, lb 0, lb 0, lb 0, lb 0, lb 0, lb 0, lb 0, lb 0, lb 0, lb 0, lb 0, lb 0, lb 0, .slice none 0 0] 43, .blk p13 [li 1, lb (x1.toNat : Int), lb (x2.toNat : Int), lb (x3.toNat : Int), lb (x4.toNat : Int), lb (x5.toNat : Int), lb (x6.toNat : Int), lb (x7.toNat : Int), lb (x8.toNat : Int), lb (x9.toNat : Int), lb (x10.toNat : Int), lb (x11.toNat : Int), lb (x12.toNat : Int), lb (x13.toNat : Int), lb (x14.toNat : Int), lb (x15.toNat : Int), lb (x16.toNat : Int), lb (x17.toNat : Int), lb (x18.toNat : Int), lb (x19.toNat : Int), lb (x20.toNat : Int), .slice none 0 0] 43, .row A22 (([118, 169, 20, x1, x2, x3, x4, x5, x6, x7, x8, x9, x10, x11, x12, x13, x14, x15, x16, x17, x18, x19, x20, 136, 172] : List UInt8).length) c23 5 1 (by8 ([118, 169, 20, x1, x2, x3, x4, x5, x6, x7, x8, x9, x10, x11, x12, x13, x14, x15, x16, x17, x18, x19, x20, 136, 172] : List UInt8)), .row A39 23 c40 5 1 (by8 ([x0, x1, x2, x3, x4, x5, x6, x7, x8, x9, x10, x11, x12, x13, x14, x15, x16, x17, x18, x19, x20, x21, x22] : List UInt8)), .blk p44 [li 2, lb 0, lb 0, lb 0, lb 0, lb 0, lb 0, lb 0, lb 0, lb 0, lb 0, lb 0, lb 0, lb 0, lb 0, lb 0, lb 0, lb 0, lb 0, lb 0, lb 0, .slice A39 23 c40] 43, .row A53 ((106 :: UInt8.ofNat ([x0, x1, x2, x3, x4, x5, x6, x7, x8, x9, x10, x11, x12, x13, x14, x15, x16, x17, x18, x19, x20, x21, x22] : List UInt8).length :: ([x0, x1, x2, x3, x4, x5, x6, x7, x8, x9, x10, x11, x12, x13, x14, x15, x16, x17, x18, x19, x20, x21, x22] : List UInt8)).length) c54 5 1 (by8 (106 :: UInt8.ofNat ([x0, x1, x2, x3, x4, x5, x6, x7, x8, x9, x10, x11, x12, x13, x14, x15, x16, x17, x18, x19, x20, x21, x22] : List UInt8).length :: ([x0, x1, x2, x3, x4, x5, x6, x7, x8, x9, x10, x11, x12, x13, x14, x15, x16, x17, x18, x19, x20, x21, x22] : List UInt8)))] w57 := H50.callNew H56
 refine ⟨_, rfl, [0, 2, 6, 39], [(0, .slice A 25 c), (2, pt p3 0), (6, pt p44 0), (39, .tuple #[.slice A53 ((106 :: UInt8.ofNat ([x0, x1, x2, x3, x4, x5, x6, x7, x8, x9, x10, x11, x12, x13, x14, x15, x16, x17, x18, x19, x20, x21, x22] : List UInt8).length :: ([x0, x1, x2, x3, x4, x5, x6, x7, x8, x9, x10, x11, x12, x13, x14, x15, x16, x17, x18, x19, x20, x21, x22] : List UInt8)).length) c54, li 0])], by kernel_rfl, ?_⟩
 refine GL.r 7 5 [(0, .slice A 25 c), (2, pt p3 0), (6, pt p44 0), (7, .slice A53 ((106 :: UInt8.ofNat ([x0, x1, x2, x3, x4, x5, x6, x7, x8, x9, x10, x11, x12, x13, x14, x15, x16, x17, x18, x19, x20, x21, x22] : List UInt8).length :: ([x0, x1, x2, x3, x4, x5, x6, x7, x8, x9, x10, x11, x12, x13, x14, x15, x16, x17, x18, x19, x20, x21, x22] : List UInt8)).length) c54), (8, li 0)] ?_
 refine GL.q hK52 ?_
 refine G.sr fun K58 hK59 => ?_
 refine GL.r 5 5 [(2, pt p3 0), (6, pt p44 0), (44, .bool true), (45, .slice A53 ((106 :: UInt8.ofNat ([x0, x1, x2, x3, x4, x5, x6, x7, x8, x9, x10, x11, x12, x13, x14, x15, x16, x17, x18, x19, x20, x21, x22] : List UInt8).length :: ([x0, x1, x2, x3, x4, x5, x6, x7, x8, x9, x10, x11, x12, x13, x14, x15, x16, x17, x18, x19, x20, x21, x22] : List UInt8)).length) c54), (46, .slice A 25 c)] ?_
 refine GL.call (j := 6) (Equal_calls (106 :: UInt8.ofNat ([x0, x1, x2, x3, x4, x5, x6, x7, x8, x9, x10, x11, x12, x13, x14, x15, x16, x17, x18, x19, x20, x21, x22] : List UInt8).length :: ([x0, x1, x2, x3, x4, x5, x6, x7, x8, x9, x10, x11, x12, x13, x14, x15, x16, x17, x18, x19, x20, x21, x22] : List UInt8)) ([106, 23, x0, x1, x2, x3, x4, x5, x6, x7, x8, x9, x10, x11, x12, x13, x14, x15, x16, x17, x18, x19, x20, x21, x22] : List UInt8) A53 A c54 c w57 (H55.rdRow 5 rfl) (hr.hp H55)) (by kernel_rfl) rfl (fun e_ w60 hR => ?_)
 obtain ⟨rfl, H62⟩ := hR
 have H61 : Hp w [] [.blk p3 [li 0, lb 0, lb 0, lb 0, lb 0, lb 0, lb 0, lb 0, lb 0, lb 0, lb 0, lb 0, lb 0, lb 0, lb 0, lb 0, lb 0, lb 0, lb 0, lb 0, lb 0, .slice none 0 0] 43, .blk p13 [li 1, lb (x1.toNat : Int), lb (x2.toNat : Int), lb (x3.toNat : Int), lb (x4.toNat : Int), lb (x5.toNat : Int), lb (x6.toNat : Int), lb (x7.toNat : Int), lb (x8.toNat : Int), lb (x9.toNat : Int), lb (x10.toNat : Int), lb (x11.toNat : Int), lb (x12.toNat : Int), lb (x13.toNat : Int), lb (x14.toNat : Int), lb (x15.toNat : Int), lb (x16.toNat : Int), lb (x17.toNat : Int), lb (x18.toNat : Int), lb (x19.toNat : Int), lb (x20.toNat : Int), .slice none 0 0] 43, .row A22 (([118, 169, 20, x1, x2, x3, x4, x5, x6, x7, x8, x9, x10, x11, x12, x13, x14, x15, x16, x17, x18, x19, x20, 136, 172] : List UInt8).length) c23 5 1 (by8 ([118, 169, 20, x1, x2, x3, x4, x5, x6, x7, x8, x9, x10, x11, x12, x13, x14, x15, x16, x17, x18, x19, x20, 136, 172] : List UInt8)), .row A39 23 c40 5 1 (by8 ([x0, x1, x2, x3, x4, x5, x6, x7, x8, x9, x10, x11, x12, x13, x14, x15, x16, x17, x18, x19, x20, x21, x22] : List UInt8)), .blk p44 [li 2, lb 0, lb 0, lb 0, lb 0, lb 0, lb 0, lb 0, lb 0, lb 0, lb 0, lb 0, lb 0, lb 0, lb 0, lb 0, lb 0, lb 0, lb 0, lb 0, lb 0, .slice A39 23 c40] 43, .row A53 ((106 :: UInt8.ofNat ([x0, x1, x2, x3, x4, x5, x6, x7, x8, x9, x10, x11, x12, x13, x14, x15, x16, x17, x18, x19, x20, x21, x22] : List UInt8).length :: ([x0, x1, x2, x3, x4, x5, x6, x7, x8, x9, x10, x11, x12, x13, x14, x15, x16, x17, x18, x19, x20, x21, x22] : List UInt8)).length) c54 5 1 (by8 (106 :: UInt8.ofNat ([x0, x1, x2, x3, x4, x5, x6, x7, x8, x9, x10, x11, x12, x13, x14, x15, x16, x17, x18, x19, x20, x21, x22] : List UInt8).length :: ([x0, x1, x2, x3, x4, x5, x6, x7, x8, x9, x10, x11, x12, x13, x14, x15, x16, x17, x18, x19, x20, x21, x22] : List UInt8)))] w60 := H55.callNil H62
 refine ⟨_, rfl, [2, 6, 44, 47], [(2, pt p3 0), (6, pt p44 0), (44, .bool true), (47, .bool ((106 :: UInt8.ofNat ([x0, x1, x2, x3, x4, x5, x6, x7, x8, x9, x10, x11, x12, x13, x14, x15, x16, x17, x18, x19, x20, x21, x22] : List UInt8).length :: ([x0, x1, x2, x3, x4, x5, x6, x7, x8, x9, x10, x11, x12, x13, x14, x15, x16, x17, x18, x19, x20, x21, x22] : List UInt8)) == ([106, 23, x0, x1, x2, x3, x4, x5, x6, x7, x8, x9, x10, x11, x12, x13, x14, x15, x16, x17, x18, x19, x20, x21, x22] : List UInt8)))], by kernel_rfl, ?_⟩
 refine GL.r 7 1 [(2, pt p3 0), (6, pt p44 0), (48, .bool ((106 :: UInt8.ofNat ([x0, x1, x2, x3, x4, x5, x6, x7, x8, x9, x10, x11, x12, x13, x14, x15, x16, x17, x18, x19, x20, x21, x22] : List UInt8).length :: ([x0, x1, x2, x3, x4, x5, x6, x7, x8, x9, x10, x11, x12, x13, x14, x15, x16, x17, x18, x19, x20, x21, x22] : List UInt8)) == ([106, 23, x0, x1, x2, x3, x4, x5, x6, x7, x8, x9, x10, x11, x12, x13, x14, x15, x16, x17, x18, x19, x20, x21, x22] : List UInt8)))] ?_
 refine GL.q hK59 ?_
 have hb63 : ((106 :: UInt8.ofNat ([x0, x1, x2, x3, x4, x5, x6, x7, x8, x9, x10, x11, x12, x13, x14, x15, x16, x17, x18, x19, x20, x21, x22] : List UInt8).length :: ([x0, x1, x2, x3, x4, x5, x6, x7, x8, x9, x10, x11, x12, x13, x14, x15, x16, x17, x18, x19, x20, x21, x22] : List UInt8)) == ([106, 23, x0, x1, x2, x3, x4, x5, x6, x7, x8, x9, x10, x11, x12, x13, x14, x15, x16, x17, x18, x19, x20, x21, x22] : List UInt8)) = true := by rw [beq_iff_eq]; rfl
 rw [hb63]
 refine G.yes rfl ?_
 refine G.sr fun K64 hK65 => ?_
 refine GL.s 1 (H61.ldA (o := 0) (ty := 43) (m := 22) (sub := [li 2, lb 0, lb 0, lb 0, lb 0, lb 0, lb 0, lb 0, lb 0, lb 0, lb 0, lb 0, lb 0, lb 0, lb 0, lb 0, lb 0, lb 0, lb 0, lb 0, lb 0, .slice A39 23 c40]) 4 rfl (by kernel_rfl) rfl rfl) [(2, pt p3 0), (49, .agg #[li 2, lb 0, lb 0, lb 0, lb 0, lb 0, lb 0, lb 0, lb 0, lb 0, lb 0, lb 0, lb 0, lb 0, lb 0, lb 0, lb 0, lb 0, lb 0, lb 0, lb 0, .slice A39 23 c40])] ?_
 obtain ⟨w66, r67, H68⟩ := H61.stA (P := Try.prog) (o := 0) (vs := [li 2, lb 0, lb 0, lb 0, lb 0, lb 0, lb 0, lb 0, lb 0, lb 0, lb 0, lb 0, lb 0, lb 0, lb 0, lb 0, lb 0, lb 0, lb 0, lb 0, lb 0, .slice A39 23 c40]) (ty := 43) (m := 22) 0 rfl (by kernel_rfl) rfl (by simp) (by simp [Value.oneCell'])
 refine GL.u 2 r67 [(2, pt p3 0)] ?_
 refine GL.q hK65 ?_
 refine G.ret fun F_ hF_ hM_ => hRet _ _ (bodyPost_1 rfl (RV.cell rfl (H68.ldA (o := 0) (ty := 43) (m := 22) (sub := [li 2, lb 0, lb 0, lb 0, lb 0, lb 0, lb 0, lb 0, lb 0, lb 0, lb 0, lb 0, lb 0, lb 0, lb 0, lb 0, lb 0, lb 0, lb 0, lb 0, lb 0, .slice A39 23 c40]) 0 rfl (by kernel_rfl) rfl rfl)) ?_ F_ hF_ hM_)
 exact ⟨_, _, rfl, H68.sub (by simp)⟩
theorem Parse_short (bs : List UInt8) (A : Option Addr) (c : Nat) (w : World) (hs : bs.length ≤ 2) : Calls Try.prog 11 #[.slice A bs.length c] w fun e w' => e = .returned (.agg #[.int .i64 0, .int .u8 0, .int .u8 0, .int .u8 0, .int .u8 0, .int .u8 0, .int .u8 0, .int .u8 0, .int .u8 0, .int .u8 0, .int .u8 0, .int .u8 0, .int .u8 0, .int .u8 0, .int .u8 0, .int .u8 0, .int .u8 0, .int .u8 0, .int .u8 0, .int .u8 0, .int .u8 0, .slice none 0 0]) ∧ Hp w [] [] w' := by
 refine calls_G (args := [.slice A bs.length c]) Try.func11 rfl Try.ntmps11 rfl ?_
 intro Q0 hRet hNor hPan
 have H := Hp.start w
 refine G.sr fun K1 hK2 => ?_
 obtain ⟨p3, w4, r5, H6⟩ := H.alloc (P := Try.prog) 43 [li 0, lb 0, lb 0, lb 0, lb 0, lb 0, lb 0, lb 0, lb 0, lb 0, lb 0, lb 0, lb 0, lb 0, lb 0, lb 0, lb 0, lb 0, lb 0, lb 0, lb 0, .slice none 0 0] (by kernel_rfl)
 refine GL.s 1 (r5) [(0, .slice A bs.length c), (2, pt p3 0)] ?_
 refine GL.q hK2 ?_
 refine G.seqK fun K7 hK8 => ?_
 refine G.sr fun K9 hK10 => ?_
 refine GL.r 3 3 [(0, .slice A bs.length c), (2, pt p3 0), (11, .bool ((bs.length : Int) == 25))] ?_
 refine GL.q hK10 ?_
 have hb11 : ((bs.length : Int) == 25) = false := beq_eq_false_iff_ne.2 (by omega)
 rw [hb11]
 refine G.no rfl ?_
 refine G.skipK hK8 (fun _ _ h => h) ?_
 refine G.seqK fun K12 hK13 => ?_
 refine G.sr fun K14 hK15 => ?_
 refine GL.r 3 3 [(0, .slice A bs.length c), (2, pt p3 0), (32, .bool (decide (2 < (bs.length : Int))))] ?_
 refine GL.q hK15 ?_
 have hb16 : (decide (2 < (bs.length : Int))) = false := decide_eq_false (by omega)
 rw [hb16]
 refine G.no rfl ?_
 refine G.skipK hK13 (fun _ _ h => h) ?_
 refine G.sr fun K17 hK18 => ?_
 refine GL.r 1 1 [(2, pt p3 0), (50, .agg #[li 0, lb 0, lb 0, lb 0, lb 0, lb 0, lb 0, lb 0, lb 0, lb 0, lb 0, lb 0, lb 0, lb 0, lb 0, lb 0, lb 0, lb 0, lb 0, lb 0, lb 0, .slice none 0 0])] ?_
 obtain ⟨w19, r20, H21⟩ := H6.stA (P := Try.prog) (o := 0) (vs := [li 0, lb 0, lb 0, lb 0, lb 0, lb 0, lb 0, lb 0, lb 0, lb 0, lb 0, lb 0, lb 0, lb 0, lb 0, lb 0, lb 0, lb 0, lb 0, lb 0, lb 0, .slice none 0 0]) (ty := 43) (m := 22) 0 rfl (by kernel_rfl) rfl (by simp) (by simp [Value.oneCell'])
 refine GL.u 2 r20 [(2, pt p3 0)] ?_
 refine GL.q hK18 ?_
 refine G.ret fun F_ hF_ hM_ => hRet _ _ (bodyPost_1 rfl (RV.cell rfl (H21.ldA (o := 0) (ty := 43) (m := 22) (sub := [li 0, lb 0, lb 0, lb 0, lb 0, lb 0, lb 0, lb 0, lb 0, lb 0, lb 0, lb 0, lb 0, lb 0, lb 0, lb 0, lb 0, lb 0, lb 0, lb 0, lb 0, .slice none 0 0]) 0 rfl (by kernel_rfl) rfl rfl)) ?_ F_ hF_ hM_)
 exact ⟨rfl, H21.sub (List.nil_sublist _)⟩
theorem Parse_no3 (y0 y1 : UInt8) (t : List UInt8) (A : Option Addr) (c : Nat) (w : World) (hr : RdS w A (by8 (y0 :: y1 :: t))) (h1 : 1 ≤ t.length) (h40 : t.length ≤ 40) (h23 : t.length ≠ 23) (hc : t.length + 2 ≤ c) (hne : (106 :: UInt8.ofNat t.length :: t) ≠ (y0 :: y1 :: t)) : Calls Try.prog 11 #[.slice A ((y0 :: y1 :: t).length) c] w fun e w' => e = .returned (.agg #[.int .i64 0, .int .u8 0, .int .u8 0, .int .u8 0, .int .u8 0, .int .u8 0, .int .u8 0, .int .u8 0, .int .u8 0, .int .u8 0, .int .u8 0, .int .u8 0, .int .u8 0, .int .u8 0, .int .u8 0, .int .u8 0, .int .u8 0, .int .u8 0, .int .u8 0, .int .u8 0, .int .u8 0, .slice none 0 0]) ∧ Hp w [] [] w' := by
 refine calls_G (args := [.slice A ((y0 :: y1 :: t).length) c]) Try.func11 rfl Try.ntmps11 rfl ?_
 intro Q0 hRet hNor hPan
 have H := Hp.start w
 refine G.sr fun K1 hK2 => ?_
 obtain ⟨p3, w4, r5, H6⟩ := H.alloc (P := Try.prog) 43 [li 0, lb 0, lb 0, lb 0, lb 0, lb 0, lb 0, lb 0, lb 0, lb 0, lb 0, lb 0, lb 0, lb 0, lb 0, lb 0, lb 0, lb 0, lb 0, lb 0, lb 0, .slice none 0 0] (by kernel_rfl)
 refine GL.s 1 (r5) [(0, .slice A ((y0 :: y1 :: t).length) c), (2, pt p3 0)] ?_
 refine GL.q hK2 ?_
 refine G.seqK fun K7 hK8 => ?_
 refine G.sr fun K9 hK10 => ?_
 refine GL.r 3 3 [(0, .slice A ((y0 :: y1 :: t).length) c), (2, pt p3 0), (11, .bool ((((y0 :: y1 :: t).length : Nat) : Int) == 25))] ?_
 refine GL.q hK10 ?_
 have hb11 : ((((y0 :: y1 :: t).length : Nat) : Int) == 25) = false := beq_eq_false_iff_ne.2 (by simp; omega)
 rw [hb11]
 refine G.no rfl ?_
 refine G.skipK hK8 (fun _ _ h => h) ?_
 refine G.seqK fun K12 hK13 => ?_
 refine G.sr fun K14 hK15 => ?_
 refine GL.r 3 3 [(0, .slice A ((y0 :: y1 :: t).length) c), (2, pt p3 0), (32, .bool (decide (2 < (((y0 :: y1 :: t).length : Nat) : Int))))] ?_
 refine GL.q hK15 ?_
 have hb16 : (decide (2 < (((y0 :: y1 :: t).length : Nat) : Int))) = true := decide_eq_true (by simp; omega)
 rw [hb16]
 refine G.yes rfl ?_
 refine G.sr fun K17 hK18 => ?_
 refine GL.r 1 1 [(0, .slice A ((y0 :: y1 :: t).length) c), (2, pt p3 0), (33, .slice A ((y0 :: y1 :: t).length) c)] ?_
 refine GL.s 2 (run_sliceSl (P := Try.prog) (lo := some (li 2)) (hi := none) (t := 38) (len := (y0 :: y1 :: t).length) (cap := c) (A := A) (l := 2) (h := (y0 :: y1 :: t).length) (by kernel_rfl) (Or.inr ⟨_, _, rfl, rfl⟩) (Or.inl ⟨rfl, rfl⟩) (by first | rfl | omega | (simp only [List.length_cons, List.length_nil, List.length_drop, List.length_take, List.length_append] <;> omega)) (by first | rfl | omega | (simp only [List.length_cons, List.length_nil, List.length_drop, List.length_take, List.length_append] <;> omega))) [(0, .slice A ((y0 :: y1 :: t).length) c), (2, pt p3 0), (34, .slice (if c = 2 then A else Option.map (fun x => Addr.add x 2) A) t.length (c - 2))] ?_
 refine GL.call (j := 3) (SClone_calls t (if c = 2 then A else Option.map (fun x => Addr.add x 2) A) (c - 2) w4 (RdS.drop8 (cap := c) (hr.hp H6) 2 (cs := t) (by first | rfl | omega | (simp only [List.length_cons, List.length_nil, List.length_drop, List.length_take, List.length_append] <;> omega)) rfl) (isNone_drop hr (by first | rfl | omega | (simp only [List.length_cons, List.length_nil, List.length_drop, List.length_take, List.length_append] <;> omega)) (by first | rfl | omega | (simp only [List.length_cons, List.length_nil, List.length_drop, List.length_take, List.length_append] <;> omega))) (by first | rfl | omega | (simp only [List.length_cons, List.length_nil, List.length_drop, List.length_take, List.length_append] <;> omega))) (by kernel_rfl) rfl (fun e_ w23 hR => ?_)
 obtain ⟨A19, c20, rfl, H22⟩ := hR
 have H21 : Hp w [] [.blk p3 [li 0, lb 0, lb 0, lb 0, lb 0, lb 0, lb 0, lb 0, lb 0, lb 0, lb 0, lb 0, lb 0, lb 0, lb 0, lb 0, lb 0, lb 0, lb 0, lb 0, lb 0, .slice none 0 0] 43, .row A19 t.length c20 5 1 (by8 t)] w23 := H6.callNew H22
 refine ⟨_, rfl, [0, 2, 35], [(0, .slice A ((y0 :: y1 :: t).length) c), (2, pt p3 0), (35, .slice A19 t.length c20)], by kernel_rfl, ?_⟩
 refine GL.r 4 1 [(0, .slice A ((y0 :: y1 :: t).length) c), (2, pt p3 0), (36, .agg #[li 2, lb 0, lb 0, lb 0, lb 0, lb 0, lb 0, lb 0, lb 0, lb 0, lb 0, lb 0, lb 0, lb 0, lb 0, lb 0, lb 0, lb 0, lb 0, lb 0, lb 0, .slice A19 t.length c20])] ?_
 obtain ⟨p24, w25, r26, H27⟩ := H21.alloc (P := Try.prog) 43 [li 0, lb 0, lb 0, lb 0, lb 0, lb 0, lb 0, lb 0, lb 0, lb 0, lb 0, lb 0, lb 0, lb 0, lb 0, lb 0, lb 0, lb 0, lb 0, lb 0, lb 0, .slice none 0 0] (by kernel_rfl)
 refine GL.s 5 (r26) [(0, .slice A ((y0 :: y1 :: t).length) c), (2, pt p3 0), (6, pt p24 0), (36, .agg #[li 2, lb 0, lb 0, lb 0, lb 0, lb 0, lb 0, lb 0, lb 0, lb 0, lb 0, lb 0, lb 0, lb 0, lb 0, lb 0, lb 0, lb 0, lb 0, lb 0, lb 0, .slice A19 t.length c20])] ?_
 obtain ⟨w28, r29, H30⟩ := H27.stA (P := Try.prog) (o := 0) (vs := [li 2, lb 0, lb 0, lb 0, lb 0, lb 0, lb 0, lb 0, lb 0, lb 0, lb 0, lb 0, lb 0, lb 0, lb 0, lb 0, lb 0, lb 0, lb 0, lb 0, lb 0, .slice A19 t.length c20]) (ty := 43) (m := 22) 2 rfl (by kernel_rfl) rfl (by simp) (by simp [Value.oneCell'])
 refine GL.u 6 r29 [(0, .slice A ((y0 :: y1 :: t).length) c), (2, pt p3 0), (6, pt p24 0)] ?_
 refine GL.q hK18 ?_
 refine G.sr fun K31 hK32 => ?_
 refine GL.s 1 (H30.ldA (o := 0) (ty := 43) (m := 22) (sub := [li 2, lb 0, lb 0, lb 0, lb 0, lb 0, lb 0, lb 0, lb 0, lb 0, lb 0, lb 0, lb 0, lb 0, lb 0, lb 0, lb 0, lb 0, lb 0, lb 0, lb 0, .slice A19 t.length c20]) 2 rfl (by kernel_rfl) rfl rfl) [(0, .slice A ((y0 :: y1 :: t).length) c), (2, pt p3 0), (6, pt p24 0), (38, .agg #[li 2, lb 0, lb 0, lb 0, lb 0, lb 0, lb 0, lb 0, lb 0, lb 0, lb 0, lb 0, lb 0, lb 0, lb 0, lb 0, lb 0, lb 0, lb 0, lb 0, lb 0, .slice A19 t.length c20])] ?_
 refine GL.call (j := 2) (Bytes_tag (0 : UInt8) (0 : UInt8) (0 : UInt8) (0 : UInt8) (0 : UInt8) (0 : UInt8) (0 : UInt8) (0 : UInt8) (0 : UInt8) (0 : UInt8) (0 : UInt8) (0 : UInt8) (0 : UInt8) (0 : UInt8) (0 : UInt8) (0 : UInt8) (0 : UInt8) (0 : UInt8) (0 : UInt8) (0 : UInt8) t A19 c20 w28 (H30.rdRow 1 rfl) (by omega) (by omega)) (by kernel_rfl) rfl (fun e_ w37 hR => ?_)
 obtain ⟨A33, c34, rfl, H36⟩ := hR
 have H35 : Hp w [] [.blk p3 [li 0, lb 0, lb 0, lb 0, lb 0, lb 0, lb 0, lb 0, lb 0, lb 0, lb 0, lb 0, lb 0, lb 0, lb 0, lb 0, lb 0, lb 0, lb 0, lb 0, lb 0, .slice none 0 0] 43, .row A19 t.length c20 5 1 (by8 t), .blk p24 [li 2, lb 0, lb 0, lb 0, lb 0, lb 0, lb 0, lb 0, lb 0, lb 0, lb 0, lb 0, lb 0, lb 0, lb 0, lb 0, lb 0, lb 0, lb 0, lb 0, lb 0, .slice A19 t.length c20] 43, .row A33 ((106 :: UInt8.ofNat t.length :: t).length) c34 5 1 (by8 (106 :: UInt8.ofNat t.length :: t))] w37 := H30.callNew H36
 refine ⟨_, rfl, [0, 2, 6, 39], [(0, .slice A ((y0 :: y1 :: t).length) c), (2, pt p3 0), (6, pt p24 0), (39, .tuple #[.slice A33 ((106 :: UInt8.ofNat t.length :: t).length) c34, li 0])], by kernel_rfl, ?_⟩
 refine GL.r 7 5 [(0, .slice A ((y0 :: y1 :: t).length) c), (2, pt p3 0), (6, pt p24 0), (7, .slice A33 ((106 :: UInt8.ofNat t.length :: t).length) c34), (8, li 0)] ?_
 refine GL.q hK32 ?_
 refine G.sr fun K38 hK39 => ?_
 refine GL.r 5 5 [(2, pt p3 0), (6, pt p24 0), (44, .bool true), (45, .slice A33 ((106 :: UInt8.ofNat t.length :: t).length) c34), (46, .slice A ((y0 :: y1 :: t).length) c)] ?_
 refine GL.call (j := 6) (Equal_calls (106 :: UInt8.ofNat t.length :: t) (y0 :: y1 :: t) A33 A c34 c w37 (H35.rdRow 3 rfl) (hr.hp H35)) (by kernel_rfl) rfl (fun e_ w40 hR => ?_)
 obtain ⟨rfl, H42⟩ := hR
 have H41 : Hp w [] [.blk p3 [li 0, lb 0, lb 0, lb 0, lb 0, lb 0, lb 0, lb 0, lb 0, lb 0, lb 0, lb 0, lb 0, lb 0, lb 0, lb 0, lb 0, lb 0, lb 0, lb 0, lb 0, .slice none 0 0] 43, .row A19 t.length c20 5 1 (by8 t), .blk p24 [li 2, lb 0, lb 0, lb 0, lb 0, lb 0, lb 0, lb 0, lb 0, lb 0, lb 0, lb 0, lb 0, lb 0, lb 0, lb 0, lb 0, lb 0, lb 0, lb 0, lb 0, .slice A19 t.length c20] 43, .row A33 ((106 :: UInt8.ofNat t.length :: t).length) c34 5 1 (by8 (106 :: UInt8.ofNat t.length :: t))] w40 := H35.callNil H42
 refine ⟨_, rfl, [2, 6, 44, 47], [(2, pt p3 0), (6, pt p24 0), (44, .bool true), (47, .bool ((106 :: UInt8.ofNat t.length :: t) == (y0 :: y1 :: t)))], by kernel_rfl, ?_⟩
 refine GL.r 7 1 [(2, pt p3 0), (6, pt p24 0), (48, .bool ((106 :: UInt8.ofNat t.length :: t) == (y0 :: y1 :: t)))] ?_
 refine GL.q hK39 ?_
 have hb43 : ((106 :: UInt8.ofNat t.length :: t) == (y0 :: y1 :: t)) = false := beq_eq_false_iff_ne.2 hne
 rw [hb43]
 refine G.no rfl ?_
 refine G.skipK hK13 (fun _ _ h => h) ?_
 refine G.sr fun K44 hK45 => ?_
 refine GL.r 1 1 [(2, pt p3 0), (50, .agg #[li 0, lb 0, lb 0, lb 0, lb 0, lb 0, lb 0, lb 0, lb 0, lb 0, lb 0, lb 0, lb 0, lb 0, lb 0, lb 0, lb 0, lb 0, lb 0, lb 0, lb 0, .slice none 0 0])] ?_
 obtain ⟨w46, r47, H48⟩ := H41.stA (P := Try.prog) (o := 0) (vs := [li 0, lb 0, lb 0, lb 0, lb 0, lb 0, lb 0, lb 0, lb 0, lb 0, lb 0, lb 0, lb 0, lb 0, lb 0, lb 0, lb 0, lb 0, lb 0, lb 0, lb 0, .slice none 0 0]) (ty := 43) (m := 22) 0 rfl (by kernel_rfl) rfl (by simp) (by simp [Value.oneCell'])
 refine GL.u 2 r47 [(2, pt p3 0)] ?_
 refine GL.q hK45 ?_
 refine G.ret fun F_ hF_ hM_ => hRet _ _ (bodyPost_1 rfl (RV.cell rfl (H48.ldA (o := 0) (ty := 43) (m := 22) (sub := [li 0, lb 0, lb 0, lb 0, lb 0, lb 0, lb 0, lb 0, lb 0, lb 0, lb 0, lb 0, lb 0, lb 0, lb 0, lb 0, lb 0, lb 0, lb 0, lb 0, lb 0, .slice none 0 0]) 0 rfl (by kernel_rfl) rfl rfl)) ?_ F_ hF_ hM_)
 exact ⟨rfl, H48.sub (List.nil_sublist _)⟩
theorem Parse_no41 (y0 y1 : UInt8) (t : List UInt8) (A : Option Addr) (c : Nat) (w : World) (hr : RdS w A (by8 (y0 :: y1 :: t))) (h1 : 40 < t.length) (hl : t.length ≤ 1099511627776) (hc : t.length + 2 ≤ c) : Calls Try.prog 11 #[.slice A ((y0 :: y1 :: t).length) c] w fun e w' => e = .returned (.agg #[.int .i64 0, .int .u8 0, .int .u8 0, .int .u8 0, .int .u8 0, .int .u8 0, .int .u8 0, .int .u8 0, .int .u8 0, .int .u8 0, .int .u8 0, .int .u8 0, .int .u8 0, .int .u8 0, .int .u8 0, .int .u8 0, .int .u8 0, .int .u8 0, .int .u8 0, .int .u8 0, .int .u8 0, .slice none 0 0]) ∧ Hp w [] [] w' := by
 refine calls_G (args := [.slice A ((y0 :: y1 :: t).length) c]) Try.func11 rfl Try.ntmps11 rfl ?_
 intro Q0 hRet hNor hPan
 have H := Hp.start w
 refine G.sr fun K1 hK2 => ?_
 obtain ⟨p3, w4, r5, H6⟩ := H.alloc (P := Try.prog) 43 [li 0, lb 0, lb 0, lb 0, lb 0, lb 0, lb 0, lb 0, lb 0, lb 0, lb 0, lb 0, lb 0, lb 0, lb 0, lb 0, lb 0, lb 0, lb 0, lb 0, lb 0, .slice none 0 0] (by kernel_rfl)
 refine GL.s 1 (r5) [(0, .slice A ((y0 :: y1 :: t).length) c), (2, pt p3 0)] ?_
 refine GL.q hK2 ?_
 refine G.seqK fun K7 hK8 => ?_
 refine G.sr fun K9 hK10 => ?_
 refine GL.r 3 3 [(0, .slice A ((y0 :: y1 :: t).length) c), (2, pt p3 0), (11, .bool ((((y0 :: y1 :: t).length : Nat) : Int) == 25))] ?_
 refine GL.q hK10 ?_
 have hb11 : ((((y0 :: y1 :: t).length : Nat) : Int) == 25) = false := beq_eq_false_iff_ne.2 (by simp; omega)
 rw [hb11]
 refine G.no rfl ?_
 refine G.skipK hK8 (fun _ _ h => h) ?_
 refine G.seqK fun K12 hK13 => ?_
 refine G.sr fun K14 hK15 => ?_
 refine GL.r 3 3 [(0, .slice A ((y0 :: y1 :: t).length) c), (2, pt p3 0), (32, .bool (decide (2 < (((y0 :: y1 :: t).length : Nat) : Int))))] ?_
 refine GL.q hK15 ?_
 have hb16 : (decide (2 < (((y0 :: y1 :: t).length : Nat) : Int))) = true := decide_eq_true (by simp; omega)
 rw [hb16]
 refine G.yes rfl ?_
 refine G.sr fun K17 hK18 => ?_
 refine GL.r 1 1 [(0, .slice A ((y0 :: y1 :: t).length) c), (2, pt p3 0), (33, .slice A ((y0 :: y1 :: t).length) c)] ?_
 refine GL.s 2 (run_sliceSl (P := Try.prog) (lo := some (li 2)) (hi := none) (t := 38) (len := (y0 :: y1 :: t).length) (cap := c) (A := A) (l := 2) (h := (y0 :: y1 :: t).length) (by kernel_rfl) (Or.inr ⟨_, _, rfl, rfl⟩) (Or.inl ⟨rfl, rfl⟩) (by first | rfl | omega | (simp only [List.length_cons, List.length_nil, List.length_drop, List.length_take, List.length_append] <;> omega)) (by first | rfl | omega | (simp only [List.length_cons, List.length_nil, List.length_drop, List.length_take, List.length_append] <;> omega))) [(0, .slice A ((y0 :: y1 :: t).length) c), (2, pt p3 0), (34, .slice (if c = 2 then A else Option.map (fun x => Addr.add x 2) A) t.length (c - 2))] ?_
 refine GL.call (j := 3) (SClone_calls t (if c = 2 then A else Option.map (fun x => Addr.add x 2) A) (c - 2) w4 (RdS.drop8 (cap := c) (hr.hp H6) 2 (cs := t) (by first | rfl | omega | (simp only [List.length_cons, List.length_nil, List.length_drop, List.length_take, List.length_append] <;> omega)) rfl) (isNone_drop hr (by first | rfl | omega | (simp only [List.length_cons, List.length_nil, List.length_drop, List.length_take, List.length_append] <;> omega)) (by first | rfl | omega | (simp only [List.length_cons, List.length_nil, List.length_drop, List.length_take, List.length_append] <;> omega))) (by first | rfl | omega | (simp only [List.length_cons, List.length_nil, List.length_drop, List.length_take, List.length_append] <;> omega))) (by kernel_rfl) rfl (fun e_ w23 hR => ?_)
 obtain ⟨A19, c20, rfl, H22⟩ := hR
 have H21 : Hp w [] [.blk p3 [li 0, lb 0, lb 0, lb 0, lb 0, lb 0, lb 0, lb 0, lb 0, lb 0, lb 0, lb 0, lb 0, lb 0, lb 0, lb 0, lb 0, lb 0, lb 0, lb 0, lb 0, .slice none 0 0] 43, .row A19 t.length c20 5 1 (by8 t)] w23 := H6.callNew H22
 refine ⟨_, rfl, [0, 2, 35], [(0, .slice A ((y0 :: y1 :: t).length) c), (2, pt p3 0), (35, .slice A19 t.length c20)], by kernel_rfl, ?_⟩
 refine GL.r 4 1 [(0, .slice A ((y0 :: y1 :: t).length) c), (2, pt p3 0), (36, .agg #[li 2, lb 0, lb 0, lb 0, lb 0, lb 0, lb 0, lb 0, lb 0, lb 0, lb 0, lb 0, lb 0, lb 0, lb 0, lb 0, lb 0, lb 0, lb 0, lb 0, lb 0, .slice A19 t.length c20])] ?_
 obtain ⟨p24, w25, r26, H27⟩ := H21.alloc (P := Try.prog) 43 [li 0, lb 0, lb 0, lb 0, lb 0, lb 0, lb 0, lb 0, lb 0, lb 0, lb 0, lb 0, lb 0, lb 0, lb 0, lb 0, lb 0, lb 0, lb 0, lb 0, lb 0, .slice none 0 0] (by kernel_rfl)
 refine GL.s 5 (r26) [(0, .slice A ((y0 :: y1 :: t).length) c), (2, pt p3 0), (6, pt p24 0), (36, .agg #[li 2, lb 0, lb 0, lb 0, lb 0, lb 0, lb 0, lb 0, lb 0, lb 0, lb 0, lb 0, lb 0, lb 0, lb 0, lb 0, lb 0, lb 0, lb 0, lb 0, lb 0, .slice A19 t.length c20])] ?_
 obtain ⟨w28, r29, H30⟩ := H27.stA (P := Try.prog) (o := 0) (vs := [li 2, lb 0, lb 0, lb 0, lb 0, lb 0, lb 0, lb 0, lb 0, lb 0, lb 0, lb 0, lb 0, lb 0, lb 0, lb 0, lb 0, lb 0, lb 0, lb 0, lb 0, .slice A19 t.length c20]) (ty := 43) (m := 22) 2 rfl (by kernel_rfl) rfl (by simp) (by simp [Value.oneCell'])
 refine GL.u 6 r29 [(0, .slice A ((y0 :: y1 :: t).length) c), (2, pt p3 0), (6, pt p24 0)] ?_
 refine GL.q hK18 ?_
 refine G.sr fun K31 hK32 => ?_
 refine GL.s 1 (H30.ldA (o := 0) (ty := 43) (m := 22) (sub := [li 2, lb 0, lb 0, lb 0, lb 0, lb 0, lb 0, lb 0, lb 0, lb 0, lb 0, lb 0, lb 0, lb 0, lb 0, lb 0, lb 0, lb 0, lb 0, lb 0, lb 0, .slice A19 t.length c20]) 2 rfl (by kernel_rfl) rfl rfl) [(0, .slice A ((y0 :: y1 :: t).length) c), (2, pt p3 0), (6, pt p24 0), (38, .agg #[li 2, lb 0, lb 0, lb 0, lb 0, lb 0, lb 0, lb 0, lb 0, lb 0, lb 0, lb 0, lb 0, lb 0, lb 0, lb 0, lb 0, lb 0, lb 0, lb 0, lb 0, .slice A19 t.length c20])] ?_
 refine GL.call (j := 2) (Bytes_long (0 : UInt8) (0 : UInt8) (0 : UInt8) (0 : UInt8) (0 : UInt8) (0 : UInt8) (0 : UInt8) (0 : UInt8) (0 : UInt8) (0 : UInt8) (0 : UInt8) (0 : UInt8) (0 : UInt8) (0 : UInt8) (0 : UInt8) (0 : UInt8) (0 : UInt8) (0 : UInt8) (0 : UInt8) (0 : UInt8) A19 t.length c20 w28 (by omega)) (by kernel_rfl) rfl (fun e_ w37 hR => ?_)
 obtain ⟨rfl, H36⟩ := hR
 have H35 : Hp w [] [.blk p3 [li 0, lb 0, lb 0, lb 0, lb 0, lb 0, lb 0, lb 0, lb 0, lb 0, lb 0, lb 0, lb 0, lb 0, lb 0, lb 0, lb 0, lb 0, lb 0, lb 0, lb 0, .slice none 0 0] 43, .row A19 t.length c20 5 1 (by8 t), .blk p24 [li 2, lb 0, lb 0, lb 0, lb 0, lb 0, lb 0, lb 0, lb 0, lb 0, lb 0, lb 0, lb 0, lb 0, lb 0, lb 0, lb 0, lb 0, lb 0, lb 0, lb 0, .slice A19 t.length c20] 43] w37 := H30.callNil H36
 refine ⟨_, rfl, [0, 2, 6, 39], [(0, .slice A ((y0 :: y1 :: t).length) c), (2, pt p3 0), (6, pt p24 0), (39, .tuple #[.slice none 0 0, li 3])], by kernel_rfl, ?_⟩
 refine GL.r 7 5 [(0, .slice A ((y0 :: y1 :: t).length) c), (2, pt p3 0), (6, pt p24 0), (7, .slice none 0 0), (8, li 3)] ?_
 refine GL.q hK32 ?_
 refine G.sr fun K38 hK39 => ?_
 refine GL.r 7 7 [(2, pt p3 0), (6, pt p24 0), (48, .bool false)] ?_
 refine GL.q hK39 ?_
 refine G.no rfl ?_
 refine G.skipK hK13 (fun _ _ h => h) ?_
 refine G.sr fun K40 hK41 => ?_
 refine GL.r 1 1 [(2, pt p3 0), (50, .agg #[li 0, lb 0, lb 0, lb 0, lb 0, lb 0, lb 0, lb 0, lb 0, lb 0, lb 0, lb 0, lb 0, lb 0, lb 0, lb 0, lb 0, lb 0, lb 0, lb 0, lb 0, .slice none 0 0])] ?_
 obtain ⟨w42, r43, H44⟩ := H35.stA (P := Try.prog) (o := 0) (vs := [li 0, lb 0, lb 0, lb 0, lb 0, lb 0, lb 0, lb 0, lb 0, lb 0, lb 0, lb 0, lb 0, lb 0, lb 0, lb 0, lb 0, lb 0, lb 0, lb 0, lb 0, .slice none 0 0]) (ty := 43) (m := 22) 0 rfl (by kernel_rfl) rfl (by simp) (by simp [Value.oneCell'])
 refine GL.u 2 r43 [(2, pt p3 0)] ?_
 refine GL.q hK41 ?_
 refine G.ret fun F_ hF_ hM_ => hRet _ _ (bodyPost_1 rfl (RV.cell rfl (H44.ldA (o := 0) (ty := 43) (m := 22) (sub := [li 0, lb 0, lb 0, lb 0, lb 0, lb 0, lb 0, lb 0, lb 0, lb 0, lb 0, lb 0, lb 0, lb 0, lb 0, lb 0, lb 0, lb 0, lb 0, lb 0, lb 0, .slice none 0 0]) 0 rfl (by kernel_rfl) rfl rfl)) ?_ F_ hF_ hM_)
 exact ⟨rfl, H44.sub (List.nil_sublist _)⟩
theorem Parse_no25 (x0 x1 x2 x3 x4 x5 x6 x7 x8 x9 x10 x11 x12 x13 x14 x15 x16 x17 x18 x19 x20 x21 x22 x23 x24 : UInt8) (A : Option Addr) (c : Nat) (w : World) (hr : RdS w A (by8 ([x0, x1, x2, x3, x4, x5, x6, x7, x8, x9, x10, x11, x12, x13, x14, x15, x16, x17, x18, x19, x20, x21, x22, x23, x24] : List UInt8))) (hc : 25 ≤ c) (hna : ([118, 169, 20, x3, x4, x5, x6, x7, x8, x9, x10, x11, x12, x13, x14, x15, x16, x17, x18, x19, x20, x21, x22, 136, 172] : List UInt8) ≠ ([x0, x1, x2, x3, x4, x5, x6, x7, x8, x9, x10, x11, x12, x13, x14, x15, x16, x17, x18, x19, x20, x21, x22, x23, x24] : List UInt8)) (hnt : (106 :: UInt8.ofNat (([x2, x3, x4, x5, x6, x7, x8, x9, x10, x11, x12, x13, x14, x15, x16, x17, x18, x19, x20, x21, x22, x23, x24] : List UInt8)).length :: ([x2, x3, x4, x5, x6, x7, x8, x9, x10, x11, x12, x13, x14, x15, x16, x17, x18, x19, x20, x21, x22, x23, x24] : List UInt8)) ≠ ([x0, x1, x2, x3, x4, x5, x6, x7, x8, x9, x10, x11, x12, x13, x14, x15, x16, x17, x18, x19, x20, x21, x22, x23, x24] : List UInt8)) : Calls Try.prog 11 #[.slice A 25 c] w fun e w' => e = .returned (.agg #[.int .i64 0, .int .u8 0, .int .u8 0, .int .u8 0, .int .u8 0, .int .u8 0, .int .u8 0, .int .u8 0, .int .u8 0, .int .u8 0, .int .u8 0, .int .u8 0, .int .u8 0, .int .u8 0, .int .u8 0, .int .u8 0, .int .u8 0, .int .u8 0, .int .u8 0, .int .u8 0, .int .u8 0, .slice none 0 0]) ∧ Hp w [] [] w' := by
 refine calls_G (args := [.slice A 25 c]) Try.func11 rfl Try.ntmps11 rfl ?_
 intro Q0 hRet hNor hPan
 have H := Hp.start w
 refine G.sr fun K1 hK2 => ?_
 obtain ⟨p3, w4, r5, H6⟩ := H.alloc (P := Try.prog) 43 [li 0, lb 0, lb 0, lb 0, lb 0, lb 0, lb 0, lb 0, lb 0, lb 0, lb 0, lb 0, lb 0, lb 0, lb 0, lb 0, lb 0, lb 0, lb 0, lb 0, lb 0, .slice none 0 0] (by kernel_rfl)
 refine GL.s 1 (r5) [(0, .slice A 25 c), (2, pt p3 0)] ?_
 refine GL.q hK2 ?_
 refine G.seqK fun K7 hK8 => ?_
 refine G.sr fun K9 hK10 => ?_
 refine GL.r 3 3 [(0, .slice A 25 c), (2, pt p3 0), (11, .bool true)] ?_
 refine GL.q hK10 ?_
 refine G.yes rfl ?_
 refine G.sr fun K11 hK12 => ?_
 refine GL.r 1 1 [(0, .slice A 25 c), (2, pt p3 0), (12, .slice A 25 c)] ?_
 refine GL.s 2 (run_sliceSl (P := Try.prog) (lo := some (li 3)) (hi := some (li 23)) (t := 38) (len := 25) (cap := c) (A := A) (l := 3) (h := 23) (by kernel_rfl) (Or.inr ⟨_, _, rfl, rfl⟩) (Or.inr ⟨_, _, rfl, rfl⟩) (by omega) (by omega)) [(0, .slice A 25 c), (2, pt p3 0), (13, .slice (if c = 3 then A else Option.map (fun x => Addr.add x 3) A) 20 (c - 3))] ?_
 refine GL.s 3 (run_s2a (P := Try.prog) (t := 28) (len := 20) (cap := (c - 3)) (n := 20) (A := (if c = 3 then A else Option.map (fun x => Addr.add x 3) A)) (by kernel_rfl) (by omega)) [(0, .slice A 25 c), (2, pt p3 0), (14, .pointer (if c = 3 then A else Option.map (fun x => Addr.add x 3) A))] ?_
 refine GL.s 4 (run_ldArr (P := Try.prog) (ty := 28) (m := 20) (A := (if c = 3 then A else Option.map (fun x => Addr.add x 3) A)) (xs := by8 ([x3, x4, x5, x6, x7, x8, x9, x10, x11, x12, x13, x14, x15, x16, x17, x18, x19, x20, x21, x22] : List UInt8)) (by kernel_rfl) (RdS.cut8 (cap := c) (hr.hp H6) 3 23 (cs := ([x3, x4, x5, x6, x7, x8, x9, x10, x11, x12, x13, x14, x15, x16, x17, x18, x19, x20, x21, x22] : List UInt8)) (by first | rfl | omega | (simp only [List.length_cons, List.length_nil, List.length_drop, List.length_take, List.length_append] <;> omega)) rfl) rfl (by decide)) [(0, .slice A 25 c), (2, pt p3 0), (15, .agg #[lb (x3.toNat : Int), lb (x4.toNat : Int), lb (x5.toNat : Int), lb (x6.toNat : Int), lb (x7.toNat : Int), lb (x8.toNat : Int), lb (x9.toNat : Int), lb (x10.toNat : Int), lb (x11.toNat : Int), lb (x12.toNat : Int), lb (x13.toNat : Int), lb (x14.toNat : Int), lb (x15.toNat : Int), lb (x16.toNat : Int), lb (x17.toNat : Int), lb (x18.toNat : Int), lb (x19.toNat : Int), lb (x20.toNat : Int), lb (x21.toNat : Int), lb (x22.toNat : Int)])] ?_
 refine GL.r 5 1 [(0, .slice A 25 c), (2, pt p3 0), (16, .agg #[li 1, lb (x3.toNat : Int), lb (x4.toNat : Int), lb (x5.toNat : Int), lb (x6.toNat : Int), lb (x7.toNat : Int), lb (x8.toNat : Int), lb (x9.toNat : Int), lb (x10.toNat : Int), lb (x11.toNat : Int), lb (x12.toNat : Int), lb (x13.toNat : Int), lb (x14.toNat : Int), lb (x15.toNat : Int), lb (x16.toNat : Int), lb (x17.toNat : Int), lb (x18.toNat : Int), lb (x19.toNat : Int), lb (x20.toNat : Int), lb (x21.toNat : Int), lb (x22.toNat : Int), .slice none 0 0])] ?_
 obtain ⟨p13, w14, r15, H16⟩ := H6.alloc (P := Try.prog) 43 [li 0, lb 0, lb 0, lb 0, lb 0, lb 0, lb 0, lb 0, lb 0, lb 0, lb 0, lb 0, lb 0, lb 0, lb 0, lb 0, lb 0, lb 0, lb 0, lb 0, lb 0, .slice none 0 0] (by kernel_rfl)
 refine GL.s 6 (r15) [(0, .slice A 25 c), (2, pt p3 0), (3, pt p13 0), (16, .agg #[li 1, lb (x3.toNat : Int), lb (x4.toNat : Int), lb (x5.toNat : Int), lb (x6.toNat : Int), lb (x7.toNat : Int), lb (x8.toNat : Int), lb (x9.toNat : Int), lb (x10.toNat : Int), lb (x11.toNat : Int), lb (x12.toNat : Int), lb (x13.toNat : Int), lb (x14.toNat : Int), lb (x15.toNat : Int), lb (x16.toNat : Int), lb (x17.toNat : Int), lb (x18.toNat : Int), lb (x19.toNat : Int), lb (x20.toNat : Int), lb (x21.toNat : Int), lb (x22.toNat : Int), .slice none 0 0])] ?_
 obtain ⟨w17, r18, H19⟩ := H16.stA (P := Try.prog) (o := 0) (vs := [li 1, lb (x3.toNat : Int), lb (x4.toNat : Int), lb (x5.toNat : Int), lb (x6.toNat : Int), lb (x7.toNat : Int), lb (x8.toNat : Int), lb (x9.toNat : Int), lb (x10.toNat : Int), lb (x11.toNat : Int), lb (x12.toNat : Int), lb (x13.toNat : Int), lb (x14.toNat : Int), lb (x15.toNat : Int), lb (x16.toNat : Int), lb (x17.toNat : Int), lb (x18.toNat : Int), lb (x19.toNat : Int), lb (x20.toNat : Int), lb (x21.toNat : Int), lb (x22.toNat : Int), .slice none 0 0]) (ty := 43) (m := 22) 1 rfl (by kernel_rfl) rfl (by simp) (by simp [Value.oneCell'])
 refine GL.u 7 r18 [(0, .slice A 25 c), (2, pt p3 0), (3, pt p13 0)] ?_
 refine GL.q hK12 ?_
 refine G.sr fun K20 hK21 => ?_
 refine GL.s 1 (H19.ldA (o := 0) (ty := 43) (m := 22) (sub := [li 1, lb (x3.toNat : Int), lb (x4.toNat : Int), lb (x5.toNat : Int), lb (x6.toNat : Int), lb (x7.toNat : Int), lb (x8.toNat : Int), lb (x9.toNat : Int), lb (x10.toNat : Int), lb (x11.toNat : Int), lb (x12.toNat : Int), lb (x13.toNat : Int), lb (x14.toNat : Int), lb (x15.toNat : Int), lb (x16.toNat : Int), lb (x17.toNat : Int), lb (x18.toNat : Int), lb (x19.toNat : Int), lb (x20.toNat : Int), lb (x21.toNat : Int), lb (x22.toNat : Int), .slice none 0 0]) 1 rfl (by kernel_rfl) rfl rfl) [(0, .slice A 25 c), (2, pt p3 0), (3, pt p13 0), (18, .agg #[li 1, lb (x3.toNat : Int), lb (x4.toNat : Int), lb (x5.toNat : Int), lb (x6.toNat : Int), lb (x7.toNat : Int), lb (x8.toNat : Int), lb (x9.toNat : Int), lb (x10.toNat : Int), lb (x11.toNat : Int), lb (x12.toNat : Int), lb (x13.toNat : Int), lb (x14.toNat : Int), lb (x15.toNat : Int), lb (x16.toNat : Int), lb (x17.toNat : Int), lb (x18.toNat : Int), lb (x19.toNat : Int), lb (x20.toNat : Int), lb (x21.toNat : Int), lb (x22.toNat : Int), .slice none 0 0])] ?_
 refine GL.call (j := 2) (Bytes_addr x3 x4 x5 x6 x7 x8 x9 x10 x11 x12 x13 x14 x15 x16 x17 x18 x19 x20 x21 x22 none 0 0 w17) (by kernel_rfl) rfl (fun e_ w26 hR => ?_)
 obtain ⟨A22, c23, rfl, H25⟩ := hR
 have H24 : Hp w [] [.blk p3 [li 0, lb 0, lb 0, lb 0, lb 0, lb 0, lb 0, lb 0, lb 0, lb 0, lb 0, lb 0, lb 0, lb 0, lb 0, lb 0, lb 0, lb 0, lb 0, lb 0, lb 0, .slice none 0 0] 43, .blk p13 [li 1, lb (x3.toNat : Int), lb (x4.toNat : Int), lb (x5.toNat : Int), lb (x6.toNat : Int), lb (x7.toNat : Int), lb (x8.toNat : Int), lb (x9.toNat : Int), lb (x10.toNat : Int), lb (x11.toNat : Int), lb (x12.toNat : Int), lb (x13.toNat : Int), lb (x14.toNat : Int), lb (x15.toNat : Int), lb (x16.toNat : Int), lb (x17.toNat : Int), lb (x18.toNat : Int), lb (x19.toNat : Int), lb (x20.toNat : Int), lb (x21.toNat : Int), lb (x22.toNat : Int), .slice none 0 0] 43, .row A22 (([118, 169, 20, x3, x4, x5, x6, x7, x8, x9, x10, x11, x12, x13, x14, x15, x16, x17, x18, x19, x20, x21, x22, 136, 172] : List UInt8).length) c23 5 1 (by8 ([118, 169, 20, x3, x4, x5, x6, x7, x8, x9, x10, x11, x12, x13, x14, x15, x16, x17, x18, x19, x20, x21, x22, 136, 172] : List UInt8))] w26 := H19.callNew H25
 refine ⟨_, rfl, [0, 2, 3, 19], [(0, .slice A 25 c), (2, pt p3 0), (3, pt p13 0), (19, .tuple #[.slice A22 (([118, 169, 20, x3, x4, x5, x6, x7, x8, x9, x10, x11, x12, x13, x14, x15, x16, x17, x18, x19, x20, x21, x22, 136, 172] : List UInt8).length) c23, li 0])], by kernel_rfl, ?_⟩
 refine GL.r 7 5 [(0, .slice A 25 c), (2, pt p3 0), (3, pt p13 0), (4, .slice A22 (([118, 169, 20, x3, x4, x5, x6, x7, x8, x9, x10, x11, x12, x13, x14, x15, x16, x17, x18, x19, x20, x21, x22, 136, 172] : List UInt8).length) c23), (5, li 0)] ?_
 refine GL.q hK21 ?_
 refine G.sr fun K27 hK28 => ?_
 refine GL.r 5 5 [(0, .slice A 25 c), (2, pt p3 0), (3, pt p13 0), (24, .bool true), (25, .slice A22 (([118, 169, 20, x3, x4, x5, x6, x7, x8, x9, x10, x11, x12, x13, x14, x15, x16, x17, x18, x19, x20, x21, x22, 136, 172] : List UInt8).length) c23), (26, .slice A 25 c)] ?_
 refine GL.call (j := 6) (Equal_calls ([118, 169, 20, x3, x4, x5, x6, x7, x8, x9, x10, x11, x12, x13, x14, x15, x16, x17, x18, x19, x20, x21, x22, 136, 172] : List UInt8) ([x0, x1, x2, x3, x4, x5, x6, x7, x8, x9, x10, x11, x12, x13, x14, x15, x16, x17, x18, x19, x20, x21, x22, x23, x24] : List UInt8) A22 A c23 c w26 (H24.rdRow 2 rfl) (hr.hp H24)) (by kernel_rfl) rfl (fun e_ w29 hR => ?_)
 obtain ⟨rfl, H31⟩ := hR
 have H30 : Hp w [] [.blk p3 [li 0, lb 0, lb 0, lb 0, lb 0, lb 0, lb 0, lb 0, lb 0, lb 0, lb 0, lb 0, lb 0, lb 0, lb 0, lb 0, lb 0, lb 0, lb 0, lb 0, lb 0, .slice none 0 0] 43, .blk p13 [li 1, lb (x3.toNat : Int), lb (x4.toNat : Int), lb (x5.toNat : Int), lb (x6.toNat : Int), lb (x7.toNat : Int), lb (x8.toNat : Int), lb (x9.toNat : Int), lb (x10.toNat : Int), lb (x11.toNat : Int), lb (x12.toNat : Int), lb (x13.toNat : Int), lb (x14.toNat : Int), lb (x15.toNat : Int), lb (x16.toNat : Int), lb (x17.toNat : Int), lb (x18.toNat : Int), lb (x19.toNat : Int), lb (x20.toNat : Int), lb (x21.toNat : Int), lb (x22.toNat : Int), .slice none 0 0] 43, .row A22 (([118, 169, 20, x3, x4, x5, x6, x7, x8, x9, x10, x11, x12, x13, x14, x15, x16, x17, x18, x19, x20, x21, x22, 136, 172] : List UInt8).length) c23 5 1 (by8 ([118, 169, 20, x3, x4, x5, x6, x7, x8, x9, x10, x11, x12, x13, x14, x15, x16, x17, x18, x19, x20, x21, x22, 136, 172] : List UInt8))] w29 := H24.callNil H31
 refine ⟨_, rfl, [0, 2, 3, 24, 27], [(0, .slice A 25 c), (2, pt p3 0), (3, pt p13 0), (24, .bool true), (27, .bool (([118, 169, 20, x3, x4, x5, x6, x7, x8, x9, x10, x11, x12, x13, x14, x15, x16, x17, x18, x19, x20, x21, x22, 136, 172] : List UInt8) == ([x0, x1, x2, x3, x4, x5, x6, x7, x8, x9, x10, x11, x12, x13, x14, x15, x16, x17, x18, x19, x20, x21, x22, x23, x24] : List UInt8)))], by kernel_rfl, ?_⟩
 refine GL.r 7 1 [(0, .slice A 25 c), (2, pt p3 0), (3, pt p13 0), (28, .bool (([118, 169, 20, x3, x4, x5, x6, x7, x8, x9, x10, x11, x12, x13, x14, x15, x16, x17, x18, x19, x20, x21, x22, 136, 172] : List UInt8) == ([x0, x1, x2, x3, x4, x5, x6, x7, x8, x9, x10, x11, x12, x13, x14, x15, x16, x17, x18, x19, x20, x21, x22, x23, x24] : List UInt8)))] ?_
 refine GL.q hK28 ?_
 have hb32 : (([118, 169, 20, x3, x4, x5, x6, x7, x8, x9, x10, x11, x12, x13, x14, x15, x16, x17, x18, x19, x20, x21, x22, 136, 172] : List UInt8) == ([x0, x1, x2, x3, x4, x5, x6, x7, x8, x9, x10, x11, x12, x13, x14, x15, x16, x17, x18, x19, x20, x21, x22, x23, x24] : List UInt8)) = false := beq_eq_false_iff_ne.2 hna
 rw [hb32]
 refine G.no rfl ?_
 refine G.skipK hK8 (fun _ _ h => h) ?_
 refine G.seqK fun K33 hK34 => ?_
 refine G.sr fun K35 hK36 => ?_
 refine GL.r 3 3 [(0, .slice A 25 c), (2, pt p3 0), (32, .bool true)] ?_
 refine GL.q hK36 ?_
 refine G.yes rfl ?_
 refine G.sr fun K37 hK38 => ?_
 refine GL.r 1 1 [(0, .slice A 25 c), (2, pt p3 0), (33, .slice A 25 c)] ?_
 refine GL.s 2 (run_sliceSl (P := Try.prog) (lo := some (li 2)) (hi := none) (t := 38) (len := 25) (cap := c) (A := A) (l := 2) (h := 25) (by kernel_rfl) (Or.inr ⟨_, _, rfl, rfl⟩) (Or.inl ⟨rfl, rfl⟩) (by omega) (by omega)) [(0, .slice A 25 c), (2, pt p3 0), (34, .slice (if c = 2 then A else Option.map (fun x => Addr.add x 2) A) 23 (c - 2))] ?_
 refine GL.call (j := 3) (SClone_calls ([x2, x3, x4, x5, x6, x7, x8, x9, x10, x11, x12, x13, x14, x15, x16, x17, x18, x19, x20, x21, x22, x23, x24] : List UInt8) (if c = 2 then A else Option.map (fun x => Addr.add x 2) A) (c - 2) w29 (RdS.drop8 (cap := c) (hr.hp H30) 2 (cs := ([x2, x3, x4, x5, x6, x7, x8, x9, x10, x11, x12, x13, x14, x15, x16, x17, x18, x19, x20, x21, x22, x23, x24] : List UInt8)) (by first | rfl | omega | (simp only [List.length_cons, List.length_nil, List.length_drop, List.length_take, List.length_append] <;> omega)) rfl) (isNone_drop hr (by first | rfl | omega | (simp only [List.length_cons, List.length_nil, List.length_drop, List.length_take, List.length_append] <;> omega)) (by first | rfl | omega | (simp only [List.length_cons, List.length_nil, List.length_drop, List.length_take, List.length_append] <;> omega))) (by first | rfl | omega | (simp only [List.length_cons, List.length_nil, List.length_drop, List.length_take, List.length_append] <;> omega))) (by kernel_rfl) rfl (fun e_ w43 hR => ?_)
 obtain ⟨A39, c40, rfl, H42⟩ := hR
 have H41 : Hp w [] [.blk p3 [li 0, lb 0, lb 0, lb 0, lb 0, lb 0, lb 0, lb 0, lb 0, lb 0, lb 0, lb 0, lb 0, lb 0, lb 0, lb 0, lb 0, lb 0, lb 0, lb 0, lb 0, .slice none 0 0] 43, .blk p13 [li 1, lb (x3.toNat : Int), lb (x4.toNat : Int), lb (x5.toNat : Int), lb (x6.toNat : Int), lb (x7.toNat : Int), lb (x8.toNat : Int), lb (x9.toNat : Int), lb (x10.toNat : Int), lb (x11.toNat : Int), lb (x12.toNat : Int), lb (x13.toNat : Int), lb (x14.toNat : Int), lb (x15.toNat : Int), lb (x16.toNat : Int), lb (x17.toNat : Int), lb (x18.toNat : Int), lb (x19.toNat : Int), lb (x20.toNat : Int), lb (x21.toNat : Int), lb (x22.toNat : Int), .slice none 0 0] 43, .row A22 (([118, 169, 20, x3, x4, x5, x6, x7, x8, x9, x10, x11, x12, x13, x14, x15, x16, x17, x18, x19, x20, x21, x22, 136, 172] : List UInt8).length) c23 5 1 (by8 ([118, 169, 20, x3, x4, x5, x6, x7, x8, x9, x10, x11, x12, x13, x14, x15, x16, x17, x18, x19, x20, x21, x22, 136, 172] : List UInt8)), .row A39 23 c40 5 1 (by8 ([x2, x3, x4, x5, x6, x7, x8, x9, x10, x11, x12, x13, x14, x15, x16, x17, x18, x19, x20, x21, x22, x23, x24] : List UInt8))] w43 := H30.callNew H42
 refine ⟨_, rfl, [0, 2, 35], [(0, .slice A 25 c), (2, pt p3 0), (35, .slice A39 23 c40)], by kernel_rfl, ?_⟩
 refine GL.r 4 1 [(0, .slice A 25 c), (2, pt p3 0), (36, .agg #[li 2, lb 0, lb 0, lb 0, lb 0, lb 0, lb 0, lb 0, lb 0, lb 0, lb 0, lb 0, lb 0, lb 0, lb 0, lb 0, lb 0, lb 0, lb 0, lb 0, lb 0, .slice A39 23 c40])] ?_
 obtain ⟨p44, w45, r46, H47⟩ := H41.alloc (P := Try.prog) 43 [li 0, lb 0, lb 0, lb 0, lb 0, lb 0, lb 0, lb 0, lb 0, lb 0, lb 0, lb 0, lb 0, lb 0, lb 0, lb 0, lb 0, lb 0, lb 0, lb 0, lb 0, .slice none 0 0] (by kernel_rfl)
 refine GL.s 5 (r46) [(0, .slice A 25 c), (2, pt p3 0), (6, pt p44 0), (36, .agg #[li 2, lb 0, lb 0, lb 0, lb 0, lb 0, lb 0, lb 0, lb 0, lb 0, lb 0, lb 0, lb 0, lb 0, lb 0, lb 0, lb 0, lb 0, lb 0, lb 0, lb 0, .slice A39 23 c40])] ?_
 obtain ⟨w48, r49, H50⟩ := H47.stA (P := Try.prog) (o := 0) (vs := [li 2, lb 0, lb 0, lb 0, lb 0, lb 0, lb 0, lb 0, lb 0, lb 0, lb 0, lb 0, lb 0, lb 0, lb 0, lb 0, lb 0, lb 0, lb 0, lb 0, lb 0, .slice A39 23 c40]) (ty := 43) (m := 22) 4 rfl (by kernel_rfl) rfl (by simp) (by simp [Value.oneCell'])
 refine GL.u 6 r49 [(0, .slice A 25 c), (2, pt p3 0), (6, pt p44 0)] ?_
 refine GL.q hK38 ?_
 refine G.sr fun K51 hK52 => ?_
 refine GL.s 1 (H50.ldA (o := 0) (ty := 43) (m := 22) (sub := [li 2, lb 0, lb 0, lb 0, lb 0, lb 0, lb 0, lb 0, lb 0, lb 0, lb 0, lb 0, lb 0, lb 0, lb 0, lb 0, lb 0, lb 0, lb 0, lb 0, lb 0, .slice A39 23 c40]) 4 rfl (by kernel_rfl) rfl rfl) [(0, .slice A 25 c), (2, pt p3 0), (6, pt p44 0), (38, .agg #[li 2, lb 0, lb 0, lb 0, lb 0, lb 0, lb 0, lb 0, lb 0, lb 0, lb 0, lb 0, lb 0, lb 0, lb 0, lb 0, lb 0, lb 0, lb 0, lb 0, lb 0, .slice A39 23 c40])] ?_
 refine GL.call (j := 2) (Bytes_tag (0 : UInt8) (0 : UInt8) (0 : UInt8) (0 : UInt8) (0 : UInt8) (0 : UInt8) (0 : UInt8) (0 : UInt8) (0 : UInt8) (0 : UInt8) (0 : UInt8) (0 : UInt8) (0 : UInt8) (0 : UInt8) (0 : UInt8) (0 : UInt8) (0 : UInt8) (0 : UInt8) (0 : UInt8) (0 : UInt8) ([x2, x3, x4, x5, x6, x7, x8, x9, x10, x11, x12, x13, x14, x15, x16, x17, x18, x19, x20, x21, x22, x23, x24] : List UInt8) A39 c40 w48 (H50.rdRow 3 rfl) (by simp) (by simp)) (by kernel_rfl) rfl (fun e_ w57 hR => ?_)
 obtain ⟨A53, c54, rfl, H56⟩ := hR
 have H55 : Hp w [] [.blk p3 [li 0, lb 0, lb 0, lb 0, lb 0, lb 0, lb 0, lb 0, lb 0, lb 0, lb 0, lb 0, lb 0, lb 0, lb 0, lb 0, lb 0, lb 0, lb 0, lb 0, lb 0, .slice none 0 0] 43, .blk p13 [li 1, lb (x3.toNat : Int), lb (x4.toNat : Int), lb (x5.toNat : Int), lb (x6.toNat : Int), lb (x7.toNat : Int), lb (x8.toNat : Int), lb (x9.toNat : Int), lb (x10.toNat : Int), lb (x11.toNat : Int), lb (x12.toNat : Int), lb (x13.toNat : Int), lb (x14.toNat : Int), lb (x15.toNat : Int), lb (x16.toNat : Int), lb (x17.toNat : Int), lb (x18.toNat : Int), lb (x19.toNat : Int), lb (x20.toNat : Int), lb (x21.toNat : Int), lb (x22.toNat : Int), .slice none 0 0] 43, .row A22 (([118, 169, 20, x3, x4, x5, x6, x7, x8, x9, x10, x11, x12, x13, x14, x15, x16, x17, x18, x19, x20, x21, x22, 136, 172] : List UInt8).length) c23 5 1 (by8 ([118, 169, 20, x3, x4, x5, x6, x7, x8, x9, x10, x11, x12, x13, x14, x15, x16, x17, x18, x19, x20, x21, x22, 136, 172] : List UInt8)), .row A39 23 c40 5 1 (by8 ([x2, x3, x4, x5, x6, x7, x8, x9, x10, x11, x12, x13, x14, x15, x16, x17, x18, x19, x20, x21, x22, x23, x24] : List UInt8)), .blk p44 [li 2, lb 0, lb 0, lb 0, lb 0, lb 0, lb 0, lb 0, lb 0, lb 0, lb 0, lb 0, lb 0, lb 0, lb 0, lb 0, lb 0, lb 0, lb 0, lb 0, lb 0, .slice A39 23 c40] 43, .row A53 ((106 :: UInt8.ofNat ([x2, x3, x4, x5, x6, x7, x8, x9, x10, x11, x12, x13, x14, x15, x16, x17, x18, x19, x20, x21, x22, x23, x24] : List UInt8).length :: ([x2, x3, x4, x5, x6, x7, x8, x9, x10, x11, x12, x13, x14, x15, x16, x17, x18, x19, x20, x21, x22, x23, x24] : List UInt8)).length) c54 5 1 (by8 (106 :: UInt8.ofNat ([x2, x3, x4, x5, x6, x7, x8, x9, x10, x11, x12, x13, x14, x15, x16, x17, x18, x19, x20, x21, x22, x23, x24] : List UInt8).length :: ([x2, x3, x4, x5, x6, x7, x8, x9, x10, x11, x12, x13, x14, x15, x16, x17, x18, x19, x20, x21, x22, x23, x24] : List UInt8)))] w57 := H50.callNew H56
 refine ⟨_, rfl, [0, 2, 6, 39], [(0, .slice A 25 c), (2, pt p3 0), (6, pt p44 0), (39, .tuple #[.slice A53 ((106 :: UInt8.ofNat ([x2, x3, x4, x5, x6, x7, x8, x9, x10, x11, x12, x13, x14, x15, x16, x17, x18, x19, x20, x21, x22, x23, x24] : List UInt8).length :: ([x2, x3, x4, x5, x6, x7, x8, x9, x10, x11, x12, x13, x14, x15, x16, x17, x18, x19, x20, x21, x22, x23, x24] : List UInt8)).length) c54, li 0])], by kernel_rfl, ?_⟩
 refine GL.r 7 5 [(0, .slice A 25 c), (2, pt p3 0), (6, pt p44 0), (7, .slice A53 ((106 :: UInt8.ofNat ([x2, x3, x4, x5, x6, x7, x8, x9, x10, x11, x12, x13, x14, x15, x16, x17, x18, x19, x20, x21, x22, x23, x24] : List UInt8).length :: ([x2, x3, x4, x5, x6, x7, x8, x9, x10, x11, x12, x13, x14, x15, x16, x17, x18, x19, x20, x21, x22, x23, x24] : List UInt8)).length) c54), (8, li 0)] ?_
 refine GL.q hK52 ?_
 refine G.sr fun K58 hK59 => ?_
 refine GL.r 5 5 [(2, pt p3 0), (6, pt p44 0), (44, .bool true), (45, .slice A53 ((106 :: UInt8.ofNat ([x2, x3, x4, x5, x6, x7, x8, x9, x10, x11, x12, x13, x14, x15, x16, x17, x18, x19, x20, x21, x22, x23, x24] : List UInt8).length :: ([x2, x3, x4, x5, x6, x7, x8, x9, x10, x11, x12, x13, x14, x15, x16, x17, x18, x19, x20, x21, x22, x23, x24] : List UInt8)).length) c54), (46, .slice A 25 c)] ?_
 refine GL.call (j := 6) (Equal_calls (106 :: UInt8.ofNat ([x2, x3, x4, x5, x6, x7, x8, x9, x10, x11, x12, x13, x14, x15, x16, x17, x18, x19, x20, x21, x22, x23, x24] : List UInt8).length :: ([x2, x3, x4, x5, x6, x7, x8, x9, x10, x11, x12, x13, x14, x15, x16, x17, x18, x19, x20, x21, x22, x23, x24] : List UInt8)) ([x0, x1, x2, x3, x4, x5, x6, x7, x8, x9, x10, x11, x12, x13, x14, x15, x16, x17, x18, x19, x20, x21, x22, x23, x24] : List UInt8) A53 A c54 c w57 (H55.rdRow 5 rfl) (hr.hp H55)) (by kernel_rfl) rfl (fun e_ w60 hR => ?_)
 obtain ⟨rfl, H62⟩ := hR
 have H61 : Hp w [] [.blk p3 [li 0, lb 0, lb 0, lb 0, lb 0, lb 0, lb 0, lb 0, lb 0, lb 0, lb 0, lb 0, lb 0, lb 0, lb 0, lb 0, lb 0, lb 0, lb 0, lb 0, lb 0, .slice none 0 0] 43, .blk p13 [li 1, lb (x3.toNat : Int), lb (x4.toNat : Int), lb (x5.toNat : Int), lb (x6.toNat : Int), lb (x7.toNat : Int), lb (x8.toNat : Int), lb (x9.toNat : Int), lb (x10.toNat : Int), lb (x11.toNat : Int), lb (x12.toNat : Int), lb (x13.toNat : Int), lb (x14.toNat : Int), lb (x15.toNat : Int), lb (x16.toNat : Int), lb (x17.toNat : Int), lb (x18.toNat : Int), lb (x19.toNat : Int), lb (x20.toNat : Int), lb (x21.toNat : Int), lb (x22.toNat : Int), .slice none 0 0] 43, .row A22 (([118, 169, 20, x3, x4, x5, x6, x7, x8, x9, x10, x11, x12, x13, x14, x15, x16, x17, x18, x19, x20, x21, x22, 136, 172] : List UInt8).length) c23 5 1 (by8 ([118, 169, 20, x3, x4, x5, x6, x7, x8, x9, x10, x11, x12, x13, x14, x15, x16, x17, x18, x19, x20, x21, x22, 136, 172] : List UInt8)), .row A39 23 c40 5 1 (by8 ([x2, x3, x4, x5, x6, x7, x8, x9, x10, x11, x12, x13, x14, x15, x16, x17, x18, x19, x20, x21, x22, x23, x24] : List UInt8)), .blk p44 [li 2, lb 0, lb 0, lb 0, lb 0, lb 0, lb 0, lb 0, lb 0, lb 0, lb 0, lb 0, lb 0, lb 0, lb 0, lb 0, lb 0, lb 0, lb 0, lb 0, lb 0, .slice A39 23 c40] 43, .row A53 ((106 :: UInt8.ofNat ([x2, x3, x4, x5, x6, x7, x8, x9, x10, x11, x12, x13, x14, x15, x16, x17, x18, x19, x20, x21, x22, x23, x24] : List UInt8).length :: ([x2, x3, x4, x5, x6, x7, x8, x9, x10, x11, x12, x13, x14, x15, x16, x17, x18, x19, x20, x21, x22, x23, x24] : List UInt8)).length) c54 5 1 (by8 (106 :: UInt8.ofNat ([x2, x3, x4, x5, x6, x7, x8, x9, x10, x11, x12, x13, x14, x15, x16, x17, x18, x19, x20, x21, x22, x23, x24] : List UInt8).length :: ([x2, x3, x4, x5, x6, x7, x8, x9, x10, x11, x12, x13, x14, x15, x16, x17, x18, x19, x20, x21, x22, x23, x24] : List UInt8)))] w60 := H55.callNil H62
 refine ⟨_, rfl, [2, 6, 44, 47], [(2, pt p3 0), (6, pt p44 0), (44, .bool true), (47, .bool ((106 :: UInt8.ofNat ([x2, x3, x4, x5, x6, x7, x8, x9, x10, x11, x12, x13, x14, x15, x16, x17, x18, x19, x20, x21, x22, x23, x24] : List UInt8).length :: ([x2, x3, x4, x5, x6, x7, x8, x9, x10, x11, x12, x13, x14, x15, x16, x17, x18, x19, x20, x21, x22, x23, x24] : List UInt8)) == ([x0, x1, x2, x3, x4, x5, x6, x7, x8, x9, x10, x11, x12, x13, x14, x15, x16, x17, x18, x19, x20, x21, x22, x23, x24] : List UInt8)))], by kernel_rfl, ?_⟩
 refine GL.r 7 1 [(2, pt p3 0), (6, pt p44 0), (48, .bool ((106 :: UInt8.ofNat ([x2, x3, x4, x5, x6, x7, x8, x9, x10, x11, x12, x13, x14, x15, x16, x17, x18, x19, x20, x21, x22, x23, x24] : List UInt8).length :: ([x2, x3, x4, x5, x6, x7, x8, x9, x10, x11, x12, x13, x14, x15, x16, x17, x18, x19, x20, x21, x22, x23, x24] : List UInt8)) == ([x0, x1, x2, x3, x4, x5, x6, x7, x8, x9, x10, x11, x12, x13, x14, x15, x16, x17, x18, x19, x20, x21, x22, x23, x24] : List UInt8)))] ?_
 refine GL.q hK59 ?_
 have hb63 : ((106 :: UInt8.ofNat ([x2, x3, x4, x5, x6, x7, x8, x9, x10, x11, x12, x13, x14, x15, x16, x17, x18, x19, x20, x21, x22, x23, x24] : List UInt8).length :: ([x2, x3, x4, x5, x6, x7, x8, x9, x10, x11, x12, x13, x14, x15, x16, x17, x18, x19, x20, x21, x22, x23, x24] : List UInt8)) == ([x0, x1, x2, x3, x4, x5, x6, x7, x8, x9, x10, x11, x12, x13, x14, x15, x16, x17, x18, x19, x20, x21, x22, x23, x24] : List UInt8)) = false := beq_eq_false_iff_ne.2 hnt
 rw [hb63]
 refine G.no rfl ?_
 refine G.skipK hK34 (fun _ _ h => h) ?_
 refine G.sr fun K64 hK65 => ?_
 refine GL.r 1 1 [(2, pt p3 0), (50, .agg #[li 0, lb 0, lb 0, lb 0, lb 0, lb 0, lb 0, lb 0, lb 0, lb 0, lb 0, lb 0, lb 0, lb 0, lb 0, lb 0, lb 0, lb 0, lb 0, lb 0, lb 0, .slice none 0 0])] ?_
 obtain ⟨w66, r67, H68⟩ := H61.stA (P := Try.prog) (o := 0) (vs := [li 0, lb 0, lb 0, lb 0, lb 0, lb 0, lb 0, lb 0, lb 0, lb 0, lb 0, lb 0, lb 0, lb 0, lb 0, lb 0, lb 0, lb 0, lb 0, lb 0, lb 0, .slice none 0 0]) (ty := 43) (m := 22) 0 rfl (by kernel_rfl) rfl (by simp) (by simp [Value.oneCell'])
 refine GL.u 2 r67 [(2, pt p3 0)] ?_
 refine GL.q hK65 ?_
 refine G.ret fun F_ hF_ hM_ => hRet _ _ (bodyPost_1 rfl (RV.cell rfl (H68.ldA (o := 0) (ty := 43) (m := 22) (sub := [li 0, lb 0, lb 0, lb 0, lb 0, lb 0, lb 0, lb 0, lb 0, lb 0, lb 0, lb 0, lb 0, lb 0, lb 0, lb 0, lb 0, lb 0, lb 0, lb 0, lb 0, .slice none 0 0]) 0 rfl (by kernel_rfl) rfl rfl)) ?_ F_ hF_ hM_)
 exact ⟨rfl, H68.sub (List.nil_sublist _)⟩
def addrB (f : Nat → UInt8) : List UInt8 := [118, 169, 20, f 0, f 1, f 2, f 3, f 4, f 5, f 6, f 7, f 8, f 9, f 10, f 11, f 12, f 13, f 14, f 15, f 16, f 17, f 18, f 19, 136, 172]
def tagB (t : List UInt8) : List UInt8 := 106 :: UInt8.ofNat t.length :: t
theorem lit_of (t : List UInt8) (n : Nat) (h : t.length = n) : ∃ f : Nat → UInt8, t = (List.range n).map f := by
 refine ⟨fun i => t.getD i 0, List.ext_getElem? fun i => ?_⟩
 by_cases hi : i < n
 · rw [List.getElem?_eq_getElem (by omega)]
   simp [hi, List.getD, List.getElem?_eq_getElem (show i < t.length by omega)]
 · rw [List.getElem?_eq_none (by omega), List.getElem?_eq_none (by simp; omega)]
theorem Parse_tag (t : List UInt8) (A : Option Addr) (c : Nat) (w : World) (hr : RdS w A (by8 (106 :: UInt8.ofNat t.length :: t))) (h1 : 1 ≤ t.length) (h40 : t.length ≤ 40) (hc : t.length + 2 ≤ c) :
   Calls Try.prog 11 #[.slice A (106 :: UInt8.ofNat t.length :: t).length c] w fun e w' => ∃ A c, e = .returned (.agg #[.int .i64 2, .int .u8 0, .int .u8 0, .int .u8 0, .int .u8 0, .int .u8 0, .int .u8 0, .int .u8 0, .int .u8 0, .int .u8 0, .int .u8 0, .int .u8 0, .int .u8 0, .int .u8 0, .int .u8 0, .int .u8 0, .int .u8 0, .int .u8 0, .int .u8 0, .int .u8 0, .int .u8 0, .slice A t.length c]) ∧ Hp w [] [.row A t.length c 5 1 (by8 t)] w' := by
 by_cases h23 : t.length = 23
 · obtain ⟨f, rfl⟩ := lit_of t 23 h23
   exact Parse_tag23 (f 0) (f 1) (f 2) (f 3) (f 4) (f 5) (f 6) (f 7) (f 8) (f 9) (f 10) (f 11) (f 12) (f 13) (f 14) (f 15) (f 16) (f 17) (f 18) (f 19) (f 20) (f 21) (f 22) A c w hr (by omega)
 · exact Parse_tagN t A c w hr h1 h40 h23 hc
theorem Parse_none (bs : List UInt8) (A : Option Addr) (c : Nat) (w : World) (hr : RdS w A (by8 bs)) (hc : bs.length ≤ c) (hl : bs.length ≤ 1099511627776) (hna : ∀ f, bs ≠ addrB f) (hnt : ∀ t : List UInt8, 1 ≤ t.length → t.length ≤ 40 → bs ≠ tagB t) :
   Calls Try.prog 11 #[.slice A bs.length c] w fun e w' => e = .returned (.agg #[.int .i64 0, .int .u8 0, .int .u8 0, .int .u8 0, .int .u8 0, .int .u8 0, .int .u8 0, .int .u8 0, .int .u8 0, .int .u8 0, .int .u8 0, .int .u8 0, .int .u8 0, .int .u8 0, .int .u8 0, .int .u8 0, .int .u8 0, .int .u8 0, .int .u8 0, .int .u8 0, .int .u8 0, .slice none 0 0]) ∧ Hp w [] [] w' := by
 by_cases h2 : bs.length ≤ 2
 · exact Parse_short bs A c w h2
 by_cases h25 : bs.length = 25
 · obtain ⟨f, rfl⟩ := lit_of bs 25 h25
   exact Parse_no25 (f 0) (f 1) (f 2) (f 3) (f 4) (f 5) (f 6) (f 7) (f 8) (f 9) (f 10) (f 11) (f 12) (f 13) (f 14) (f 15) (f 16) (f 17) (f 18) (f 19) (f 20) (f 21) (f 22) (f 23) (f 24) A c w hr (by omega) (fun h => hna (fun i => f (i + 3)) h.symm) (fun h => hnt _ (by simp) (by simp) h.symm)
 obtain ⟨y0, y1, t, rfl⟩ : ∃ y0 y1 t, bs = y0 :: y1 :: t := by
   rcases bs with _ | ⟨y0, _ | ⟨y1, t⟩⟩
   · simp at h2
   · simp at h2
   · exact ⟨y0, y1, t, rfl⟩
 simp only [List.length_cons] at h2 h25 hc hl
 by_cases h40 : t.length ≤ 40
 · exact Parse_no3 y0 y1 t A c w hr (by omega) h40 (by omega) (by omega) (fun h => hnt t (by omega) h40 h.symm)
 · exact Parse_no41 y0 y1 t A c w hr (by omega) (by omega) (by omega)
end Go.Proofs.Ytcedmbdahbdmaaa
set_option maxRecDepth 100000
namespace Go.Proofs.Ytcedmbdahbdmaaa
open Go.RowKit
def isA (bs : List UInt8) : Prop := bs.length = 25 ∧ bs.take 3 = [118, 169, 20] ∧ bs.drop 23 = [136, 172]
def isT (bs : List UInt8) : Prop := 3 ≤ bs.length ∧ bs.length ≤ 42 ∧ bs.take 2 = [106, UInt8.ofNat (bs.length - 2)]
instance (bs : List UInt8) : Decidable (isA bs) := by unfold isA; infer_instance
instance (bs : List UInt8) : Decidable (isT bs) := by unfold isT; infer_instance
def lkK (bs : List UInt8) : Nat := if isA bs then 1 else if isT bs then 2 else 0
def lkA (bs : List UInt8) : List UInt8 := if isA bs then (bs.drop 3).take 20 else List.replicate 20 0
def lkT (bs : List UInt8) : List UInt8 := if isA bs then [] else if isT bs then bs.drop 2 else []
def lkC (k : Nat) (ad : List UInt8) (T : Option Addr) (n c : Nat) : List Value := .int .i64 (k : Int) :: (by8 ad ++ [.slice T n c])
theorem lkA_length (bs : List UInt8) : (lkA bs).length = 20 := by
 unfold lkA
 split
 · rename_i h
   simp [h.1]
 · rfl
theorem Parse_calls (bs : List UInt8) (A : Option Addr) (c : Nat) (w : World) (hr : RdS w A (by8 bs)) (hc : bs.length ≤ c) (hl : bs.length ≤ 1099511627776) :
   Calls Try.prog 11 #[.slice A bs.length c] w fun e w' => ∃ T d, e = .returned (.agg (lkC (lkK bs) (lkA bs) T (lkT bs).length d).toArray) ∧ Hp w [] [.row T (lkT bs).length d 5 1 (by8 (lkT bs))] w' := by
 unfold lkK lkA lkT
 by_cases h1 : isA bs
 · rw [if_pos h1, if_pos h1, if_pos h1]
   obtain ⟨hn, h2, h3⟩ := h1
   obtain ⟨g, rfl⟩ := lit_of bs 25 hn
   have h2 : [g 0, g 1, g 2] = [118, 169, 20] := h2
   have h3 : [g 23, g 24] = [136, 172] := h3
   simp only [List.cons.injEq, and_true] at h2 h3
   have e : (List.range 25).map g = [118, 169, 20, g 3, g 4, g 5, g 6, g 7, g 8, g 9, g 10, g 11, g 12, g 13, g 14, g 15, g 16, g 17, g 18, g 19, g 20, g 21, g 22, 136, 172] := by
     show [g 0, g 1, g 2, g 3, g 4, g 5, g 6, g 7, g 8, g 9, g 10, g 11, g 12, g 13, g 14, g 15, g 16, g 17, g 18, g 19, g 20, g 21, g 22, g 23, g 24] = _
     rw [h2.1, h2.2.1, h2.2.2, h3.1, h3.2]
   rw [e] at hr ⊢
   exact (Parse_addr (g 3) (g 4) (g 5) (g 6) (g 7) (g 8) (g 9) (g 10) (g 11) (g 12) (g 13) (g 14) (g 15) (g 16) (g 17) (g 18) (g 19) (g 20) (g 21) (g 22) A c w hr (by simpa using hc)).mono fun e_ w_ ⟨he, hh⟩ => ⟨none, 0, he, hh.rowNil 5 1⟩
 · rw [if_neg h1, if_neg h1, if_neg h1]
   by_cases h2 : isT bs
   · rw [if_pos h2, if_pos h2]
     obtain ⟨h3, h4, h5⟩ := h2
     obtain ⟨y0, y1, t, rfl⟩ : ∃ y0 y1 t, bs = y0 :: y1 :: t := by
       rcases bs with _ | ⟨y0, _ | ⟨y1, t⟩⟩
       · simp at h3
       · simp at h3
       · exact ⟨y0, y1, t, rfl⟩
     simp only [List.length_cons] at h3 h4 hc
     have h5 : [y0, y1] = [106, UInt8.ofNat t.length] := h5
     simp only [List.cons.injEq, and_true] at h5
     obtain ⟨rfl, rfl⟩ := h5
     exact Parse_tag t A c w hr (by omega) (by omega) hc
   · rw [if_neg h2, if_neg h2]
     refine (Parse_none bs A c w hr hc hl (fun f e => h1 ?_) (fun t ht1 ht2 e => h2 ?_)).mono fun e_ w_ ⟨he, hh⟩ => ⟨none, 0, he, hh.rowNil 5 1⟩
     · subst e
       exact ⟨rfl, rfl, rfl⟩
     · subst e
       refine ⟨?_, ?_, ?_⟩
       · simp [tagB]; omega
       · simp [tagB]; omega
       · simp [tagB]
section
variable {k n c : Nat} {ad : List UInt8} {T : Option Addr}
theorem lkC_length (h : ad.length = 20) : (lkC k ad T n c).length = 22 := by simp [lkC, by8_length, h]
theorem lkC_ad (h : ad.length = 20) : ((lkC k ad T n c).drop 1).take 20 = by8 ad := by
 show (by8 ad ++ _).take 20 = _
 exact List.take_left' (by rw [by8_length, h])
theorem lkC_one : ∀ q ∈ lkC k ad T n c, q.oneCell' = true := by
 intro q hq
 simp only [lkC, List.mem_cons, List.mem_append, List.not_mem_nil, or_false] at hq
 rcases hq with rfl | h | rfl
 · rfl
 · exact by8_one _ q h
 · rfl
end
def isK (bs : List UInt8) : Prop := bs.length = 21 ∧ bs[0]? = some 20
instance (bs : List UInt8) : Decidable (isK bs) := by unfold isK; infer_instance
end Go.Proofs.Ytcedmbdahbdmaaa
set_option maxRecDepth 100000
namespace Go.Proofs.Ytcedmbdahbdmaaa
open Go.RowKit
def toA (a : List UInt8) (x : TOut) : Bool := decide (lkK x.lb = 1 ∧ lkA x.lb = a)
theorem Paid1_calls (x : TOut) (a : List UInt8) (p : Nat) (w : World) (ha : a.length = 20) (hok : x.Ok w []) (hl9 : x.lb.length ≤ 1099511627776) (hb : Blk w p (by8 a) 28) : Calls Try.prog 27 #[.agg #[.int .u64 (x.pv : Int), .slice x.B x.lb.length x.lc], pt p 0] w fun e w' => e = .returned (.bool (toA a x)) ∧ Hp w [] [] w' := by
 have hc9 := hok.2.2.1
 refine calls_G (args := [.agg #[vu x.pv, .slice x.B x.lb.length x.lc], pt p 0]) Try.func27 rfl Try.ntmps27 rfl ?_
 intro Q0 hRet hNor hPan
 have H := Hp.start w
 refine G.sr fun K1 hK2 => ?_
 obtain ⟨p3, w4, r5, H6⟩ := H.box (P := Try.prog) 40 [vu x.pv, .slice x.B x.lb.length x.lc] (.agg #[vu x.pv, .slice x.B x.lb.length x.lc]) rfl
 refine GL.s 1 (r5) [(1, pt p 0), (2, pt p3 0)] ?_
 refine GL.r 2 1 [(1, pt p 0), (2, pt p3 0)] ?_
 refine GL.q hK2 ?_
 refine G.sr fun K7 hK8 => ?_
 refine GL.r 1 1 [(1, pt p 0), (5, pt p3 1)] ?_
 refine GL.s 2 (H6.ld (o := 1) (ty := 38) (v := .slice x.B x.lb.length x.lc) 0 rfl (by kernel_rfl) rfl) [(1, pt p 0), (6, .slice x.B x.lb.length x.lc)] ?_
 refine GL.call (j := 3) (Parse_calls x.lb x.B x.lc w4 (hok.2.1.hp H6) (hc9) (hl9)) (by kernel_rfl) rfl (fun e_ w11 hR => ?_)
 obtain ⟨A9, c10, rfl, H13⟩ := hR
 have H12 : Hp w [] [.blk p3 [vu x.pv, .slice x.B x.lb.length x.lc] 40, .row A9 ((lkT x.lb).length) c10 5 1 (by8 (lkT x.lb))] w11 := H6.callNew H13
 refine ⟨_, rfl, [1, 7], [(1, pt p 0), (7, .agg (lkC (lkK x.lb) (lkA x.lb) A9 (lkT x.lb).length c10).toArray)], by kernel_rfl, ?_⟩
 obtain ⟨p14, w15, r16, H17⟩ := H12.alloc (P := Try.prog) 43 (lkC 0 (List.replicate 20 0) none 0 0) (by kernel_rfl)
 refine GL.s 4 (r16) [(1, pt p 0), (4, pt p14 0), (7, .agg (lkC (lkK x.lb) (lkA x.lb) A9 (lkT x.lb).length c10).toArray)] ?_
 obtain ⟨w18, r19, H20⟩ := H17.stA (P := Try.prog) (o := 0) (vs := lkC (lkK x.lb) (lkA x.lb) A9 (lkT x.lb).length c10) (ty := 43) (m := 22) 2 rfl (by kernel_rfl) (lkC_length (lkA_length _)) (by rw [Nat.zero_add, lkC_length rfl]; exact Nat.le_refl _) lkC_one
 rw [tx_whole (lkC_length rfl)] at H20
 refine GL.u 5 r19 [(1, pt p 0), (4, pt p14 0)] ?_
 refine GL.q hK8 ?_
 refine G.sr fun K21 hK22 => ?_
 refine GL.r 1 1 [(1, pt p 0), (4, pt p14 0), (8, pt p14 0)] ?_
 refine GL.s 2 (H20.ld (o := 0) (ty := 41) (v := vi (lkK x.lb)) 2 rfl (by kernel_rfl) (rfl)) [(1, pt p 0), (4, pt p14 0), (9, vi (lkK x.lb))] ?_
 refine GL.r 4 2 [(1, pt p 0), (4, pt p14 0), (11, .bool ((((lkK x.lb) : Nat) : Int) == 1))] ?_
 cases hb23 : ((((lkK x.lb) : Nat) : Int) == 1)
 · skip
   have hb23f := ne_of_beq_false hb23
   refine GL.r 10 6 [(3, .bool false)] ?_
   refine GL.q hK22 ?_
   refine G.ret fun F_ hF_ hM_ => hRet _ _ (bodyPost_1 rfl (RV.tmp rfl) ?_ F_ hF_ hM_)
   have e0 : (false : Bool) = toA a x := by
     unfold toA; rw [Bool.eq_iff_iff]; simp only [decide_eq_true_eq, Bool.false_eq_true, false_iff]; omega
   rw [e0]
   exact ⟨rfl, H20.sub (List.nil_sublist _)⟩
 · skip
   have hb23f := eq_of_beq hb23
   refine GL.r 5 1 [(1, pt p 0), (11, .bool true), (12, pt p14 1)] ?_
   refine GL.s 6 (H20.ldA (o := 1) (ty := 28) (m := 20) (sub := by8 (lkA x.lb)) 2 rfl (by kernel_rfl) (lkC_ad (lkA_length _)) (by rw [by8_length, (lkA_length _)])) [(1, pt p 0), (11, .bool true), (13, .agg (by8 (lkA x.lb)).toArray)] ?_
   refine GL.s 7 (run_ldA (P := Try.prog) (ty := 28) (m := 20) (b := p) (o := 0) (sub := by8 a) (by kernel_rfl) (hb.old H20) (tx_sub (by rw [by8_length, ha])) (by rw [by8_length, ha])) [(11, .bool true), (13, .agg (by8 (lkA x.lb)).toArray), (14, .agg (by8 a).toArray)] ?_
   refine GL.s 8 (run_tx_eql (P := Try.prog) (t := 28) (n := 20) (x := (.tmp 13)) (y := (.tmp 14)) (by kernel_rfl) (lkA x.lb) a (lkA_length _) ha _) [(11, .bool true), (15, .bool (decide ((lkA x.lb) = a)))] ?_
   refine GL.r 10 2 [(3, .bool (decide ((lkA x.lb) = a)))] ?_
   refine GL.q hK22 ?_
   refine G.ret fun F_ hF_ hM_ => hRet _ _ (bodyPost_1 rfl (RV.tmp rfl) ?_ F_ hF_ hM_)
   have e0 : ((decide ((lkA x.lb) = a)) : Bool) = toA a x := by
     unfold toA; rw [decide_eq_decide]; exact ⟨fun h => ⟨by omega, h⟩, fun h => h.2⟩
   rw [e0]
   exact ⟨rfl, H20.sub (List.nil_sublist _)⟩
end Go.Proofs.Ytcedmbdahbdmaaa
namespace Go.Proofs.Ytcedmbdahbdmaaa
open Go.RowKit
theorem RdS.putObj {W : World} {l : Nat} {s : Loop} {o : Obj} {A : Option Addr} {xs : List Value} (hl : W.heap[l]? = some (.loop s)) (h : RdS W A xs) : RdS (W.putObj l o) A xs := by
 rcases h with h | ⟨a, hA, ha, hc⟩
 · exact .inl h
 · refine .inr ⟨a, hA, by simpa [World.putObj] using ha, fun j v hv => ?_⟩
   have h1 := hc j v hv
   have hb : (a.add j).block ≠ l := by
     intro e
     simp only [World.cell?] at h1
     rw [e, hl] at h1
     cases h1
   rw [World.cell?_of_block (w := W) (World.putObj_heap_other hb)]
   exact h1
end Go.Proofs.Ytcedmbdahbdmaaa
set_option maxRecDepth 100000
namespace Go.Proofs.Ytcedmbdahbdmaaa
open Go.RowKit
def AAddE (a b : Nat) : Nat := if MX < a ∨ MX < b then 1 else if MX < a + b then 4 else 0
def AAddV (a b : Nat) : Nat := if MX < a ∨ MX < b then 0 else if MX < a + b then 0 else a + b
theorem AAdd_cases (a b : Nat) : ((MX < a ∨ MX < b) ∧ AAddE a b = 1 ∧ AAddV a b = 0) ∨ (¬ (MX < a ∨ MX < b) ∧ MX < a + b ∧ AAddE a b = 4 ∧ AAddV a b = 0) ∨ (¬ (MX < a ∨ MX < b) ∧ ¬ MX < a + b ∧ AAddE a b = 0 ∧ AAddV a b = a + b) := by
 unfold AAddE AAddV
 repeat' split
 all_goals omega
theorem AAdd_calls (a b : Nat) (ha : a < K) (hb : b < K) (w : World) : Calls Try.prog 12 #[.int .u64 (a : Int), .int .u64 (b : Int)] w fun e w' => e = .returned (.tuple #[.int .u64 ((AAddV a b : Nat) : Int), .int .i64 ((AAddE a b : Nat) : Int)]) ∧ Hp w [] [] w' := by
 have hMX : MX = 4611686018427387904 := rfl
 have hK0 : K = 18446744073709551616 := rfl
 have hK40 : K4 = 115792089237316195423570985008687907853269984665640564039457584007913129639936 := rfl
 refine calls_G (args := [vu a, vu b]) Try.func12 rfl Try.ntmps12 rfl ?_
 intro Q0 hRet hNor hPan
 have H := Hp.start w
 refine G.sr fun K1 hK2 => ?_
 refine GL.r 2 2 [(0, vu a), (1, vu b)] ?_
 refine GL.q hK2 ?_
 refine G.seqK fun K3 hK4 => ?_
 refine G.block ?_
 refine G.sr fun K5 hK6 => ?_
 refine GL.r 1 1 [(0, vu a), (1, vu b), (7, vu a)] ?_
 refine GL.call (j := 2) (Right_calls a w) (by kernel_rfl) rfl (fun e_ w7 hR => ?_)
 obtain ⟨rfl, H9⟩ := hR
 have H8 : Hp w [] [] w7 := H.callNil H9
 refine ⟨_, rfl, [0, 1, 8], [(0, vu a), (1, vu b), (8, .bool (decide (a ≤ 4611686018427387904)))], by kernel_rfl, ?_⟩
 refine GL.r 4 2 [(0, vu a), (1, vu b), (10, .bool (!(decide (a ≤ 4611686018427387904))))] ?_
 cases hb10 : (decide (a ≤ 4611686018427387904))
 · skip
   have hb10f := of_decide_eq_false hb10
   refine GL.r 9 5 [(0, vu a), (1, vu b), (6, .bool true)] ?_
   refine GL.q hK6 ?_
   refine G.yes rfl ?_
   refine G.sr fun K11 hK12 => ?_
   refine GL.r 2 2 [(4, lu 0), (5, li 1)] ?_
   refine GL.q hK12 ?_
   refine G.ret fun F_ hF_ hM_ => hRet _ _ (bodyPost_2 rfl (RV.tmp rfl) (RV.tmp rfl) ?_ F_ hF_ hM_)
   have eVE : AAddV a b = 0 ∧ AAddE a b = 1 := by
     unfold AAddV AAddE
     simp only [MX] at *
     constructor <;> repeat' split
     all_goals omega
   rw [eVE.1, eVE.2]
   exact ⟨rfl, H8.sub (List.nil_sublist _)⟩
 · skip
   have hb10f := of_decide_eq_true hb10
   refine GL.r 5 1 [(0, vu a), (1, vu b), (10, .bool false), (11, vu b)] ?_
   refine GL.call (j := 6) (Right_calls b w7) (by kernel_rfl) rfl (fun e_ w13 hR => ?_)
   obtain ⟨rfl, H15⟩ := hR
   have H14 : Hp w [] [] w13 := H8.callNil H15
   refine ⟨_, rfl, [0, 1, 10, 12], [(0, vu a), (1, vu b), (10, .bool false), (12, .bool (decide (b ≤ 4611686018427387904)))], by kernel_rfl, ?_⟩
   refine GL.r 9 3 [(0, vu a), (1, vu b), (6, .bool (!(decide (b ≤ 4611686018427387904))))] ?_
   refine GL.q hK6 ?_
   cases hb16 : (decide (b ≤ 4611686018427387904))
   · skip
     have hb16f := of_decide_eq_false hb16
     refine G.yes rfl ?_
     refine G.sr fun K17 hK18 => ?_
     refine GL.r 2 2 [(4, lu 0), (5, li 1)] ?_
     refine GL.q hK18 ?_
     refine G.ret fun F_ hF_ hM_ => hRet _ _ (bodyPost_2 rfl (RV.tmp rfl) (RV.tmp rfl) ?_ F_ hF_ hM_)
     have eVE : AAddV a b = 0 ∧ AAddE a b = 1 := by
       unfold AAddV AAddE
       simp only [MX] at *
       constructor <;> repeat' split
       all_goals omega
     rw [eVE.1, eVE.2]
     exact ⟨rfl, H14.sub (List.nil_sublist _)⟩
   · skip
     have hb16f := of_decide_eq_true hb16
     refine G.no rfl ?_
     refine G.sr fun K19 hK20 => ?_
     refine GL.r 3 3 [(0, vu a), (1, vu b), (18, lu (IntKind.u64.wrap ((a : Int) + (b : Int))))] ?_
     have e21 : (IntKind.u64.wrap ((a : Int) + (b : Int))) = ((a + b : Nat) : Int) := n_add' (a := a) (b := b) (by omega)
     rw [e21]
     clear e21
     refine GL.call (j := 4) (Right_calls (a + b) w13) (by kernel_rfl) rfl (fun e_ w22 hR => ?_)
     obtain ⟨rfl, H24⟩ := hR
     have H23 : Hp w [] [] w22 := H14.callNil H24
     refine ⟨_, rfl, [0, 1, 19], [(0, vu a), (1, vu b), (19, .bool (decide (a + b ≤ 4611686018427387904)))], by kernel_rfl, ?_⟩
     refine GL.r 6 2 [(0, vu a), (1, vu b), (15, .bool (!(decide (a + b ≤ 4611686018427387904))))] ?_
     refine GL.q hK20 ?_
     cases hb25 : (decide (a + b ≤ 4611686018427387904))
     · skip
       have hb25f := of_decide_eq_false hb25
       refine G.yes rfl ?_
       refine G.sr fun K26 hK27 => ?_
       refine GL.r 2 2 [(4, lu 0), (5, li 4)] ?_
       refine GL.q hK27 ?_
       refine G.ret fun F_ hF_ hM_ => hRet _ _ (bodyPost_2 rfl (RV.tmp rfl) (RV.tmp rfl) ?_ F_ hF_ hM_)
       have eVE : AAddV a b = 0 ∧ AAddE a b = 4 := by
         unfold AAddV AAddE
         simp only [MX] at *
         constructor <;> repeat' split
         all_goals omega
       rw [eVE.1, eVE.2]
       exact ⟨rfl, H23.sub (List.nil_sublist _)⟩
     · skip
       have hb25f := of_decide_eq_true hb25
       refine G.no rfl ?_
       refine G.skipK hK4 (fun _ _ h => h) ?_
       refine G.sr fun K28 hK29 => ?_
       refine GL.r 5 5 [(4, lu (IntKind.u64.wrap ((a : Int) + (b : Int)))), (5, li 0)] ?_
       have e30 : (IntKind.u64.wrap ((a : Int) + (b : Int))) = ((a + b : Nat) : Int) := n_add' (a := a) (b := b) (by omega)
       rw [e30]
       clear e30
       refine GL.q hK29 ?_
       refine G.ret fun F_ hF_ hM_ => hRet _ _ (bodyPost_2 rfl (RV.tmp rfl) (RV.tmp rfl) ?_ F_ hF_ hM_)
       have eVE : AAddV a b = a + b ∧ AAddE a b = 0 := by
         unfold AAddV AAddE
         simp only [MX] at *
         constructor <;> repeat' split
         all_goals omega
       rw [eVE.1, eVE.2]
       exact ⟨rfl, H23.sub (List.nil_sublist _)⟩
def tot : List Nat → Nat → Nat × Nat
 | [], s => (0, s)
 | a :: l, s => if MX < a then (1, 0) else if MX < s + a then (4, 0) else tot l (s + a)
theorem tot_step {ls : List Nat} {k x s : Nat} (h : ls[k]? = some x) : tot (ls.drop k) s = if MX < x then (1, 0) else if MX < s + x then (4, 0) else tot (ls.drop (k + 1)) (s + x) := by
 obtain ⟨hk, hx⟩ := List.getElem?_eq_some_iff.1 h
 rw [List.drop_eq_getElem_cons hk, hx]
 rfl
theorem tot_end {ls : List Nat} {s : Nat} : tot (ls.drop ls.length) s = (0, s) := by rw [List.drop_length]; rfl
theorem Total_calls (ls : List Nat) (hls : ∀ x ∈ ls, x < K) (gf : Nat) (lb : Array Value) (Rd : World → Prop) (he : ∀ args w, (callFunc gf args).run Try.prog w = .ok (.enter gf args) w) (hit : Iter Try.prog gf lb ls.length (fun k => #[.int .u64 ((ls.getD k 0 : Nat) : Int)]) Rd) (w : World) (hRd : ∀ W, Below w.heap.size w W → Rd W) :
   Calls Try.prog 54 #[.func (.func gf) #[] lb] w fun e w' => e = .returned (.tuple #[.int .u64 (((tot ls 0).2 : Nat) : Int), .int .i64 (((tot ls 0).1 : Nat) : Int)]) ∧ Hp w [] [] w' := by
 have hMX : MX = 4611686018427387904 := rfl
 have hK0 : K = 18446744073709551616 := rfl
 refine calls_R (args := [.func (.func gf) #[] lb]) Try.func54 rfl Try.ntmps54 rfl ?_
 intro Q0 hRet hNor
 have H := Hp.start w
 refine RG.seqK fun K1 hK2 => ?_
 refine RG.region (by kernel_rfl) ?_
 obtain ⟨p3, w4, r5, H6⟩ := H.alloc (P := Try.prog) 32 [lu 0] (by kernel_rfl)
 refine RL.sem (j := 1) (r5) [0, 2] [(0, .func (.func gf) #[] lb), (2, pt p3 0)] (by kernel_rfl) (by kernel_rfl) rfl ?_
 obtain ⟨p7, w8, r9, H10⟩ := H6.alloc (P := Try.prog) 33 [li 0] (by kernel_rfl)
 refine RL.sem (j := 2) (r9) [0, 2, 3] [(0, .func (.func gf) #[] lb), (2, pt p3 0), (3, pt p7 0)] (by kernel_rfl) (by kernel_rfl) rfl ?_
 refine RL.k rfl hK2 (fun _ _ h => h) ?_
 refine RG.seqK fun K11 hK12 => ?_
 refine RG.region (by kernel_rfl) ?_
 obtain ⟨p13, w14, r15, H16⟩ := H10.alloc (P := Try.prog) 32 [lu 0] (by kernel_rfl)
 refine RL.sem (j := 1) (r15) [0, 2, 3, 4] [(0, .func (.func gf) #[] lb), (2, pt p3 0), (3, pt p7 0), (4, pt p13 0)] (by kernel_rfl) (by kernel_rfl) rfl ?_
 refine RL.k rfl hK12 (fun _ _ h => h) ?_
 refine RG.seqK fun K17 hK18 => ?_
 refine RG.seqK fun K19 hK20 => ?_
 refine RG.region (by kernel_rfl) ?_
 refine RL.run (j := 1) 1 [2, 3, 4, 8] [(2, pt p3 0), (3, pt p7 0), (4, pt p13 0), (8, .func (.func gf) #[] lb)] (by kernel_rfl) rfl ?_
 refine RL.k rfl hK20 (fun _ _ h => h) ?_
 refine RG.block ?_
 refine RG.fit [2, 3, 4, 8] (M' := [(2, pt p3 0), (3, pt p7 0), (4, pt p13 0), (8, .func (.func gf) #[] lb)]) (by kernel_rfl) ?_
 refine RG.range H16 (gf := gf) (lb := lb) rfl he (Xt := Nat) (fun k s => s ≤ MX ∧ tot ls 0 = tot (ls.drop k) s) (fun k s => [.blk p3 [lu 0] 32, .blk p7 [li 0] 33, .blk p13 [vu s] 32]) (fun s => tot ls 0 = (s, 0)) (fun s => [.blk p3 [lu 0] 32, .blk p7 [vi s] 33]) (N := ls.length) (enc := fun k => #[vu (ls.getD k 0)]) (hit) (fun _ => rfl) 0 ⟨Nat.zero_le _, by rw [List.drop_zero]⟩ rfl (fun k s E W hx HW => hRd W (HW.sub (List.nil_sublist _)).below) (fun k => [(9, vu (ls.getD k 0)), (2, pt p3 0), (3, pt p7 0), (4, pt p13 0), (8, .func (.func gf) #[] lb)]) (fun _ => rfl) ?_ ?_ ?_
 · skip
   rintro D24 l25 oR26 oB27 k s w21 K28 hk29 hx22 H23 hK30
   obtain ⟨hs1, hs2⟩ := hx22
   have hdx := getD_some hk29
   have hst := tot_step (s := s) hdx
   have hxK := hls _ (List.mem_of_getElem? hdx)
   refine RG.region (by kernel_rfl) ?_
   refine RL.run (j := 1) 1 [2, 3, 4, 5] [(2, pt p3 0), (3, pt p7 0), (4, pt p13 0), (5, vu (ls.getD k 0))] (by kernel_rfl) rfl ?_
   refine RL.done rfl (fun F_ hF_ hM_ => hK30 F_ _ [.blk p3 [lu 0] 32, .blk p7 [li 0] 33, .blk p13 [vu s] 32] _ hF_ hM_ H23 ?_)
   intro w31 H32
   refine RG.block ?_
   refine RG.seqK fun K33 hK34 => ?_
   refine RG.region (by kernel_rfl) ?_
   refine RL.sem (j := 1) (H32.ld (o := 0) (ty := 32) (v := vu s) 2 rfl (by kernel_rfl) rfl) [2, 3, 4, 5, 11] [(2, pt p3 0), (3, pt p7 0), (4, pt p13 0), (5, vu (ls.getD k 0)), (11, vu s)] (by kernel_rfl) (by kernel_rfl) rfl ?_
   refine RL.run (j := 2) 1 [2, 3, 4, 11, 12] [(2, pt p3 0), (3, pt p7 0), (4, pt p13 0), (11, vu s), (12, vu (ls.getD k 0))] (by kernel_rfl) rfl ?_
   refine RL.call (j := 3) (AAdd_calls s (ls.getD k 0) (show s < K by omega) hxK w31) (by kernel_rfl) rfl (fun e_ w35 hR => ?_)
   obtain ⟨rfl, H37⟩ := hR
   have H36 : Hp w [] [.blk p3 [lu 0] 32, .blk p7 [li 0] 33, .blk p13 [vu s] 32, .obj D24 DF, .obj l25 oB27] w35 := H32.callNil H37
   refine ⟨_, rfl, [2, 3, 4, 13], [(2, pt p3 0), (3, pt p7 0), (4, pt p13 0), (13, .tuple #[vu (AAddV s (ls.getD k 0)), vi (AAddE s (ls.getD k 0))])], by kernel_rfl, ?_⟩
   refine RL.run (j := 8) 5 [2, 3, 4, 6, 7] [(2, pt p3 0), (3, pt p7 0), (4, pt p13 0), (6, vu (AAddV s (ls.getD k 0))), (7, vi (AAddE s (ls.getD k 0)))] (by kernel_rfl) rfl ?_
   refine RL.k rfl hK34 (fun _ _ h => h) ?_
   refine RG.seqK fun K38 hK39 => ?_
   refine RG.seqK fun K40 hK41 => ?_
   refine RG.region (by kernel_rfl) ?_
   refine RL.run (j := 2) 2 [2, 3, 4, 6, 7, 17] [(2, pt p3 0), (3, pt p7 0), (4, pt p13 0), (6, vu (AAddV s (ls.getD k 0))), (7, vi (AAddE s (ls.getD k 0))), (17, .bool ((((AAddE s (ls.getD k 0)) : Nat) : Int) != 0))] (by kernel_rfl) rfl ?_
   refine RL.k rfl hK41 (fun _ _ h => h) ?_
   cases hb42 : ((((AAddE s (ls.getD k 0)) : Nat) : Int) != 0)
   · skip
     have hb42f : (((AAddE s (ls.getD k 0)) : Nat) : Int) = 0 := bne_eq_false_iff_eq.1 hb42
     refine RG.no rfl ?_
     refine RG.skipK hK39 (fun _ _ h => h) ?_
     refine RG.region (by kernel_rfl) ?_
     refine RL.run (j := 1) 1 [4, 19] [(4, pt p13 0), (19, vu (AAddV s (ls.getD k 0)))] (by kernel_rfl) rfl ?_
     obtain ⟨w43, r44, H45⟩ := H36.st (P := Try.prog) (o := 0) (ty := 32) (v := vu (AAddV s (ls.getD k 0))) 2 rfl (by kernel_rfl) (by simp) rfl
     refine RL.semU (j := 2) r44 [] [] (by kernel_rfl) rfl rfl rfl ?_
     have hA1 : AAddV s (ls.getD k 0) ≤ MX := by rcases AAdd_cases s (ls.getD k 0) with h | h | h <;> omega
     have hA2 : tot ls 0 = tot (ls.drop (k + 1)) (AAddV s (ls.getD k 0)) := by rcases AAdd_cases s (ls.getD k 0) with h | h | h <;> first | omega | (rw [hs2, hst, if_neg (by omega), if_neg (by omega), h.2.2.2])
     exact RL.done rfl (fun F_ hF_ hM_ => ⟨(AAddV s (ls.getD k 0)), ⟨hA1, hA2⟩, H45⟩)
   · skip
     have hb42f : (((AAddE s (ls.getD k 0)) : Nat) : Int) ≠ 0 := bne_iff_ne.1 hb42
     refine RG.yes rfl ?_
     refine RG.seqK fun K46 hK47 => ?_
     refine RG.region (by kernel_rfl) ?_
     refine RL.run (j := 1) 1 [2, 3, 18] [(2, pt p3 0), (3, pt p7 0), (18, vi (AAddE s (ls.getD k 0)))] (by kernel_rfl) rfl ?_
     obtain ⟨w48, r49, H50⟩ := H36.st (P := Try.prog) (o := 0) (ty := 32) (v := .int .u64 0) 0 rfl (by kernel_rfl) (by simp) rfl
     refine RL.semU (j := 2) r49 [2, 3, 18] [(2, pt p3 0), (3, pt p7 0), (18, vi (AAddE s (ls.getD k 0)))] (by kernel_rfl) rfl rfl rfl ?_
     obtain ⟨w51, r52, H53⟩ := H50.st (P := Try.prog) (o := 0) (ty := 33) (v := vi (AAddE s (ls.getD k 0))) 1 rfl (by kernel_rfl) (by simp) rfl
     refine RL.semU (j := 3) r52 [2, 3] [(2, pt p3 0), (3, pt p7 0)] (by kernel_rfl) rfl rfl rfl ?_
     refine RL.k rfl hK47 (fun _ _ h => h) ?_
     refine RG.ret ?_
     have H54 : Hp w [] [.blk p3 [lu 0] 32, .blk p7 [vi (AAddE s (ls.getD k 0))] 33, .obj D24 DF, .obj l25 oB27] w51 := H53.sub (List.Sublist.cons_cons _ (List.Sublist.cons_cons _ (List.Sublist.cons _ (List.Sublist.cons_cons _ (List.Sublist.cons_cons _ (List.Sublist.slnil))))))
     intro F_ hF_ hM_
     exact ⟨(AAddE s (ls.getD k 0)), (by rcases AAdd_cases s (ls.getD k 0) with h | h | h <;> first | omega | (rw [hs2, hst, if_pos (by omega), h.2.1]) | (rw [hs2, hst, if_neg (by omega), if_pos (by omega), h.2.2.1])), H54⟩
 · skip
   rintro D58 s w55 hx56 H57
   refine RG.kk hK18 (fun _ _ h => h) ?_
   have ht : tot ls 0 = (0, s) := by rw [hx56.2, tot_end]
   refine RG.seqK fun K59 hK60 => ?_
   refine RG.region (by kernel_rfl) ?_
   refine RL.sem (j := 1) (H57.ld (o := 0) (ty := 32) (v := vu s) 2 rfl (by kernel_rfl) rfl) [2, 3, 20] [(2, pt p3 0), (3, pt p7 0), (20, vu s)] (by kernel_rfl) (by kernel_rfl) rfl ?_
   obtain ⟨w61, r62, H63⟩ := H57.st (P := Try.prog) (o := 0) (ty := 32) (v := vu s) 0 rfl (by kernel_rfl) (by simp) rfl
   refine RL.semU (j := 2) r62 [2, 3] [(2, pt p3 0), (3, pt p7 0)] (by kernel_rfl) rfl rfl rfl ?_
   obtain ⟨w64, r65, H66⟩ := H63.st (P := Try.prog) (o := 0) (ty := 33) (v := .int .i64 0) 1 rfl (by kernel_rfl) (by simp) rfl
   refine RL.semU (j := 3) r65 [2, 3] [(2, pt p3 0), (3, pt p7 0)] (by kernel_rfl) rfl rfl rfl ?_
   refine RL.k rfl hK60 (fun _ _ h => h) ?_
   refine RG.ret ?_
   have hD67 := H66.objAt 3 rfl
   have H68 : Hp w [] [.blk p3 [vu s] 32, .blk p7 [li 0] 33, .blk p13 [vu s] 32, .obj D58 (.deferred none)] (World.putObj w64 D58 (.deferred none)) := H66.putObj 3 (.deferred none) rfl
   intro F_ hF_ hM_
   refine hRet _ _ (postK_2 hD67 rfl (RV.cell rfl (H68.ld (o := 0) (ty := 32) (v := vu s) 0 rfl (by kernel_rfl) rfl)) (RV.cell rfl (H68.ld (o := 0) (ty := 33) (v := .int .i64 0) 1 rfl (by kernel_rfl) rfl)) ?_ F_ hF_ hM_)
   rw [ht]
   exact ⟨rfl, H68.sub (List.nil_sublist _)⟩
 · skip
   rintro D72 s w69 hx70 H71
   intro F_ hF_ hM_
   have ht : tot ls 0 = (s, 0) := hx70
   have hD73 := H71.objAt 2 rfl
   have H74 : Hp w [] [.blk p3 [lu 0] 32, .blk p7 [vi s] 33, .obj D72 (.deferred none)] (World.putObj w69 D72 (.deferred none)) := H71.putObj 2 (.deferred none) rfl
   refine hRet _ _ (postK_2 hD73 rfl (RV.cell rfl (H74.ld (o := 0) (ty := 32) (v := .int .u64 0) 0 rfl (by kernel_rfl) rfl)) (RV.cell rfl (H74.ld (o := 0) (ty := 33) (v := vi s) 1 rfl (by kernel_rfl) rfl)) ?_ F_ hF_ hM_)
   rw [ht]
   exact ⟨rfl, H74.sub (List.nil_sublist _)⟩
end Go.Proofs.Ytcedmbdahbdmaaa
set_option maxRecDepth 100000
namespace Go.Proofs.Ytcedmbdahbdmaaa
open Go.RowKit
theorem paysA_iter (outs : List TOut) (B : Option Addr) (cb : Nat) (hsh : ∀ x ∈ outs, x.lb.length ≤ 600) (hno : outs.length ≤ maxLen) (a : List UInt8) (ha : a.length = 20) (pa : Nat) (b1 b2 : Nat) : Iter Try.prog 55 #[pt b1 0, pt b2 0] (outs.filter (toA a)).length (fun k => #[.int .u64 (((payL (toA a) outs).getD k 0 : Nat) : Int)]) (fun W => W.cell? ⟨b1, 2, none⟩ = some (.slice B outs.length cb) ∧ W.cell? ⟨b2, 0, none⟩ = some (.func (.func 27) #[] #[pt pa 0]) ∧ RdS W B (outsC outs) ∧ (∀ x ∈ outs, x.Ok W []) ∧ Blk W pa (by8 a) 28) := by
 intro l J Jx hRd hst hy w h0
 have hno_ : outs.length ≤ 9223372036854775807 := hno
 rw [show (#[Value.func (.yield l) #[] #[]] ++ #[pt b1 0, pt b2 0] : Array Value) = #[.func (.yield l) #[] #[], pt b1 0, pt b2 0] by simp]
 refine calls_R (args := [.func (.yield l) #[] #[], pt b1 0, pt b2 0]) Try.func55 rfl Try.ntmps55 rfl ?_
 intro Q0 hRet hNor
 have H := Hp.start w
 refine RG.seqK fun K1 hK2 => ?_
 refine RG.region (by kernel_rfl) ?_
 refine RL.run (j := 1) 1 [0, 2, 6] [(0, .func (.yield l) #[] #[]), (2, pt b2 0), (6, pt b1 2)] (by kernel_rfl) rfl ?_
 refine RL.sem (j := 2) (run_ld1 (P := Try.prog) (ty := 24) (a := ⟨b1, 2, none⟩) (v := .slice B outs.length cb) (by kernel_rfl) (H.oldCell (hRd _ _ h0).1)) [0, 2, 7] [(0, .func (.yield l) #[] #[]), (2, pt b2 0), (7, .slice B outs.length cb)] (by kernel_rfl) (by kernel_rfl) rfl ?_
 refine RL.run (j := 4) 2 [0, 2, 7, 8, 9] [(0, .func (.yield l) #[] #[]), (2, pt b2 0), (7, .slice B outs.length cb), (8, vi outs.length), (9, li 0)] (by kernel_rfl) rfl ?_
 refine RL.k rfl hK2 (fun _ _ h => h) ?_
 refine RG.block ?_
 refine RG.fit [0, 2, 7, 8, 9] (M' := [(0, .func (.yield l) #[] #[]), (2, pt b2 0), (7, .slice B outs.length cb), (8, vi outs.length), (9, li 0)]) (by kernel_rfl) ?_
 refine RG.loop (X := Nat) (fun i => [(0, .func (.yield l) #[] #[]), (2, pt b2 0), (7, .slice B outs.length cb), (8, vi outs.length), (9, vi i)]) (fun i w_ => i ≤ outs.length ∧ J (sel (toA a) outs i) w_) (fun i => outs.length - i) 0 [0, 2, 7, 8, 9] (by kernel_rfl) ⟨Nat.zero_le _, h0⟩ ?_
 rintro i wk ⟨hil, hJk⟩
 have H3 := Hp.start wk
 refine RG.eq (M' := [(0, .func (.yield l) #[] #[]), (2, pt b2 0), (7, .slice B outs.length cb), (8, vi outs.length), (9, vi i)]) rfl ?_
 refine RG.seqK fun K4 hK5 => ?_
 refine RG.region (by kernel_rfl) ?_
 refine RL.run (j := 1) 1 [0, 2, 7, 8, 9, 10] [(0, .func (.yield l) #[] #[]), (2, pt b2 0), (7, .slice B outs.length cb), (8, vi outs.length), (9, vi i), (10, .bool (decide ((i : Int) < (outs.length : Int))))] (by kernel_rfl) rfl ?_
 refine RL.k rfl hK5 (fun _ _ h => h) ?_
 refine RG.seqK fun K6 hK7 => ?_
 cases hb8 : (decide ((i : Int) < (outs.length : Int)))
 · skip
   have hb8f := of_decide_eq_false hb8
   refine RG.no rfl ?_
   refine fun F_ hF_ hM_ => wpIn_exit ?_
   refine hNor _ _ (postM_0 rfl  ?_ F_ hF_ hM_)
   exact ⟨⟨_, rfl⟩, .inl (by rw [← sel_end (q := (toA a)) (l := outs) (i := i) (by omega)]; exact hJk)⟩
 · skip
   have hb8f := of_decide_eq_true hb8
   refine RG.yes rfl ?_
   refine RG.skipK hK7 (fun _ _ h => h) ?_
   refine RG.seqK fun K9 hK10 => ?_
   refine RG.block ?_
   refine RG.seqK fun K11 hK12 => ?_
   refine RG.region (by kernel_rfl) ?_
   obtain ⟨x13, hx14⟩ : ∃ x, outs[i]? = some x := ⟨_, List.getElem?_eq_getElem (by omega)⟩
   have hok15 := (hRd _ _ hJk).2.2.2.1 x13 (List.mem_of_getElem? hx14)
   refine RL.sem (j := 1) (run_idxRdN (P := Try.prog) (k := .i64) (t := 24) (sz := 2) (A := B) (len := outs.length) (cap := cb) (j := i) (by kernel_rfl) rfl ((hRd _ _ hJk).2.2.1.hp H3) (outsC_length _) (by decide) (by omega)) [0, 2, 7, 8, 9, 11] [(0, .func (.yield l) #[] #[]), (2, pt b2 0), (7, .slice B outs.length cb), (8, vi outs.length), (9, vi i), (11, .pointer (Option.map (fun x => Addr.add x (i * 2)) B))] (by kernel_rfl) (by kernel_rfl) rfl ?_
   refine RL.sem (j := 2) (run_ldRdA (P := Try.prog) (ty := 40) (A := B) (o := (i * 2)) (m := 2) (sub := [vu x13.pv, .slice x13.B x13.lb.length x13.lc]) (by kernel_rfl) ((hRd _ _ hJk).2.2.1.hp H3) (outsC_cut hx14) (rfl) (by decide)) [0, 2, 7, 8, 9, 12] [(0, .func (.yield l) #[] #[]), (2, pt b2 0), (7, .slice B outs.length cb), (8, vi outs.length), (9, vi i), (12, .agg #[vu x13.pv, .slice x13.B x13.lb.length x13.lc])] (by kernel_rfl) (by kernel_rfl) rfl ?_
   obtain ⟨p16, w17, r18, H19⟩ := H3.alloc (P := Try.prog) 40 [lu 0, .slice none 0 0] (by kernel_rfl)
   refine RL.sem (j := 3) (r18) [0, 2, 5, 7, 8, 9, 12] [(0, .func (.yield l) #[] #[]), (2, pt b2 0), (5, pt p16 0), (7, .slice B outs.length cb), (8, vi outs.length), (9, vi i), (12, .agg #[vu x13.pv, .slice x13.B x13.lb.length x13.lc])] (by kernel_rfl) (by kernel_rfl) rfl ?_
   obtain ⟨w20, r21, H22⟩ := H19.stA (P := Try.prog) (o := 0) (vs := [vu x13.pv, .slice x13.B x13.lb.length x13.lc]) (ty := 40) (m := 2) 0 rfl (by kernel_rfl) rfl (by simp) (by simp [Value.oneCell'])
   refine RL.semU (j := 4) r21 [0, 2, 5, 7, 8, 9] [(0, .func (.yield l) #[] #[]), (2, pt b2 0), (5, pt p16 0), (7, .slice B outs.length cb), (8, vi outs.length), (9, vi i)] (by kernel_rfl) rfl rfl rfl ?_
   refine RL.k rfl hK12 (fun _ _ h => h) ?_
   refine RG.seqK fun K23 hK24 => ?_
   refine RG.region (by kernel_rfl) ?_
   refine RL.sem (j := 1) (run_ld1 (P := Try.prog) (ty := 77) (a := ⟨b2, 0, none⟩) (v := .func (.func 27) #[] #[pt pa 0]) (by kernel_rfl) (H22.oldCell (hRd _ _ hJk).2.1)) [0, 2, 5, 7, 8, 9, 13] [(0, .func (.yield l) #[] #[]), (2, pt b2 0), (5, pt p16 0), (7, .slice B outs.length cb), (8, vi outs.length), (9, vi i), (13, .func (.func 27) #[] #[pt pa 0])] (by kernel_rfl) (by kernel_rfl) rfl ?_
   refine RL.sem (j := 2) (H22.ldA (o := 0) (ty := 40) (m := 2) (sub := [vu x13.pv, .slice x13.B x13.lb.length x13.lc]) 0 rfl (by kernel_rfl) rfl rfl) [0, 2, 5, 7, 8, 9, 13, 14] [(0, .func (.yield l) #[] #[]), (2, pt b2 0), (5, pt p16 0), (7, .slice B outs.length cb), (8, vi outs.length), (9, vi i), (13, .func (.func 27) #[] #[pt pa 0]), (14, .agg #[vu x13.pv, .slice x13.B x13.lb.length x13.lc])] (by kernel_rfl) (by kernel_rfl) rfl ?_
   refine RL.call (j := 3) (Paid1_calls x13 a pa w20 ha (hok15.mid (A' := []) H22) (Nat.le_trans (hsh x13 (List.mem_of_getElem? hx14)) (by decide)) ((hRd _ _ hJk).2.2.2.2.old H22)) (by kernel_rfl) rfl (fun e_ w25 hR => ?_)
   obtain ⟨rfl, H27⟩ := hR
   have H26 : Hp wk [] [.blk p16 [vu x13.pv, .slice x13.B x13.lb.length x13.lc] 40] w25 := H22.callNil H27
   refine ⟨_, rfl, [0, 2, 5, 7, 8, 9, 15], [(0, .func (.yield l) #[] #[]), (2, pt b2 0), (5, pt p16 0), (7, .slice B outs.length cb), (8, vi outs.length), (9, vi i), (15, .bool (toA a x13))], by kernel_rfl, ?_⟩
   refine RL.run (j := 4) 1 [0, 2, 5, 7, 8, 9, 16] [(0, .func (.yield l) #[] #[]), (2, pt b2 0), (5, pt p16 0), (7, .slice B outs.length cb), (8, vi outs.length), (9, vi i), (16, .bool (toA a x13))] (by kernel_rfl) rfl ?_
   cases hb28 : (toA a x13)
   · skip
     refine RL.run (j := 10) 6 [0, 2, 7, 8, 9, 22] [(0, .func (.yield l) #[] #[]), (2, pt b2 0), (7, .slice B outs.length cb), (8, vi outs.length), (9, vi i), (22, .bool false)] (by kernel_rfl) rfl ?_
     refine RL.k rfl hK24 (fun _ _ h => h) ?_
     refine RG.no rfl ?_
     refine RG.skipK hK10 (fun _ _ h => h) ?_
     refine RG.region (by kernel_rfl) ?_
     refine RL.run (j := 2) 2 [0, 2, 7, 8, 9] [(0, .func (.yield l) #[] #[]), (2, pt b2 0), (7, .slice B outs.length cb), (8, vi outs.length), (9, li (IntKind.i64.wrap ((i : Int) + 1)))] (by kernel_rfl) rfl ?_
     have e29 : (IntKind.i64.wrap ((i : Int) + 1)) = ((i + 1 : Nat) : Int) := by rw [in_i64 (by omega)]; omega
     rw [e29]
     clear e29
     refine RL.fit (ts := [0, 2, 7, 8, 9]) (M' := [(0, .func (.yield l) #[] #[]), (2, pt b2 0), (7, .slice B outs.length cb), (8, vi outs.length), (9, vi (i + 1))]) (by kernel_rfl) ?_
     refine RL.eq (M' := [(0, .func (.yield l) #[] #[]), (2, pt b2 0), (7, .slice B outs.length cb), (8, vi outs.length), (9, vi (i + 1))]) (by rfl) ?_
     exact RL.again (i + 1) [0, 2, 7, 8, 9] rfl (by kernel_rfl) (by show outs.length - (i + 1) < outs.length - i; omega) ⟨by omega, by rw [sel_no hx14 hb28]; exact hst _ _ _ hJk H26.below⟩
   · skip
     refine RL.run (j := 6) 2 [0, 2, 7, 8, 9, 16, 17, 18] [(0, .func (.yield l) #[] #[]), (2, pt b2 0), (7, .slice B outs.length cb), (8, vi outs.length), (9, vi i), (16, .bool true), (17, .func (.yield l) #[] #[]), (18, pt p16 0)] (by kernel_rfl) rfl ?_
     refine RL.sem (j := 7) (H26.ld (o := 0) (ty := 32) (v := vu x13.pv) 0 rfl (by kernel_rfl) rfl) [0, 2, 7, 8, 9, 16, 17, 19] [(0, .func (.yield l) #[] #[]), (2, pt b2 0), (7, .slice B outs.length cb), (8, vi outs.length), (9, vi i), (16, .bool true), (17, .func (.yield l) #[] #[]), (19, vu x13.pv)] (by kernel_rfl) (by kernel_rfl) rfl ?_
     refine RL.yield (j := 8) ((by have h_ := hy (sel (toA a) outs i) w25 (sel_lt hx14 hb28) (hst _ _ _ hJk H26.below); simp only [payL_at (q := (toA a)) hx14 hb28] at h_; exact h_)) (by kernel_rfl) rfl (fun e_ w30 hR34 => ?_)
     obtain ⟨b31, rfl, hyt32, hyf33⟩ := yield_cases hR34
     have H35 := Hp.start w30
     refine ⟨_, rfl, [0, 2, 7, 8, 9, 16, 20], [(0, .func (.yield l) #[] #[]), (2, pt b2 0), (7, .slice B outs.length cb), (8, vi outs.length), (9, vi i), (16, .bool true), (20, .bool b31)], by kernel_rfl, ?_⟩
     refine RL.run (j := 10) 2 [0, 2, 7, 8, 9, 22] [(0, .func (.yield l) #[] #[]), (2, pt b2 0), (7, .slice B outs.length cb), (8, vi outs.length), (9, vi i), (22, .bool (!b31))] (by kernel_rfl) rfl ?_
     refine RL.k rfl hK24 (fun _ _ h => h) ?_
     rcases (Bool.eq_false_or_eq_true b31).symm with hb36 | hb36
     · skip
       refine RG.eq (M' := [(0, .func (.yield l) #[] #[]), (2, pt b2 0), (7, .slice B outs.length cb), (8, vi outs.length), (9, vi i), (22, .bool true)]) (by first | (rw [hb36]; done) | (rw [hb36]; rfl)) ?_
       have hJ37 := hyf33 hb36
       refine RG.yes rfl ?_
       refine RG.ret ?_
       intro F_ hF_ hM_
       refine hRet _ _ (postM_0 rfl  ?_ F_ hF_ hM_)
       exact ⟨⟨_, rfl⟩, .inr hJ37⟩
     · skip
       refine RG.eq (M' := [(0, .func (.yield l) #[] #[]), (2, pt b2 0), (7, .slice B outs.length cb), (8, vi outs.length), (9, vi i), (22, .bool false)]) (by first | (rw [hb36]; done) | (rw [hb36]; rfl)) ?_
       have hJ38 := hyt32 hb36
       refine RG.no rfl ?_
       refine RG.skipK hK10 (fun _ _ h => h) ?_
       refine RG.region (by kernel_rfl) ?_
       refine RL.run (j := 2) 2 [0, 2, 7, 8, 9] [(0, .func (.yield l) #[] #[]), (2, pt b2 0), (7, .slice B outs.length cb), (8, vi outs.length), (9, li (IntKind.i64.wrap ((i : Int) + 1)))] (by kernel_rfl) rfl ?_
       have e39 : (IntKind.i64.wrap ((i : Int) + 1)) = ((i + 1 : Nat) : Int) := by rw [in_i64 (by omega)]; omega
       rw [e39]
       clear e39
       refine RL.fit (ts := [0, 2, 7, 8, 9]) (M' := [(0, .func (.yield l) #[] #[]), (2, pt b2 0), (7, .slice B outs.length cb), (8, vi outs.length), (9, vi (i + 1))]) (by kernel_rfl) ?_
       refine RL.eq (M' := [(0, .func (.yield l) #[] #[]), (2, pt b2 0), (7, .slice B outs.length cb), (8, vi outs.length), (9, vi (i + 1))]) (by rfl) ?_
       exact RL.again (i + 1) [0, 2, 7, 8, 9] rfl (by kernel_rfl) (by show outs.length - (i + 1) < outs.length - i; omega) ⟨by omega, by rw [sel_yes hx14 hb28]; exact hJ38⟩
theorem PaysA_calls (v : Nat) (ins : List TIn) (A : Option Addr) (ca : Nat) (outs : List TOut) (B : Option Addr) (cb : Nat) (lt : Nat) (a : List UInt8) (pa : Nat) (w : World) (hv : v < 4294967296) (hlt : lt < 4294967296) (hIns : RdS w A (insC ins)) (hI : ∀ x ∈ ins, x.Ok w []) (hOuts : RdS w B (outsC outs)) (hO : ∀ x ∈ outs, x.Ok w []) (hni : ins.length ≤ maxLen) (hno : outs.length ≤ maxLen) (hsh : ∀ x ∈ outs, x.lb.length ≤ 600) (ha : a.length = 20) (hpb : Blk w pa (by8 a) 28) : Calls Try.prog 26 #[.agg #[.int .u32 (v : Int), .slice A ins.length ca, .slice B outs.length cb, .int .u32 (lt : Int)], .func (.func 27) #[] #[pt pa 0]] w fun e w' => e = .returned (.tuple #[.int .u64 (((tot (payL (toA a) outs) 0).2 : Nat) : Int), .int .i64 (((tot (payL (toA a) outs) 0).1 : Nat) : Int)]) ∧ Hp w [] [] w' := by
 refine calls_G (args := [.agg #[vw v, .slice A ins.length ca, .slice B outs.length cb, vw lt], .func (.func 27) #[] #[pt pa 0]]) Try.func26 rfl Try.ntmps26 rfl ?_
 intro Q0 hRet hNor hPan
 have H := Hp.start w
 refine G.sr fun K1 hK2 => ?_
 obtain ⟨p3, w4, r5, H6⟩ := H.box (P := Try.prog) 26 [vw v, .slice A ins.length ca, .slice B outs.length cb, vw lt] (.agg #[vw v, .slice A ins.length ca, .slice B outs.length cb, vw lt]) rfl
 refine GL.s 1 (r5) [(1, .func (.func 27) #[] #[pt pa 0]), (2, pt p3 0)] ?_
 obtain ⟨p7, w8, r9, H10⟩ := H6.box (P := Try.prog) 77 [.func (.func 27) #[] #[pt pa 0]] (.func (.func 27) #[] #[pt pa 0]) rfl
 refine GL.s 2 (r9) [(2, pt p3 0), (3, pt p7 0)] ?_
 refine GL.r 4 2 [(2, pt p3 0), (3, pt p7 0)] ?_
 refine GL.q hK2 ?_
 refine G.sr fun K11 hK12 => ?_
 refine GL.r 1 1 [(6, .func (.func 55) #[] #[pt p3 0, pt p7 0])] ?_
 refine GL.call (j := 2) (Total_calls (payL (toA a) outs) (payL_lt hO) 55 #[pt p3 0, pt p7 0] (fun W => W.cell? ⟨p3, 2, none⟩ = some (.slice B outs.length cb) ∧ W.cell? ⟨p7, 0, none⟩ = some (.func (.func 27) #[] #[pt pa 0]) ∧ RdS W B (outsC outs) ∧ (∀ x ∈ outs, x.Ok W []) ∧ Blk W pa (by8 a) 28) (enters_of Try.func55 (by kernel_rfl) rfl) (by have h_ := paysA_iter outs B cb hsh hno a ha pa p3 p7; rw [← payL_length] at h_; exact h_) w8 (fun W hb_ => ⟨(hb_.cell (H10.blkAt 0 rfl).lt).trans ((H10.blkAt 0 rfl).cell 2), (hb_.cell (H10.blkAt 1 rfl).lt).trans ((H10.blkAt 1 rfl).cell 0), hOuts.hp (H10.step hb_), oksO_mid hO (H10.step hb_), hpb.old (H10.step hb_)⟩)) (by kernel_rfl) rfl (fun e_ w15 hR => ?_)
 obtain ⟨rfl, H14⟩ := hR
 have H13 : Hp w [] [.blk p3 [vw v, .slice A ins.length ca, .slice B outs.length cb, vw lt] 26, .blk p7 [.func (.func 27) #[] #[pt pa 0]] 77] w15 := H10.callNil H14
 refine ⟨_, rfl, [7], [(7, .tuple #[vu ((tot (payL (toA a) outs) 0).2), vi ((tot (payL (toA a) outs) 0).1)])], by kernel_rfl, ?_⟩
 refine GL.r 6 4 [(4, vu ((tot (payL (toA a) outs) 0).2)), (5, vi ((tot (payL (toA a) outs) 0).1))] ?_
 refine GL.q hK12 ?_
 refine G.ret fun F_ hF_ hM_ => hRet _ _ (bodyPost_2 rfl (RV.tmp rfl) (RV.tmp rfl) ?_ F_ hF_ hM_)
 exact ⟨rfl, H13.sub (List.nil_sublist _)⟩
theorem Paid_calls (v : Nat) (ins : List TIn) (A : Option Addr) (ca : Nat) (outs : List TOut) (B : Option Addr) (cb : Nat) (lt : Nat) (a : List UInt8) (w : World) (hv : v < 4294967296) (hlt : lt < 4294967296) (hIns : RdS w A (insC ins)) (hI : ∀ x ∈ ins, x.Ok w []) (hOuts : RdS w B (outsC outs)) (hO : ∀ x ∈ outs, x.Ok w []) (hni : ins.length ≤ maxLen) (hno : outs.length ≤ maxLen) (hsh : ∀ x ∈ outs, x.lb.length ≤ 600) (ha : a.length = 20) : Calls Try.prog 9 #[.agg #[.int .u32 (v : Int), .slice A ins.length ca, .slice B outs.length cb, .int .u32 (lt : Int)], .agg (by8 a).toArray] w fun e w' => e = .returned (.tuple #[.int .u64 (((tot (payL (toA a) outs) 0).2 : Nat) : Int), .int .i64 (((tot (payL (toA a) outs) 0).1 : Nat) : Int)]) ∧ Hp w [] [] w' := by
 refine calls_G (args := [.agg #[vw v, .slice A ins.length ca, .slice B outs.length cb, vw lt], .agg (by8 a).toArray]) Try.func9 rfl Try.ntmps9 rfl ?_
 intro Q0 hRet hNor hPan
 have H := Hp.start w
 refine G.sr fun K1 hK2 => ?_
 obtain ⟨p3, w4, r5, H6⟩ := H.box (P := Try.prog) 26 [vw v, .slice A ins.length ca, .slice B outs.length cb, vw lt] (.agg #[vw v, .slice A ins.length ca, .slice B outs.length cb, vw lt]) rfl
 refine GL.s 1 (r5) [(1, .agg (by8 a).toArray), (2, pt p3 0)] ?_
 obtain ⟨p7, w8, r9, H10⟩ := H6.box (P := Try.prog) 28 (by8 a) (.agg (by8 a).toArray) rfl
 refine GL.s 2 (r9) [(2, pt p3 0), (3, pt p7 0)] ?_
 refine GL.r 4 2 [(2, pt p3 0), (3, pt p7 0)] ?_
 refine GL.q hK2 ?_
 refine G.sr fun K11 hK12 => ?_
 refine GL.s 1 (H10.ldA (o := 0) (ty := 26) (m := 4) (sub := [vw v, .slice A ins.length ca, .slice B outs.length cb, vw lt]) 0 rfl (by kernel_rfl) rfl rfl) [(3, pt p7 0), (6, .agg #[vw v, .slice A ins.length ca, .slice B outs.length cb, vw lt])] ?_
 refine GL.r 2 1 [(6, .agg #[vw v, .slice A ins.length ca, .slice B outs.length cb, vw lt]), (7, .func (.func 27) #[] #[pt p7 0])] ?_
 refine GL.call (j := 3) (PaysA_calls v ins A ca outs B cb lt a p7 w8 hv hlt (hIns.hp H10) (oks_mid hI H10) (hOuts.hp H10) (oksO_mid hO H10) hni hno hsh ha (H10.blkAt 1 rfl)) (by kernel_rfl) rfl (fun e_ w13 hR => ?_)
 obtain ⟨rfl, H15⟩ := hR
 have H14 : Hp w [] [.blk p3 [vw v, .slice A ins.length ca, .slice B outs.length cb, vw lt] 26, .blk p7 (by8 a) 28] w13 := H10.callNil H15
 refine ⟨_, rfl, [8], [(8, .tuple #[vu ((tot (payL (toA a) outs) 0).2), vi ((tot (payL (toA a) outs) 0).1)])], by kernel_rfl, ?_⟩
 refine GL.r 7 4 [(4, vu ((tot (payL (toA a) outs) 0).2)), (5, vi ((tot (payL (toA a) outs) 0).1))] ?_
 refine GL.q hK12 ?_
 refine G.ret fun F_ hF_ hM_ => hRet _ _ (bodyPost_2 rfl (RV.tmp rfl) (RV.tmp rfl) ?_ F_ hF_ hM_)
 exact ⟨rfl, H14.sub (List.nil_sublist _)⟩
end Go.Proofs.Ytcedmbdahbdmaaa
set_option maxRecDepth 100000
namespace Go.Proofs.Ytcedmbdahbdmaaa
open Go.RowKit
def txF (ins : List TIn) (outs : List TOut) : Bool := decide (ins.length ≤ 70 ∧ outs.length ≤ 70 ∧ (∀ x ∈ ins, x.kb.length ≤ 600) ∧ ∀ x ∈ outs, x.lb.length ≤ 600)
theorem Few_calls (v : Nat) (ins : List TIn) (A : Option Addr) (ca : Nat) (outs : List TOut) (B : Option Addr) (cb : Nat) (lt : Nat) (w : World) (hv : v < 4294967296) (hlt : lt < 4294967296) (hIns : RdS w A (insC ins)) (hI : ∀ x ∈ ins, x.Ok w []) (hOuts : RdS w B (outsC outs)) (hO : ∀ x ∈ outs, x.Ok w []) (hni : ins.length ≤ maxLen) (hno : outs.length ≤ maxLen) : Calls Try.prog 8 #[.agg #[.int .u32 (v : Int), .slice A ins.length ca, .slice B outs.length cb, .int .u32 (lt : Int)]] w fun e w' => e = .returned (.bool (txF ins outs)) ∧ Hp w [] [] w' := by
 have hni_ : ins.length ≤ 9223372036854775807 := hni
 have hno_ : outs.length ≤ 9223372036854775807 := hno
 refine calls_G (args := [.agg #[vw v, .slice A ins.length ca, .slice B outs.length cb, vw lt]]) Try.func8 rfl Try.ntmps8 rfl ?_
 intro Q0 hRet hNor hPan
 have H := Hp.start w
 refine G.sr fun K1 hK2 => ?_
 obtain ⟨p3, w4, r5, H6⟩ := H.box (P := Try.prog) 26 [vw v, .slice A ins.length ca, .slice B outs.length cb, vw lt] (.agg #[vw v, .slice A ins.length ca, .slice B outs.length cb, vw lt]) rfl
 refine GL.s 1 (r5) [(1, pt p3 0)] ?_
 refine GL.r 2 1 [(1, pt p3 0)] ?_
 refine GL.q hK2 ?_
 refine G.seqK fun K7 hK8 => ?_
 refine G.sr fun K9 hK10 => ?_
 refine GL.r 1 1 [(1, pt p3 0), (7, pt p3 1)] ?_
 refine GL.s 2 (H6.ld (o := 1) (ty := 23) (v := .slice A ins.length ca) 0 rfl (by kernel_rfl) rfl) [(1, pt p3 0), (8, .slice A ins.length ca)] ?_
 refine GL.r 5 3 [(1, pt p3 0), (11, .bool (decide (70 < (ins.length : Int))))] ?_
 cases hb11 : (decide (70 < (ins.length : Int)))
 · skip
   have hb11f := of_decide_eq_false hb11
   refine GL.r 6 1 [(1, pt p3 0), (11, .bool false), (12, pt p3 2)] ?_
   refine GL.s 7 (H6.ld (o := 2) (ty := 24) (v := .slice B outs.length cb) 0 rfl (by kernel_rfl) rfl) [(1, pt p3 0), (11, .bool false), (13, .slice B outs.length cb)] ?_
   refine GL.r 10 3 [(1, pt p3 0), (16, .bool (decide (70 < (outs.length : Int))))] ?_
   refine GL.q hK10 ?_
   cases hb12 : (decide (70 < (outs.length : Int)))
   · skip
     have hb12f := of_decide_eq_false hb12
     refine G.no rfl ?_
     refine G.skipK hK8 (fun _ _ h => h) ?_
     refine G.seqK fun K13 hK14 => ?_
     refine G.sr fun K15 hK16 => ?_
     refine GL.r 1 1 [(1, pt p3 0), (17, pt p3 1)] ?_
     refine GL.s 2 (H6.ld (o := 1) (ty := 23) (v := .slice A ins.length ca) 0 rfl (by kernel_rfl) rfl) [(1, pt p3 0), (18, .slice A ins.length ca)] ?_
     refine GL.r 4 2 [(1, pt p3 0), (18, .slice A ins.length ca), (19, vi ins.length), (20, li 0)] ?_
     refine GL.q hK16 ?_
     refine G.block ?_
     refine G.fit [1, 18, 19, 20] (M' := [(1, pt p3 0), (18, .slice A ins.length ca), (19, vi ins.length), (20, li 0)]) (by kernel_rfl) ?_
     refine G.loop (X := Nat) (fun i => [(1, pt p3 0), (18, .slice A ins.length ca), (19, vi ins.length), (20, vi i)]) (fun i w_ => (i ≤ ins.length ∧ (∀ y ∈ ins.take i, y.kb.length ≤ 600)) ∧ Hp w [] [.blk p3 [vw v, .slice A ins.length ca, .slice B outs.length cb, vw lt] 26] w_) (fun i => ins.length - i) 0 [1, 18, 19, 20] (by kernel_rfl) ⟨⟨Nat.zero_le _, fun y hy => by simp at hy⟩, H6⟩ ?_
     rintro i w17 ⟨hi18, H19⟩
     refine G.eq (M' := [(1, pt p3 0), (18, .slice A ins.length ca), (19, vi ins.length), (20, vi i)]) rfl ?_
     obtain ⟨hil, hia⟩ := hi18
     refine G.sr fun K20 hK21 => ?_
     refine GL.r 1 1 [(1, pt p3 0), (18, .slice A ins.length ca), (19, vi ins.length), (20, vi i), (21, .bool (decide ((i : Int) < (ins.length : Int))))] ?_
     refine GL.q hK21 ?_
     refine G.seqK fun K22 hK23 => ?_
     cases hb24 : (decide ((i : Int) < (ins.length : Int)))
     · skip
       have hb24f := of_decide_eq_false hb24
       refine G.no rfl ?_
       refine G.exitK hK14 (fun _ _ h => h) ?_
       refine G.seqK fun K25 hK26 => ?_
       refine G.sr fun K27 hK28 => ?_
       refine GL.r 1 1 [(29, pt p3 2)] ?_
       refine GL.s 2 (H19.ld (o := 2) (ty := 24) (v := .slice B outs.length cb) 0 rfl (by kernel_rfl) rfl) [(30, .slice B outs.length cb)] ?_
       refine GL.r 4 2 [(30, .slice B outs.length cb), (31, vi outs.length), (32, li 0)] ?_
       refine GL.q hK28 ?_
       refine G.block ?_
       have hall1 := take_done hia (by omega)
       refine G.fit [30, 31, 32] (M' := [(30, .slice B outs.length cb), (31, vi outs.length), (32, li 0)]) (by kernel_rfl) ?_
       refine G.loop (X := Nat) (fun j => [(30, .slice B outs.length cb), (31, vi outs.length), (32, vi j)]) (fun j w_ => (j ≤ outs.length ∧ (∀ y ∈ outs.take j, y.lb.length ≤ 600)) ∧ Hp w [] [.blk p3 [vw v, .slice A ins.length ca, .slice B outs.length cb, vw lt] 26] w_) (fun j => outs.length - j) 0 [30, 31, 32] (by kernel_rfl) ⟨⟨Nat.zero_le _, fun y hy => by simp at hy⟩, H19⟩ ?_
       rintro j w29 ⟨hi30, H31⟩
       refine G.eq (M' := [(30, .slice B outs.length cb), (31, vi outs.length), (32, vi j)]) rfl ?_
       obtain ⟨hjl, hja⟩ := hi30
       refine G.sr fun K32 hK33 => ?_
       refine GL.r 1 1 [(30, .slice B outs.length cb), (31, vi outs.length), (32, vi j), (33, .bool (decide ((j : Int) < (outs.length : Int))))] ?_
       refine GL.q hK33 ?_
       refine G.seqK fun K34 hK35 => ?_
       cases hb36 : (decide ((j : Int) < (outs.length : Int)))
       · skip
         have hb36f := of_decide_eq_false hb36
         refine G.no rfl ?_
         refine G.exitK hK26 (fun _ _ h => h) ?_
         refine G.sr fun K37 hK38 => ?_
         refine GL.r 1 1 [(2, .bool true)] ?_
         refine GL.q hK38 ?_
         refine G.ret fun F_ hF_ hM_ => hRet _ _ (bodyPost_1 rfl (RV.tmp rfl) ?_ F_ hF_ hM_)
         have e0 : txF ins outs = true := decide_eq_true ⟨by omega, by omega, hall1, take_done hja (by omega)⟩
         rw [e0]
         exact ⟨rfl, H31.sub (List.nil_sublist _)⟩
       · skip
         have hb36f := of_decide_eq_true hb36
         refine G.yes rfl ?_
         refine G.skipK hK35 (fun _ _ h => h) ?_
         refine G.seqK fun K39 hK40 => ?_
         refine G.block ?_
         refine G.sr fun K41 hK42 => ?_
         obtain ⟨x43, hx44⟩ : ∃ x, outs[j]? = some x := ⟨_, List.getElem?_eq_getElem (by omega)⟩
         have hok45 := hO x43 (List.mem_of_getElem? hx44)
         refine GL.s 1 (run_idxRdN (P := Try.prog) (k := .i64) (t := 24) (sz := 2) (A := B) (len := outs.length) (cap := cb) (j := j) (by kernel_rfl) rfl (hOuts.hp H31) (outsC_length _) (by decide) (by omega)) [(30, .slice B outs.length cb), (31, vi outs.length), (32, vi j), (34, .pointer (Option.map (fun x => Addr.add x (j * 2)) B))] ?_
         refine GL.s 2 (run_ldRdA (P := Try.prog) (ty := 40) (A := B) (o := (j * 2)) (m := 2) (sub := [vu x43.pv, .slice x43.B x43.lb.length x43.lc]) (by kernel_rfl) (hOuts.hp H31) (outsC_cut hx44) (rfl) (by decide)) [(30, .slice B outs.length cb), (31, vi outs.length), (32, vi j), (35, .agg #[vu x43.pv, .slice x43.B x43.lb.length x43.lc])] ?_
         obtain ⟨p46, w47, r48, H49⟩ := H31.alloc (P := Try.prog) 40 [lu 0, .slice none 0 0] (by kernel_rfl)
         refine GL.s 3 (r48) [(6, pt p46 0), (30, .slice B outs.length cb), (31, vi outs.length), (32, vi j), (35, .agg #[vu x43.pv, .slice x43.B x43.lb.length x43.lc])] ?_
         obtain ⟨w50, r51, H52⟩ := H49.stA (P := Try.prog) (o := 0) (vs := [vu x43.pv, .slice x43.B x43.lb.length x43.lc]) (ty := 40) (m := 2) 1 rfl (by kernel_rfl) rfl (by simp) (by simp [Value.oneCell'])
         refine GL.u 4 r51 [(6, pt p46 0), (30, .slice B outs.length cb), (31, vi outs.length), (32, vi j)] ?_
         refine GL.q hK42 ?_
         refine G.sr fun K53 hK54 => ?_
         refine GL.r 1 1 [(30, .slice B outs.length cb), (31, vi outs.length), (32, vi j), (36, pt p46 1)] ?_
         refine GL.s 2 (H52.ld (o := 1) (ty := 38) (v := .slice x43.B x43.lb.length x43.lc) 1 rfl (by kernel_rfl) rfl) [(30, .slice B outs.length cb), (31, vi outs.length), (32, vi j), (37, .slice x43.B x43.lb.length x43.lc)] ?_
         refine GL.r 4 2 [(30, .slice B outs.length cb), (31, vi outs.length), (32, vi j), (39, .bool (decide (600 < (x43.lb.length : Int))))] ?_
         refine GL.q hK54 ?_
         cases hb55 : (decide (600 < (x43.lb.length : Int)))
         · skip
           have hb55f := of_decide_eq_false hb55
           refine G.no rfl ?_
           refine G.skipK hK40 (fun _ _ h => h) ?_
           refine G.region ?_
           refine GL.r 2 2 [(30, .slice B outs.length cb), (31, vi outs.length), (32, li (IntKind.i64.wrap ((j : Int) + 1)))] ?_
           have e56 : (IntKind.i64.wrap ((j : Int) + 1)) = ((j + 1 : Nat) : Int) := by rw [in_i64 (by omega)]; omega
           rw [e56]
           clear e56
           have H57 : Hp w [] [.blk p3 [vw v, .slice A ins.length ca, .slice B outs.length cb, vw lt] 26] w50 := H52.sub (List.Sublist.cons_cons _ (List.Sublist.cons _ (List.Sublist.slnil)))
           refine GL.fit (ts := [30, 31, 32]) (M' := [(30, .slice B outs.length cb), (31, vi outs.length), (32, vi (j + 1))]) (by kernel_rfl) ?_
           refine GL.eq (M' := [(30, .slice B outs.length cb), (31, vi outs.length), (32, vi (j + 1))]) (by rfl) ?_
           exact GL.again (j + 1) [30, 31, 32] rfl (by kernel_rfl) (by show outs.length - (j + 1) < outs.length - j; omega) ⟨⟨by omega, take_all hja hx44 (by omega)⟩, H57⟩
         · skip
           have hb55f := of_decide_eq_true hb55
           refine G.yes rfl ?_
           refine G.sr fun K58 hK59 => ?_
           refine GL.r 1 1 [(2, .bool false)] ?_
           refine GL.q hK59 ?_
           refine G.ret fun F_ hF_ hM_ => hRet _ _ (bodyPost_1 rfl (RV.tmp rfl) ?_ F_ hF_ hM_)
           have e0 : txF ins outs = false := decide_eq_false fun h => by have := h.2.2.2 x43 (List.mem_of_getElem? hx44); omega
           rw [e0]
           exact ⟨rfl, H52.sub (List.nil_sublist _)⟩
     · skip
       have hb24f := of_decide_eq_true hb24
       refine G.yes rfl ?_
       refine G.skipK hK23 (fun _ _ h => h) ?_
       refine G.seqK fun K60 hK61 => ?_
       refine G.block ?_
       refine G.sr fun K62 hK63 => ?_
       obtain ⟨x64, hx65⟩ : ∃ x, ins[i]? = some x := ⟨_, List.getElem?_eq_getElem (by omega)⟩
       have hok66 := hI x64 (List.mem_of_getElem? hx65)
       refine GL.s 1 (run_idxRdN (P := Try.prog) (k := .i64) (t := 23) (sz := 35) (A := A) (len := ins.length) (cap := ca) (j := i) (by kernel_rfl) rfl (hIns.hp H19) (insC_length (fun x_ h_ => (hI x_ h_).1)) (by decide) (by omega)) [(1, pt p3 0), (18, .slice A ins.length ca), (19, vi ins.length), (20, vi i), (22, .pointer (Option.map (fun x => Addr.add x (i * 35)) A))] ?_
       refine GL.s 2 (run_ldRdA (P := Try.prog) (ty := 53) (A := A) (o := (i * 35)) (m := 35) (sub := x64.cells) (by kernel_rfl) (hIns.hp H19) (insC_cut (fun x_ h_ => (hI x_ h_).1) hx65) (TIn.cells_length hok66.1) (by decide)) [(1, pt p3 0), (18, .slice A ins.length ca), (19, vi ins.length), (20, vi i), (23, .agg (x64.cells).toArray)] ?_
       obtain ⟨p67, w68, r69, H70⟩ := H19.alloc (P := Try.prog) 53 (TIn.nil.cells) (by kernel_rfl)
       refine GL.s 3 (r69) [(1, pt p3 0), (4, pt p67 0), (18, .slice A ins.length ca), (19, vi ins.length), (20, vi i), (23, .agg (x64.cells).toArray)] ?_
       obtain ⟨w71, r72, H73⟩ := H70.stA (P := Try.prog) (o := 0) (vs := x64.cells) (ty := 53) (m := 35) 1 rfl (by kernel_rfl) (TIn.cells_length hok66.1) (by rw [Nat.zero_add, TIn.cells_length rfl]; exact Nat.le_refl _) TIn.cells_one
       rw [tx_whole (TIn.cells_length rfl)] at H73
       refine GL.u 4 r72 [(1, pt p3 0), (4, pt p67 0), (18, .slice A ins.length ca), (19, vi ins.length), (20, vi i)] ?_
       refine GL.q hK63 ?_
       refine G.sr fun K74 hK75 => ?_
       refine GL.r 1 1 [(1, pt p3 0), (18, .slice A ins.length ca), (19, vi ins.length), (20, vi i), (24, pt p67 33)] ?_
       refine GL.s 2 (H73.ld (o := 33) (ty := 38) (v := .slice x64.B x64.kb.length x64.kc) 1 rfl (by kernel_rfl) (TIn.cells_key hok66.1)) [(1, pt p3 0), (18, .slice A ins.length ca), (19, vi ins.length), (20, vi i), (25, .slice x64.B x64.kb.length x64.kc)] ?_
       refine GL.r 4 2 [(1, pt p3 0), (18, .slice A ins.length ca), (19, vi ins.length), (20, vi i), (27, .bool (decide (600 < (x64.kb.length : Int))))] ?_
       refine GL.q hK75 ?_
       cases hb76 : (decide (600 < (x64.kb.length : Int)))
       · skip
         have hb76f := of_decide_eq_false hb76
         refine G.no rfl ?_
         refine G.skipK hK61 (fun _ _ h => h) ?_
         refine G.region ?_
         refine GL.r 2 2 [(1, pt p3 0), (18, .slice A ins.length ca), (19, vi ins.length), (20, li (IntKind.i64.wrap ((i : Int) + 1)))] ?_
         have e77 : (IntKind.i64.wrap ((i : Int) + 1)) = ((i + 1 : Nat) : Int) := by rw [in_i64 (by omega)]; omega
         rw [e77]
         clear e77
         have H78 : Hp w [] [.blk p3 [vw v, .slice A ins.length ca, .slice B outs.length cb, vw lt] 26] w71 := H73.sub (List.Sublist.cons_cons _ (List.Sublist.cons _ (List.Sublist.slnil)))
         refine GL.fit (ts := [1, 18, 19, 20]) (M' := [(1, pt p3 0), (18, .slice A ins.length ca), (19, vi ins.length), (20, vi (i + 1))]) (by kernel_rfl) ?_
         refine GL.eq (M' := [(1, pt p3 0), (18, .slice A ins.length ca), (19, vi ins.length), (20, vi (i + 1))]) (by rfl) ?_
         exact GL.again (i + 1) [1, 18, 19, 20] rfl (by kernel_rfl) (by show ins.length - (i + 1) < ins.length - i; omega) ⟨⟨by omega, take_all hia hx65 (by omega)⟩, H78⟩
       · skip
         have hb76f := of_decide_eq_true hb76
         refine G.yes rfl ?_
         refine G.sr fun K79 hK80 => ?_
         refine GL.r 1 1 [(2, .bool false)] ?_
         refine GL.q hK80 ?_
         refine G.ret fun F_ hF_ hM_ => hRet _ _ (bodyPost_1 rfl (RV.tmp rfl) ?_ F_ hF_ hM_)
         have e0 : txF ins outs = false := decide_eq_false fun h => by have := h.2.2.1 x64 (List.mem_of_getElem? hx65); omega
         rw [e0]
         exact ⟨rfl, H73.sub (List.nil_sublist _)⟩
   · skip
     have hb12f := of_decide_eq_true hb12
     refine G.yes rfl ?_
     refine G.sr fun K81 hK82 => ?_
     refine GL.r 1 1 [(2, .bool false)] ?_
     refine GL.q hK82 ?_
     refine G.ret fun F_ hF_ hM_ => hRet _ _ (bodyPost_1 rfl (RV.tmp rfl) ?_ F_ hF_ hM_)
     have e0 : txF ins outs = false := decide_eq_false fun h => by omega
     rw [e0]
     exact ⟨rfl, H6.sub (List.nil_sublist _)⟩
 · skip
   have hb11f := of_decide_eq_true hb11
   refine GL.r 10 5 [(1, pt p3 0), (16, .bool true)] ?_
   refine GL.q hK10 ?_
   refine G.yes rfl ?_
   refine G.sr fun K83 hK84 => ?_
   refine GL.r 1 1 [(2, .bool false)] ?_
   refine GL.q hK84 ?_
   refine G.ret fun F_ hF_ hM_ => hRet _ _ (bodyPost_1 rfl (RV.tmp rfl) ?_ F_ hF_ hM_)
   have e0 : txF ins outs = false := decide_eq_false fun h => by omega
   rw [e0]
   exact ⟨rfl, H6.sub (List.nil_sublist _)⟩
end Go.Proofs.Ytcedmbdahbdmaaa
set_option maxRecDepth 100000
namespace Go.Proofs.Ytcedmbdahbdmaaa
open Go.RowKit
abbrev lz3 : List UInt8 := [118, 169, 20, 0, 0, 0, 0, 0, 0, 0, 0, 0, 0, 0, 0, 0, 0, 0, 0, 0, 0, 0, 0, 136, 172]
theorem lives_calls (w : World) : Calls Try.prog 7 #[] w fun e w' => e = .returned (.bool true) ∧ Hp w [] [] w' := by
 refine calls_G (args := []) Try.func7 rfl Try.ntmps7 rfl ?_
 intro Q0 hRet hNor hPan
 have H := Hp.start w
 refine G.sr fun K1 hK2 => ?_
 refine GL.r 1 1 [] ?_
 refine GL.q hK2 ?_
 refine G.sr fun K3 hK4 => ?_
 refine GL.r 1 1 [(9, .agg #[li 1, lb 0, lb 0, lb 0, lb 0, lb 0, lb 0, lb 0, lb 0, lb 0, lb 0, lb 0, lb 0, lb 0, lb 0, lb 0, lb 0, lb 0, lb 0, lb 0, lb 0, .slice none 0 0])] ?_
 refine GL.call (j := 2) (Bytes_addr (0 : UInt8) (0 : UInt8) (0 : UInt8) (0 : UInt8) (0 : UInt8) (0 : UInt8) (0 : UInt8) (0 : UInt8) (0 : UInt8) (0 : UInt8) (0 : UInt8) (0 : UInt8) (0 : UInt8) (0 : UInt8) (0 : UInt8) (0 : UInt8) (0 : UInt8) (0 : UInt8) (0 : UInt8) (0 : UInt8) none 0 0 w) (by kernel_rfl) rfl (fun e_ w9 hR => ?_)
 obtain ⟨A5, c6, rfl, H8⟩ := hR
 have H7 : Hp w [] [.row A5 (lz3.length) c6 5 1 (by8 lz3)] w9 := H.callNew H8
 refine ⟨_, rfl, [10], [(10, .tuple #[.slice A5 (lz3.length) c6, li 0])], by kernel_rfl, ?_⟩
 refine GL.r 7 5 [(1, .slice A5 (lz3.length) c6), (2, li 0)] ?_
 refine GL.q hK4 ?_
 refine G.sr fun K10 hK11 => ?_
 refine GL.r 1 1 [(1, .slice A5 (lz3.length) c6), (2, li 0), (13, .agg #[lb 0, lb 0, lb 0, lb 0, lb 0, lb 0, lb 0, lb 0, lb 0, lb 0, lb 0, lb 0, lb 0, lb 0, lb 0, lb 0, lb 0, lb 0, lb 0, lb 0, lb 0, lb 0, lb 0, lb 0, lb 0, lb 0, lb 0, lb 0, lb 0, lb 0, lb 0, lb 0, lw 0, .slice none 0 0, lw 0])] ?_
 obtain ⟨p12, w13, r14, H15⟩ := H7.made (P := Try.prog) (Instr.buildSlice 23 1 #[(0, .agg #[lb 0, lb 0, lb 0, lb 0, lb 0, lb 0, lb 0, lb 0, lb 0, lb 0, lb 0, lb 0, lb 0, lb 0, lb 0, lb 0, lb 0, lb 0, lb 0, lb 0, lb 0, lb 0, lb 0, lb 0, lb 0, lb 0, lb 0, lb 0, lb 0, lb 0, lb 0, lb 0, lw 0, .slice none 0 0, lw 0])]) (fun b_ => .slice (some ⟨b_, 0, none⟩) 1 1) [lb 0, lb 0, lb 0, lb 0, lb 0, lb 0, lb 0, lb 0, lb 0, lb 0, lb 0, lb 0, lb 0, lb 0, lb 0, lb 0, lb 0, lb 0, lb 0, lb 0, lb 0, lb 0, lb 0, lb 0, lb 0, lb 0, lb 0, lb 0, lb 0, lb 0, lb 0, lb 0, lw 0, .slice none 0 0, lw 0] 53 (by kernel_rfl)
 refine GL.s 2 (r14) [(1, .slice A5 (lz3.length) c6), (2, li 0), (14, .slice (some ⟨p12, 0, none⟩) 1 1)] ?_
 refine GL.r 4 2 [(2, li 0), (14, .slice (some ⟨p12, 0, none⟩) 1 1), (16, .agg #[lu 5, .slice A5 (lz3.length) c6])] ?_
 obtain ⟨p16, w17, r18, H19⟩ := H15.made (P := Try.prog) (Instr.buildSlice 24 1 #[(0, .agg #[lu 5, .slice A5 (lz3.length) c6])]) (fun b_ => .slice (some ⟨b_, 0, none⟩) 1 1) [lu 5, .slice A5 (lz3.length) c6] 40 (by kernel_rfl)
 refine GL.s 5 (r18) [(2, li 0), (14, .slice (some ⟨p12, 0, none⟩) 1 1), (17, .slice (some ⟨p16, 0, none⟩) 1 1)] ?_
 refine GL.r 6 1 [(2, li 0), (18, .agg #[lw 0, .slice (some ⟨p12, 0, none⟩) 1 1, .slice (some ⟨p16, 0, none⟩) 1 1, lw 0])] ?_
 obtain ⟨p20, w21, r22, H23⟩ := H19.alloc (P := Try.prog) 26 [lw 0, .slice none 0 0, .slice none 0 0, lw 0] (by kernel_rfl)
 refine GL.s 7 (r22) [(2, li 0), (3, pt p20 0), (18, .agg #[lw 0, .slice (some ⟨p12, 0, none⟩) 1 1, .slice (some ⟨p16, 0, none⟩) 1 1, lw 0])] ?_
 obtain ⟨w24, r25, H26⟩ := H23.stA (P := Try.prog) (o := 0) (vs := [lw 0, .slice (some ⟨p12, 0, none⟩) 1 1, .slice (some ⟨p16, 0, none⟩) 1 1, lw 0]) (ty := 26) (m := 4) 3 rfl (by kernel_rfl) rfl (by simp) (by simp [Value.oneCell'])
 refine GL.u 8 r25 [(2, li 0), (3, pt p20 0)] ?_
 refine GL.q hK11 ?_
 refine G.sr fun K27 hK28 => ?_
 refine GL.s 1 (H26.ldA (o := 0) (ty := 26) (m := 4) (sub := [lw 0, .slice (some ⟨p12, 0, none⟩) 1 1, .slice (some ⟨p16, 0, none⟩) 1 1, lw 0]) 3 rfl (by kernel_rfl) rfl rfl) [(2, li 0), (3, pt p20 0), (20, .agg #[lw 0, .slice (some ⟨p12, 0, none⟩) 1 1, .slice (some ⟨p16, 0, none⟩) 1 1, lw 0])] ?_
 have eE : txE 0 [TIn.nil] [⟨5, A5, lz3, c6⟩] 0 = 0 := by kernel_rfl
 have eL : (txO 0 [TIn.nil] [⟨5, A5, lz3, c6⟩] 0).length = 85 := by kernel_rfl
 refine GL.call (j := 2) (by have h_ := TBytes_calls 0 [TIn.nil] (some ⟨p12, 0, none⟩) 1 [⟨5, A5, lz3, c6⟩] (some ⟨p16, 0, none⟩) 1 0 w24 (by decide) (by decide) (H26.rdBlk (o := 0) (xs := insC [TIn.nil]) 1 35 rfl (by kernel_rfl)) (fun x hx => by simp only [List.mem_singleton] at hx; subst hx; exact ⟨rfl, by decide, by decide, fun _ _ _ => .inl rfl, by decide, by decide⟩) (H26.rdBlk (o := 0) (xs := outsC [⟨5, A5, lz3, c6⟩]) 2 2 rfl rfl) (fun x hx => by simp only [List.mem_singleton] at hx; subst hx; exact ⟨(show 5 < 18446744073709551616 by decide), RdO.row (A' := []) (B' := [.row A5 (lz3.length) c6 5 1 (by8 lz3), .blk p12 [lb 0, lb 0, lb 0, lb 0, lb 0, lb 0, lb 0, lb 0, lb 0, lb 0, lb 0, lb 0, lb 0, lb 0, lb 0, lb 0, lb 0, lb 0, lb 0, lb 0, lb 0, lb 0, lb 0, lb 0, lb 0, lb 0, lb 0, lb 0, lb 0, lb 0, lb 0, lb 0, lw 0, .slice none 0 0, lw 0] 53, .blk p16 [lu 5, .slice A5 (lz3.length) c6] 40, .blk p20 [lw 0, .slice (some ⟨p12, 0, none⟩) 1 1, .slice (some ⟨p16, 0, none⟩) 1 1, lw 0] 26]) H26 0 rfl, (H26.rowLe 0 rfl).1, (H26.rowLe 0 rfl).2.2⟩) (by decide) (show 1 ≤ maxLen by decide); rw [eE] at h_; exact h_) (by kernel_rfl) rfl (fun e_ w32 hR => ?_)
 obtain ⟨A29, n30, c31, rfl, H34⟩ := hR
 have H33 : Hp w [] [.row A5 (lz3.length) c6 5 1 (by8 lz3), .blk p12 [lb 0, lb 0, lb 0, lb 0, lb 0, lb 0, lb 0, lb 0, lb 0, lb 0, lb 0, lb 0, lb 0, lb 0, lb 0, lb 0, lb 0, lb 0, lb 0, lb 0, lb 0, lb 0, lb 0, lb 0, lb 0, lb 0, lb 0, lb 0, lb 0, lb 0, lb 0, lb 0, lw 0, .slice none 0 0, lw 0] 53, .blk p16 [lu 5, .slice A5 (lz3.length) c6] 40, .blk p20 [lw 0, .slice (some ⟨p12, 0, none⟩) 1 1, .slice (some ⟨p16, 0, none⟩) 1 1, lw 0] 26, .row A29 n30 c31 5 1 (by8 (txO 0 [TIn.nil] [⟨5, A5, lz3, c6⟩] 0))] w32 := H26.callNew H34
 have hl85 := (H33.rowLe 4 rfl).2.1
 rw [by8_length, Nat.mul_one, eL] at hl85
 refine ⟨_, rfl, [2, 3, 21], [(2, li 0), (3, pt p20 0), (21, .tuple #[.slice A29 n30 c31, li 0])], by kernel_rfl, ?_⟩
 refine GL.r 7 5 [(2, li 0), (3, pt p20 0), (4, .slice A29 n30 c31), (5, li 0)] ?_
 refine GL.q hK28 ?_
 refine G.sr fun K35 hK36 => ?_
 refine GL.s 1 (H33.ldA (o := 0) (ty := 26) (m := 4) (sub := [lw 0, .slice (some ⟨p12, 0, none⟩) 1 1, .slice (some ⟨p16, 0, none⟩) 1 1, lw 0]) 3 rfl (by kernel_rfl) rfl rfl) [(2, li 0), (4, .slice A29 n30 c31), (5, li 0), (25, .agg #[lw 0, .slice (some ⟨p12, 0, none⟩) 1 1, .slice (some ⟨p16, 0, none⟩) 1 1, lw 0])] ?_
 refine GL.r 2 1 [(2, li 0), (4, .slice A29 n30 c31), (5, li 0), (25, .agg #[lw 0, .slice (some ⟨p12, 0, none⟩) 1 1, .slice (some ⟨p16, 0, none⟩) 1 1, lw 0]), (26, .agg #[lb 0, lb 0, lb 0, lb 0, lb 0, lb 0, lb 0, lb 0, lb 0, lb 0, lb 0, lb 0, lb 0, lb 0, lb 0, lb 0, lb 0, lb 0, lb 0, lb 0])] ?_
 have eP : tot (payL (toA (List.replicate 20 0)) [⟨5, A5, lz3, c6⟩]) 0 = (0, 5) := by kernel_rfl
 refine GL.call (j := 3) ((by have h_ := Paid_calls 0 [TIn.nil] (some ⟨p12, 0, none⟩) 1 [⟨5, A5, lz3, c6⟩] (some ⟨p16, 0, none⟩) 1 0 (List.replicate 20 0) w32 (by decide) (by decide) (H33.rdBlk (o := 0) (xs := insC [TIn.nil]) 1 35 rfl (by kernel_rfl)) (fun x hx => by simp only [List.mem_singleton] at hx; subst hx; exact ⟨rfl, by decide, by decide, fun _ _ _ => .inl rfl, by decide, by decide⟩) (H33.rdBlk (o := 0) (xs := outsC [⟨5, A5, lz3, c6⟩]) 2 2 rfl rfl) (fun x hx => by simp only [List.mem_singleton] at hx; subst hx; exact ⟨(show 5 < 18446744073709551616 by decide), RdO.row (A' := []) (B' := [.row A5 (lz3.length) c6 5 1 (by8 lz3), .blk p12 [lb 0, lb 0, lb 0, lb 0, lb 0, lb 0, lb 0, lb 0, lb 0, lb 0, lb 0, lb 0, lb 0, lb 0, lb 0, lb 0, lb 0, lb 0, lb 0, lb 0, lb 0, lb 0, lb 0, lb 0, lb 0, lb 0, lb 0, lb 0, lb 0, lb 0, lb 0, lb 0, lw 0, .slice none 0 0, lw 0] 53, .blk p16 [lu 5, .slice A5 (lz3.length) c6] 40, .blk p20 [lw 0, .slice (some ⟨p12, 0, none⟩) 1 1, .slice (some ⟨p16, 0, none⟩) 1 1, lw 0] 26, .row A29 n30 c31 5 1 (by8 (txO 0 [TIn.nil] [⟨5, A5, lz3, c6⟩] 0))]) H33 0 rfl, (H33.rowLe 0 rfl).1, (H33.rowLe 0 rfl).2.2⟩) (by decide) (show 1 ≤ maxLen by decide) (fun x hx => by simp only [List.mem_singleton] at hx; subst hx; exact (show 25 ≤ 600 by decide)) rfl; rw [eP] at h_; exact h_)) (by kernel_rfl) rfl (fun e_ w37 hR => ?_)
 obtain ⟨rfl, H39⟩ := hR
 have H38 : Hp w [] [.row A5 (lz3.length) c6 5 1 (by8 lz3), .blk p12 [lb 0, lb 0, lb 0, lb 0, lb 0, lb 0, lb 0, lb 0, lb 0, lb 0, lb 0, lb 0, lb 0, lb 0, lb 0, lb 0, lb 0, lb 0, lb 0, lb 0, lb 0, lb 0, lb 0, lb 0, lb 0, lb 0, lb 0, lb 0, lb 0, lb 0, lb 0, lb 0, lw 0, .slice none 0 0, lw 0] 53, .blk p16 [lu 5, .slice A5 (lz3.length) c6] 40, .blk p20 [lw 0, .slice (some ⟨p12, 0, none⟩) 1 1, .slice (some ⟨p16, 0, none⟩) 1 1, lw 0] 26, .row A29 n30 c31 5 1 (by8 (txO 0 [TIn.nil] [⟨5, A5, lz3, c6⟩] 0))] w37 := H33.callNil H39
 refine ⟨_, rfl, [2, 4, 5, 27], [(2, li 0), (4, .slice A29 n30 c31), (5, li 0), (27, .tuple #[lu 5, li 0])], by kernel_rfl, ?_⟩
 refine GL.r 8 5 [(2, li 0), (4, .slice A29 n30 c31), (5, li 0), (6, lu 5), (7, li 0)] ?_
 refine GL.q hK36 ?_
 refine G.sr fun K40 hK41 => ?_
 refine GL.r 16 16 [(6, lu 5), (45, .bool ((n30 : Int) == 85))] ?_
 have hb42 : ((n30 : Int) == 85) = true := by rw [← hl85]; rfl
 rw [hb42]
 refine GL.r 20 4 [(0, .bool true)] ?_
 refine GL.q hK41 ?_
 refine G.ret fun F_ hF_ hM_ => hRet _ _ (bodyPost_1 rfl (RV.tmp rfl) ?_ F_ hF_ hM_)
 exact ⟨rfl, H38.sub (List.nil_sublist _)⟩
end Go.Proofs.Ytcedmbdahbdmaaa
