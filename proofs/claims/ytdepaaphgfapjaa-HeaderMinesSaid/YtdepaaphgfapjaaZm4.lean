/- Part 4 of what headerMines_proved stands on. -/
import Derived.Test.YtdepaaphgfapjaaZm3
set_option linter.unusedVariables false
set_option maxRecDepth 100000
namespace Go.Proofs.Ytdepaaphgfapjaa
open Go.RowKit
def hx8 (X : List UInt8) (i : Nat) : Nat := (X.getD i 0).toNat
theorem hx8_lt (X : List UInt8) (i : Nat) : hx8 X i < 256 := UInt8.toNat_lt _
def hnum (X : List UInt8) : Nat := bsum (hx8 X) 32
theorem hnum_lt (X : List UInt8) : hnum X < K4 := bsum_K4 (hx8_lt X)
theorem by8_hx {A : List UInt8} (h : A.length = 32) : by8 A = (List.range 32).map fun i => Value.int .u8 ((hx8 A i : Nat) : Int) := by
 refine List.ext_getElem? fun i => ?_
 by_cases hi : i < 32
 · rw [by8_at (getD8 (bs := A) (k := i) (by omega)), List.getElem?_map, List.getElem?_range hi]
   rfl
 · rw [List.getElem?_eq_none (by rw [by8_length]; omega), List.getElem?_eq_none (by simp; omega)]
theorem run_idxX {P : Program} {t : TypeId} {k' : IntKind} (ht : arrInt P t = some 32) {X : List UInt8} (hX : X.length = 32) {i : Nat} (hi : i < 32) (w : World) : (Instr.index t (.agg (by8 X).toArray) (.int k' (i : Int))).run P w = .ok (.int .u8 ((X.getD i 0).toNat : Int)) w := by
 rw [by8_hx hX]
 exact run_idxFn ht (hx8 X) hi w
theorem FromX_calls (X : List UInt8) (hX : X.length = 32) (w : World) : Calls Try.prog 54 #[.agg (by8 X).toArray] w fun e w' => e = .returned (wv (hnum X)) ∧ Hp w [] [] w' := by
 refine calls_G (args := [.agg (by8 X).toArray]) Try.func54 rfl Try.ntmps54 rfl ?_
 intro Q0 hRet hNor hPan
 have H := Hp.start w
 refine G.sr fun K1 hK2 => ?_
 obtain ⟨p3, w4, r5, H6⟩ := H.box (P := Try.prog) 23 (by8 X) (.agg (by8 X).toArray) rfl
 refine GL.s 1 (r5) [(1, pt p3 0)] ?_
 obtain ⟨p7, w8, r9, H10⟩ := H6.alloc (P := Try.prog) 33 z4 (by kernel_rfl)
 refine GL.s 2 (r9) [(1, pt p3 0), (2, pt p7 0)] ?_
 refine GL.q hK2 ?_
 refine G.sr fun K11 hK12 => ?_
 obtain ⟨p13, w14, r15, H16⟩ := H10.alloc (P := Try.prog) 33 z4 (by kernel_rfl)
 refine GL.s 1 (r15) [(1, pt p3 0), (2, pt p7 0), (3, pt p13 0)] ?_
 refine GL.q hK12 ?_
 refine G.seqK fun K17 hK18 => ?_
 refine G.sr fun K19 hK20 => ?_
 refine GL.s 1 (H16.ldA (o := 0) (ty := 23) (m := 32) (sub := by8 X) 0 rfl (by kernel_rfl) (sub_whole (by rw [by8_length, hX])) (by rw [by8_length, hX])) [(2, pt p7 0), (3, pt p13 0), (6, .agg (by8 X).toArray)] ?_
 refine GL.r 2 1 [(2, pt p7 0), (3, pt p13 0), (6, .agg (by8 X).toArray), (7, li 0)] ?_
 refine GL.q hK20 ?_
 refine G.block ?_
 have H21 : Hp w [] [.blk p3 (by8 X) 23, .blk p7 z4 33, .blk p13 (wl 0) 33] w14 := H16
 refine G.fit [2, 3, 6, 7] (M' := [(2, pt p7 0), (3, pt p13 0), (6, .agg (by8 X).toArray), (7, li 0)]) (by kernel_rfl) ?_
 refine G.loop (X := Nat × Nat) (fun ⟨i, V⟩ => [(2, pt p7 0), (3, pt p13 0), (6, .agg (by8 X).toArray), (7, vi i)]) (fun ⟨i, V⟩ w_ => (i ≤ 32 ∧ V = bsum (hx8 X) i) ∧ Hp w [] [.blk p3 (by8 X) 23, .blk p7 z4 33, .blk p13 (wl V) 33] w_) (fun ⟨i, V⟩ => 32 - i) ⟨0, 0⟩ [2, 3, 6, 7] (by kernel_rfl) ⟨⟨by decide, rfl⟩, H21⟩ ?_
 rintro ⟨i, V⟩ w22 ⟨hi23, H24⟩
 refine G.eq (M' := [(2, pt p7 0), (3, pt p13 0), (6, .agg (by8 X).toArray), (7, vi i)]) rfl ?_
 obtain ⟨hi32, hV⟩ := hi23
 have hVp : V < 256 ^ i := by rw [hV]; exact bsum_lt (hx8_lt X) i
 have hgi := UInt8.toNat_lt (X.getD i 0)
 refine G.sr fun K25 hK26 => ?_
 refine GL.r 1 1 [(2, pt p7 0), (3, pt p13 0), (6, .agg (by8 X).toArray), (7, vi i), (8, .bool (decide ((i : Int) < 32)))] ?_
 refine GL.q hK26 ?_
 refine G.seqK fun K27 hK28 => ?_
 cases hb29 : (decide ((i : Int) < 32))
 · skip
   have hb29f := of_decide_eq_false hb29
   refine G.no rfl ?_
   refine G.exitK hK18 (fun _ _ h => h) ?_
   refine G.sr fun K30 hK31 => ?_
   refine GL.s 1 (H24.ldA (o := 0) (ty := 33) (m := 4) (sub := (wl V)) 2 rfl (by kernel_rfl) rfl rfl) [(2, pt p7 0), (24, wv V)] ?_
   obtain ⟨w32, r33, H34⟩ := H24.stA (P := Try.prog) (o := 0) (vs := (wl V)) (ty := 33) (m := 4) 1 rfl (by kernel_rfl) rfl (by first | decide | simp) (wl_one _)
   refine GL.u 2 r33 [(2, pt p7 0)] ?_
   refine GL.q hK31 ?_
   refine G.ret fun F_ hF_ hM_ => hRet _ _ (bodyPost_1 rfl (RV.cell rfl (H34.ldA (o := 0) (ty := 33) (m := 4) (sub := (wl V)) 1 rfl (by kernel_rfl) rfl rfl)) ?_ F_ hF_ hM_)
   rw [show i = 32 by omega] at hV
   rw [show hnum X = V from hV.symm]
   exact ⟨rfl, H34.sub (List.nil_sublist _)⟩
 · skip
   have hb29f := of_decide_eq_true hb29
   refine G.yes rfl ?_
   refine G.skipK hK28 (fun _ _ h => h) ?_
   refine G.seqK fun K35 hK36 => ?_
   refine G.block ?_
   refine G.sr fun K37 hK38 => ?_
   refine GL.r 1 1 [(2, pt p7 0), (3, pt p13 0), (6, .agg (by8 X).toArray), (7, vi i), (9, vi i)] ?_
   refine GL.s 2 (run_idxX (P := Try.prog) (k' := .i64) (t := 23) (by kernel_rfl) hX (i := i) (by omega) _) [(2, pt p7 0), (3, pt p13 0), (6, .agg (by8 X).toArray), (7, vi i), (9, vi i), (10, lb ((X.getD i 0).toNat : Int))] ?_
   refine GL.r 4 2 [(2, pt p7 0), (3, pt p13 0), (4, vi i), (5, lb ((X.getD i 0).toNat : Int)), (6, .agg (by8 X).toArray), (7, vi i)] ?_
   refine GL.q hK38 ?_
   refine G.tail 12 (by kernel_rfl) (by kernel_rfl) ?_
   have H39 := H24.drew
   generalize ({ w22 with drawn := w22.drawn + 1 } : World) = w40 at H39 ⊢
   refine GS.r 2 2 [(2, pt p7 0), (3, pt p13 0), (4, vi i), (5, lb ((X.getD i 0).toNat : Int)), (6, .agg (by8 X).toArray), (7, vi i), (12, li (IntKind.i64.wrap (Int.tdiv (i : Int) 8)))] ?_
   have e41 : (IntKind.i64.wrap (Int.tdiv (i : Int) 8)) = ((i / 8 : Nat) : Int) := i_quo 8 (by omega)
   rw [e41]
   clear e41
   refine GS.s 3 (run_idxArr (P := Try.prog) (k := .i64) (t := 33) (len := 4) (sz := 1) (b := p13) (o := 0) (j := i / 8) (by kernel_rfl) rfl (by omega)) [(2, pt p7 0), (3, pt p13 0), (4, vi i), (5, lb ((X.getD i 0).toNat : Int)), (6, .agg (by8 X).toArray), (7, vi i), (12, vi (i / 8)), (13, pt p13 (0 + (i / 8) * 1))] ?_
   refine GS.s 4 (H39.ld (o := (0 + (i / 8) * 1)) (ty := 31) (v := vu (wd V (i / 8))) 2 rfl (by kernel_rfl) (wd_cell V (by omega))) [(2, pt p7 0), (3, pt p13 0), (4, vi i), (5, lb ((X.getD i 0).toNat : Int)), (6, .agg (by8 X).toArray), (7, vi i), (12, vi (i / 8)), (14, vu (wd V (i / 8)))] ?_
   refine GS.r 9 5 [(2, pt p7 0), (3, pt p13 0), (6, .agg (by8 X).toArray), (7, vi i), (12, vi (i / 8)), (14, vu (wd V (i / 8))), (16, lu (IntKind.u64.wrap ((X.getD i 0).toNat : Int))), (19, li (IntKind.i64.wrap (8 * (Int.tmod (i : Int) 8))))] ?_
   have e42 : (IntKind.u64.wrap ((X.getD i 0).toNat : Int)) = ((X.getD i 0).toNat : Int) := u8_up_u64 _
   have e43 : (Int.tmod (i : Int) 8) = ((i % 8 : Nat) : Int) := n_rem _ 8
   have e44 : (IntKind.i64.wrap (8 * ((i % 8 : Nat) : Int))) = ((8 * (i % 8) : Nat) : Int) := by rw [in_i64 (by omega)]; omega
   rw [e42, e43, e44]
   clear e42 e43 e44
   have hroom := byte_room hVp (by omega) hgi
   refine GS.s 10 (run_shlN (P := Try.prog) (k' := .i64) (t := 31) (a := ((X.getD i 0).toNat)) (r := (8 * (i % 8))) (by omega) _) [(2, pt p7 0), (3, pt p13 0), (6, .agg (by8 X).toArray), (7, vi i), (12, vi (i / 8)), (14, vu (wd V (i / 8))), (20, vu (((X.getD i 0).toNat) * 2 ^ (8 * (i % 8)) % K))] ?_
   have e45 : (((X.getD i 0).toNat) * 2 ^ (8 * (i % 8)) % K : Nat) = ((X.getD i 0).toNat) * 2 ^ (8 * (i % 8)) := Nat.mod_eq_of_lt hroom.2.1
   rw [e45]
   refine GS.r 11 1 [(2, pt p7 0), (3, pt p13 0), (6, .agg (by8 X).toArray), (7, vi i), (12, vi (i / 8)), (21, lu (Go.bits .or .u64 ((wd V (i / 8) : Nat) : Int) ((((X.getD i 0).toNat) * 2 ^ (8 * (i % 8)) : Nat) : Int)))] ?_
   have e46 : (Go.bits .or .u64 ((wd V (i / 8) : Nat) : Int) ((((X.getD i 0).toNat) * 2 ^ (8 * (i % 8)) : Nat) : Int)) = (((wd V (i / 8)) + (((X.getD i 0).toNat) * 2 ^ (8 * (i % 8))) : Nat) : Int) := or_byte hroom.1 (wd_lt _ _) hroom.2.1
   rw [e46]
   clear e46
   refine GS.s 12 (run_idxArr (P := Try.prog) (k := .i64) (t := 33) (len := 4) (sz := 1) (b := p13) (o := 0) (j := i / 8) (by kernel_rfl) rfl (by omega)) [(2, pt p7 0), (3, pt p13 0), (6, .agg (by8 X).toArray), (7, vi i), (21, vu ((wd V (i / 8)) + (((X.getD i 0).toNat) * 2 ^ (8 * (i % 8))))), (22, pt p13 (0 + (i / 8) * 1))] ?_
   refine GS.tail rfl ?_
   obtain ⟨w47, r48, H49⟩ := H39.st (P := Try.prog) (o := (0 + (i / 8) * 1)) (ty := 31) (v := vu ((wd V (i / 8)) + (((X.getD i 0).toNat) * 2 ^ (8 * (i % 8))))) 2 rfl (by kernel_rfl) (by show (0 + (i / 8) * 1) < 4; omega) rfl
   rw [setbyte hVp (by omega) hgi] at H49
   refine GL.u 13 r48 [(2, pt p7 0), (3, pt p13 0), (6, .agg (by8 X).toArray), (7, vi i)] ?_
   refine GL.q hK36 ?_
   refine G.region ?_
   refine GL.r 2 2 [(2, pt p7 0), (3, pt p13 0), (6, .agg (by8 X).toArray), (7, li (IntKind.i64.wrap ((i : Int) + 1)))] ?_
   have e50 : (IntKind.i64.wrap ((i : Int) + 1)) = ((i + 1 : Nat) : Int) := by rw [in_i64 (by omega)]; omega
   rw [e50]
   clear e50
   refine GL.fit (ts := [2, 3, 6, 7]) (M' := [(2, pt p7 0), (3, pt p13 0), (6, .agg (by8 X).toArray), (7, vi (i + 1))]) (by kernel_rfl) ?_
   refine GL.eq (M' := [(2, pt p7 0), (3, pt p13 0), (6, .agg (by8 X).toArray), (7, vi (i + 1))]) (by rfl) ?_
   exact GL.again ⟨(i + 1), (V + 256 ^ i * (X.getD i 0).toNat)⟩ [2, 3, 6, 7] rfl (by kernel_rfl) (by show 32 - (i + 1) < 32 - i; omega) ⟨⟨by omega, by rw [hV]; rfl⟩, H49⟩
theorem MeetsX_calls (X : List UInt8) (t : Nat) (hX : X.length = 32) (ht : t < K4) (w : World) : Calls Try.prog 35 #[.agg (by8 X).toArray, wv t] w fun e w' => e = .returned (.bool (decide (hnum X ≤ t))) ∧ Hp w [] [] w' := by
 have hMX : MX = 4611686018427387904 := rfl
 have hK0 : K = 18446744073709551616 := rfl
 have hK40 : K4 = 115792089237316195423570985008687907853269984665640564039457584007913129639936 := rfl
 refine calls_G (args := [.agg (by8 X).toArray, wv t]) Try.func35 rfl Try.ntmps35 rfl ?_
 intro Q0 hRet hNor hPan
 have H := Hp.start w
 refine G.sr fun K1 hK2 => ?_
 obtain ⟨p3, w4, r5, H6⟩ := H.box (P := Try.prog) 24 (by8 X) (.agg (by8 X).toArray) rfl
 refine GL.s 1 (r5) [(1, wv t), (2, pt p3 0)] ?_
 obtain ⟨p7, w8, r9, H10⟩ := H6.box (P := Try.prog) 33 (wl t) (wv t) rfl
 refine GL.s 2 (r9) [(2, pt p3 0), (3, pt p7 0)] ?_
 refine GL.r 3 1 [(2, pt p3 0), (3, pt p7 0)] ?_
 refine GL.q hK2 ?_
 refine G.seqK fun K11 hK12 => ?_
 refine G.heldP (Hp w [] [.blk p3 (by8 X) 24, .blk p7 (wl t) 33]) (by kernel_rfl) (by kernel_rfl) (fun c_ a_ d_ v_ w_ h_ => hPan c_ a_ d_ v_ w_ h_) ?_
 have H13 := H10.drew
 generalize ({ w8 with drawn := w8.drawn + 1 } : World) = w14 at H13 ⊢
 have hS15 : Hp w [] [.blk p3 (by8 X) 24, .blk p7 (wl t) 33] w14 := H13.sub (List.Sublist.cons_cons _ (List.Sublist.cons_cons _ (List.Sublist.slnil)))
 refine GP.s 0 (fun w_ H_ => H_.ldA (o := 0) (ty := 24) (m := 32) (sub := by8 X) 0 rfl (by kernel_rfl) (sub_whole (by rw [by8_length, hX])) (by rw [by8_length, hX])) [(3, pt p7 0), (5, .agg (by8 X).toArray)] hS15 ?_
 refine GP.s 2 (fun w_ H_ => H_.ldA (o := 0) (ty := 33) (m := 4) (sub := (wl t)) 1 rfl (by kernel_rfl) rfl rfl) [(5, .agg (by8 X).toArray), (7, wv t)] hS15 ?_
 refine GP.call 1 (FromX_calls X (by rw [hX]) w14) (by kernel_rfl) (by kernel_rfl) (fun e_ w16 hR => ?_)
 obtain ⟨rfl, H18⟩ := hR
 have H17 : Hp w [] [.blk p3 (by8 X) 24, .blk p7 (wl t) 33] w16 := H13.callNil H18
 have hS19 : Hp w [] [.blk p3 (by8 X) 24, .blk p7 (wl t) 33] w16 := H17.sub (List.Sublist.cons_cons _ (List.Sublist.cons_cons _ (List.Sublist.slnil)))
 refine ⟨_, rfl, hS19, [6, 7], [(6, wv (hnum X)), (7, wv t)], by kernel_rfl, ?_⟩
 refine GP.call 3 (Cmp_calls (hnum X) t (hnum_lt _) ht w16) (by kernel_rfl) (by kernel_rfl) (fun e_ w20 hR => ?_)
 obtain ⟨he_, H22⟩ := hR
 subst he_
 have H21 : Hp w [] [.blk p3 (by8 X) 24, .blk p7 (wl t) 33] w20 := H17.callNil H22
 have hS23 : Hp w [] [.blk p3 (by8 X) 24, .blk p7 (wl t) 33] w20 := H21.sub (List.Sublist.cons_cons _ (List.Sublist.cons_cons _ (List.Sublist.slnil)))
 refine ⟨_, rfl, hS23, [8], [(8, li (cmpN (hnum X) t))], by kernel_rfl, ?_⟩
 refine GP.r [4, 5] [(4, .bool (decide ((cmpN (hnum X) t) ≤ 0)))] [0, 2, 1, 3, 4, 5] hS23 ?_
 refine GP.k (by kernel_rfl) hK12 (fun _ _ h => h) ?_
 refine G.ret fun F_ hF_ hM_ => hRet _ _ (bodyPost_1 rfl (RV.tmp rfl) ?_ F_ hF_ hM_)
 have e0 : ((decide ((cmpN (hnum X) t) ≤ 0)) : Bool) = decide (hnum X ≤ t) := by rw [Bool.eq_iff_iff]; simp only [decide_eq_true_eq, cmp_le0]; try omega
 rw [e0]
 exact ⟨rfl, H21.sub (List.nil_sublist _)⟩
end Go.Proofs.Ytdepaaphgfapjaa
set_option maxRecDepth 100000
namespace Go.Proofs.Ytdepaaphgfapjaa
open Go.RowKit
def hdH (v : Nat) (A R : List UInt8) (t b n : Nat) : Nat := hnum (sha (sha (hdB v A R t b n)))
def chkW (v : Nat) (A R : List UInt8) (t b n l : Nat) : Nat := if decE b ≠ 0 ∨ l < decR b then 6 else if hdH v A R t b n ≤ decR b then 0 else 7
theorem HCheck_calls (v : Nat) (A R : List UInt8) (t b n : Nat) (l : Nat) (w : World) (hA : A.length = 32) (hR : R.length = 32) (hv : v < 4294967296) (ht : t < 4294967296) (hb : b < 4294967296) (hn : n < 4294967296) (hl : l < K4) : Calls Try.prog 14 #[.agg (hdC v A R t b n).toArray, wv l] w fun e w' => e = .returned (.int .i64 ((chkW v A R t b n l : Nat) : Int)) ∧ Hp w [] [] w' := by
 have hMX : MX = 4611686018427387904 := rfl
 have hK0 : K = 18446744073709551616 := rfl
 have hK40 : K4 = 115792089237316195423570985008687907853269984665640564039457584007913129639936 := rfl
 refine calls_G (args := [.agg (hdC v A R t b n).toArray, wv l]) Try.func14 rfl Try.ntmps14 rfl ?_
 intro Q0 hRet hNor hPan
 have H := Hp.start w
 refine G.sr fun K1 hK2 => ?_
 obtain ⟨p3, w4, r5, H6⟩ := H.box (P := Try.prog) 26 (hdC v A R t b n) (.agg (hdC v A R t b n).toArray) rfl
 refine GL.s 1 (r5) [(1, wv l), (2, pt p3 0)] ?_
 obtain ⟨p7, w8, r9, H10⟩ := H6.box (P := Try.prog) 33 (wl l) (wv l) rfl
 refine GL.s 2 (r9) [(2, pt p3 0), (3, pt p7 0)] ?_
 refine GL.r 3 1 [(2, pt p3 0), (3, pt p7 0)] ?_
 refine GL.q hK2 ?_
 refine G.sr fun K11 hK12 => ?_
 refine GL.r 1 1 [(2, pt p3 0), (3, pt p7 0), (8, pt p3 66)] ?_
 refine GL.s 2 (H10.ld (o := 66) (ty := 22) (v := vw b) 0 rfl (by kernel_rfl) (hdC_b hA hR)) [(2, pt p3 0), (3, pt p7 0), (9, vw b)] ?_
 refine GL.call (j := 3) (Decode_calls b hb w8) (by kernel_rfl) rfl (fun e_ w13 hR => ?_)
 obtain ⟨rfl, H15⟩ := hR
 have H14 : Hp w [] [.blk p3 (hdC v A R t b n) 26, .blk p7 (wl l) 33] w13 := H10.callNil H15
 refine ⟨_, rfl, [2, 3, 10], [(2, pt p3 0), (3, pt p7 0), (10, .tuple #[wv (decR b), vi (decE b)])], by kernel_rfl, ?_⟩
 refine GL.r 6 3 [(2, pt p3 0), (3, pt p7 0), (11, wv (decR b)), (12, vi (decE b))] ?_
 obtain ⟨p16, w17, r18, H19⟩ := H14.alloc (P := Try.prog) 33 z4 (by kernel_rfl)
 refine GL.s 7 (r18) [(2, pt p3 0), (3, pt p7 0), (5, pt p16 0), (11, wv (decR b)), (12, vi (decE b))] ?_
 obtain ⟨w20, r21, H22⟩ := H19.stA (P := Try.prog) (o := 0) (vs := (wl (decR b))) (ty := 33) (m := 4) 2 rfl (by kernel_rfl) rfl (by first | decide | simp) (wl_one _)
 refine GL.u 8 r21 [(2, pt p3 0), (3, pt p7 0), (5, pt p16 0), (12, vi (decE b))] ?_
 refine GL.r 9 1 [(2, pt p3 0), (3, pt p7 0), (5, pt p16 0), (6, vi (decE b))] ?_
 refine GL.q hK12 ?_
 refine G.seqK fun K23 hK24 => ?_
 refine G.block ?_
 refine G.sr fun K25 hK26 => ?_
 refine GL.r 3 3 [(2, pt p3 0), (3, pt p7 0), (5, pt p16 0), (16, .bool ((((decE b) : Nat) : Int) != 0))] ?_
 cases hb27 : ((((decE b) : Nat) : Int) != 0)
 · skip
   have hb27f : (((decE b) : Nat) : Int) = 0 := bne_eq_false_iff_eq.1 hb27
   refine GL.s 4 (H22.ldA (o := 0) (ty := 33) (m := 4) (sub := (wl (decR b))) 2 rfl (by kernel_rfl) rfl rfl) [(2, pt p3 0), (3, pt p7 0), (5, pt p16 0), (16, .bool false), (17, wv (decR b))] ?_
   refine GL.s 5 (H22.ldA (o := 0) (ty := 33) (m := 4) (sub := (wl l)) 1 rfl (by kernel_rfl) rfl rfl) [(2, pt p3 0), (5, pt p16 0), (16, .bool false), (17, wv (decR b)), (18, wv l)] ?_
   refine GL.call (j := 6) (Cmp_calls (decR b) l (decR_lt _) hl w20) (by kernel_rfl) rfl (fun e_ w28 hR => ?_)
   obtain ⟨he_, H30⟩ := hR
   subst he_
   have H29 : Hp w [] [.blk p3 (hdC v A R t b n) 26, .blk p7 (wl l) 33, .blk p16 (wl (decR b)) 33] w28 := H22.callNil H30
   refine ⟨_, rfl, [2, 5, 16, 19], [(2, pt p3 0), (5, pt p16 0), (16, .bool false), (19, li (cmpN (decR b) l))], by kernel_rfl, ?_⟩
   refine GL.r 9 3 [(2, pt p3 0), (5, pt p16 0), (13, .bool (decide (0 < (cmpN (decR b) l))))] ?_
   refine GL.q hK26 ?_
   cases hb31 : (decide (0 < (cmpN (decR b) l)))
   · skip
     have hb31f := of_decide_eq_false hb31
     have hcm : ¬ l < decR b := fun h => hb31f (cmp_gt0.2 h)
     refine G.no rfl ?_
     refine G.seqK fun K32 hK33 => ?_
     refine G.heldP (Hp w [] [.blk p3 (hdC v A R t b n) 26, .blk p7 (wl l) 33, .blk p16 (wl (decR b)) 33]) (by kernel_rfl) (by kernel_rfl) (fun c_ a_ d_ v_ w_ h_ => hPan c_ a_ d_ v_ w_ h_) ?_
     have H34 := H29.drew
     generalize ({ w28 with drawn := w28.drawn + 1 } : World) = w35 at H34 ⊢
     have hS36 : Hp w [] [.blk p3 (hdC v A R t b n) 26, .blk p7 (wl l) 33, .blk p16 (wl (decR b)) 33] w35 := H34.sub (List.Sublist.cons_cons _ (List.Sublist.cons_cons _ (List.Sublist.cons_cons _ (List.Sublist.slnil))))
     refine GP.s 0 (fun w_ H_ => H_.ldA (o := 0) (ty := 26) (m := 68) (sub := hdC v A R t b n) 0 rfl (by kernel_rfl) (sub_whole (hdC_length hA hR)) (hdC_length hA hR)) [(5, pt p16 0), (23, .agg (hdC v A R t b n).toArray)] hS36 ?_
     refine GP.s 2 (fun w_ H_ => H_.ldA (o := 0) (ty := 33) (m := 4) (sub := (wl (decR b))) 2 rfl (by kernel_rfl) rfl rfl) [(23, .agg (hdC v A R t b n).toArray), (25, wv (decR b))] hS36 ?_
     refine GP.call 1 (HHash_calls v A R t b n w35 hA hR (by omega) (by omega) (by omega) (by omega)) (by kernel_rfl) (by kernel_rfl) (fun e_ w37 hR => ?_)
     obtain ⟨rfl, H39⟩ := hR
     have H38 : Hp w [] [.blk p3 (hdC v A R t b n) 26, .blk p7 (wl l) 33, .blk p16 (wl (decR b)) 33] w37 := H34.callNil H39
     have hS40 : Hp w [] [.blk p3 (hdC v A R t b n) 26, .blk p7 (wl l) 33, .blk p16 (wl (decR b)) 33] w37 := H38.sub (List.Sublist.cons_cons _ (List.Sublist.cons_cons _ (List.Sublist.cons_cons _ (List.Sublist.slnil))))
     refine ⟨_, rfl, hS40, [24, 25], [(24, .agg (by8 (sha (sha (hdB v A R t b n)))).toArray), (25, wv (decR b))], by kernel_rfl, ?_⟩
     refine GP.call 3 (MeetsX_calls (sha (sha (hdB v A R t b n))) (decR b) (by rw [sha_length]) (decR_lt _) w37) (by kernel_rfl) (by kernel_rfl) (fun e_ w41 hR => ?_)
     obtain ⟨rfl, H43⟩ := hR
     have H42 : Hp w [] [.blk p3 (hdC v A R t b n) 26, .blk p7 (wl l) 33, .blk p16 (wl (decR b)) 33] w41 := H38.callNil H43
     have hS44 : Hp w [] [.blk p3 (hdC v A R t b n) 26, .blk p7 (wl l) 33, .blk p16 (wl (decR b)) 33] w41 := H42.sub (List.Sublist.cons_cons _ (List.Sublist.cons_cons _ (List.Sublist.cons_cons _ (List.Sublist.slnil))))
     refine ⟨_, rfl, hS44, [26], [(26, .bool (decide (hnum (sha (sha (hdB v A R t b n))) ≤ (decR b))))], by kernel_rfl, ?_⟩
     refine GP.r [4, 5] [(22, .bool (!(decide (hnum (sha (sha (hdB v A R t b n))) ≤ (decR b)))))] [0, 2, 1, 3, 4, 5] hS44 ?_
     refine GP.k (by kernel_rfl) hK33 (fun _ _ h => h) ?_
     cases hb45 : (decide (hnum (sha (sha (hdB v A R t b n))) ≤ (decR b)))
     · skip
       have hb45f := of_decide_eq_false hb45
       refine G.yes rfl ?_
       refine G.sr fun K46 hK47 => ?_
       refine GL.r 1 1 [(4, li 7)] ?_
       refine GL.q hK47 ?_
       refine G.ret fun F_ hF_ hM_ => hRet _ _ (bodyPost_1 rfl (RV.tmp rfl) ?_ F_ hF_ hM_)
       have e0 : chkW v A R t b n l = 7 := by unfold chkW hdH; (repeat' split) <;> omega
       rw [e0]
       exact ⟨rfl, H42.sub (List.nil_sublist _)⟩
     · skip
       have hb45f := of_decide_eq_true hb45
       refine G.no rfl ?_
       refine G.skipK hK24 (fun _ _ h => h) ?_
       refine G.sr fun K48 hK49 => ?_
       refine GL.r 1 1 [(4, li 0)] ?_
       refine GL.q hK49 ?_
       refine G.ret fun F_ hF_ hM_ => hRet _ _ (bodyPost_1 rfl (RV.tmp rfl) ?_ F_ hF_ hM_)
       have e0 : chkW v A R t b n l = 0 := by unfold chkW hdH; (repeat' split) <;> omega
       rw [e0]
       exact ⟨rfl, H42.sub (List.nil_sublist _)⟩
   · skip
     have hb31f := of_decide_eq_true hb31
     have hcm : l < decR b := cmp_gt0.1 hb31f
     refine G.yes rfl ?_
     refine G.sr fun K50 hK51 => ?_
     refine GL.r 1 1 [(4, li 6)] ?_
     refine GL.q hK51 ?_
     refine G.ret fun F_ hF_ hM_ => hRet _ _ (bodyPost_1 rfl (RV.tmp rfl) ?_ F_ hF_ hM_)
     have e0 : chkW v A R t b n l = 6 := by unfold chkW hdH; (repeat' split) <;> omega
     rw [e0]
     exact ⟨rfl, H29.sub (List.nil_sublist _)⟩
 · skip
   have hb27f : (((decE b) : Nat) : Int) ≠ 0 := bne_iff_ne.1 hb27
   refine GL.r 9 6 [(2, pt p3 0), (5, pt p16 0), (13, .bool true)] ?_
   refine GL.q hK26 ?_
   refine G.yes rfl ?_
   refine G.sr fun K52 hK53 => ?_
   refine GL.r 1 1 [(4, li 6)] ?_
   refine GL.q hK53 ?_
   refine G.ret fun F_ hF_ hM_ => hRet _ _ (bodyPost_1 rfl (RV.tmp rfl) ?_ F_ hF_ hM_)
   have e0 : chkW v A R t b n l = 6 := by unfold chkW hdH; (repeat' split) <;> omega
   rw [e0]
   exact ⟨rfl, H22.sub (List.nil_sublist _)⟩
end Go.Proofs.Ytdepaaphgfapjaa
namespace Go.Proofs.Ytdepaaphgfapjaa
open Go.RowKit
theorem u32wf {n : Nat} (h : n < 4294967296) : (Lit.int .u32 (n : Int)).wf = true := by
 simp [Lit.wf, IntKind.min, IntKind.max, IntKind.signed, IntKind.bits]
 omega
theorem lits_u32 {P : Program} {d t n : Nat} (ht : P.underlying t = some (.int .u32)) (h : n < 4294967296) : P.keyLits (d + 1) t [.int .u32 (n : Int)] = some [.int .u32 (n : Int)] := by
 simp [Program.keyLits, ht, u32wf h]
def lit8s (A : List UInt8) : List Lit := (List.range 32).map fun i => Lit.int .u8 ((A.getD i 0).toNat : Int)
theorem by8_fun {A : List UInt8} (h : A.length = 32) : by8 A = (List.range 32).map fun i => Value.int .u8 ((A.getD i 0).toNat : Int) := by
 refine List.ext_getElem? fun i => ?_
 by_cases hi : i < 32
 · rw [by8_at (getD8 (bs := A) (k := i) (by omega)), List.getElem?_map, List.getElem?_range hi]
   rfl
 · rw [List.getElem?_eq_none (by rw [by8_length]; omega), List.getElem?_eq_none (by simp; omega)]
def hdL (v : Nat) (A R : List UInt8) (t b n : Nat) : List Lit := [.int .u32 (v : Int)] ++ (lit8s A ++ (lit8s R ++ ([.int .u32 (t : Int)] ++ ([.int .u32 (b : Int)] ++ [.int .u32 (n : Int)]))))
theorem hd_lits {v t b n : Nat} {A R : List UInt8} (hA : A.length = 32) (hR : R.length = 32) (hv : v < 4294967296) (ht : t < 4294967296) (hb : b < 4294967296) (hn : n < 4294967296) :
   Try.prog.keyLits 3 26 (hdC v A R t b n) = some (hdL v A R t b n) := by
 rw [keyLits_struct Try.underlying26, if_pos ⟨by rw [hdC_length hA hR]; kernel_rfl, by kernel_rfl⟩]
 have one : ∀ {l : List Value} {q : Value} {i : Nat}, l[i]? = some q → (l.drop i).take 1 = [q] := fun {l q i} h => by
   have hi := (List.getElem?_eq_some_iff.1 h).1
   rw [List.drop_eq_getElem_cons hi, List.take_succ_cons, List.take_zero, (List.getElem?_eq_some_iff.1 h).2]
 simp only [List.mapM_cons, List.mapM_nil]
 rw [show Try.prog.cellsOf 22 = 1 by kernel_rfl, show Try.prog.cellsOf 24 = 32 by kernel_rfl]
 rw [show ((hdC v A R t b n).drop 0).take 1 = [.int .u32 (v : Int)] from rfl, hdC_A hA, hdC_R hA hR, one (hdC_t hA hR), one (hdC_b hA hR), one (hdC_n hA hR)]
 rw [lits_u32 Try.underlying22 hv, lits_u32 Try.underlying22 ht, lits_u32 Try.underlying22 hb, lits_u32 Try.underlying22 hn, by8_fun hA, by8_fun hR, lits_u8s (d := 0) Try.underlying24 Try.underlying5 (by kernel_rfl) (by kernel_rfl), lits_u8s (d := 0) Try.underlying24 Try.underlying5 (by kernel_rfl) (by kernel_rfl)]
 rfl
theorem lit8s_inj {A B : List UInt8} (hA : A.length = 32) (hB : B.length = 32) (h : lit8s A = lit8s B) : A = B :=
 ext8 (by rw [hA, hB]) fun i hi => by
   have := List.map_inj_left.1 h i (List.mem_range.2 (by omega))
   injection this with _ this
   exact UInt8.toNat_inj.1 (by omega)
def sameH (v : Nat) (A R : List UInt8) (t b n v' : Nat) (A' R' : List UInt8) (t' b' n' : Nat) : Bool := decide (v = v' ∧ A = A' ∧ R = R' ∧ t = t' ∧ b = b' ∧ n = n')
theorem run_hd_eql {x y : Operand} {v t b n v' t' b' n' : Nat} {A R A' R' : List UInt8} (hA : A.length = 32) (hR : R.length = 32) (hv : v < 4294967296) (ht : t < 4294967296) (hb : b < 4294967296) (hn : n < 4294967296)
   (hA' : A'.length = 32) (hR' : R'.length = 32) (hv' : v' < 4294967296) (ht' : t' < 4294967296) (hb' : b' < 4294967296) (hn' : n' < 4294967296) (w : World) :
   (do eqGuard .eql 26 x y (.agg (hdC v A R t b n).toArray) (.agg (hdC v' A' R' t' b' n').toArray); binOp .eql 26 (.agg (hdC v A R t b n).toArray) (.agg (hdC v' A' R' t' b' n').toArray) : Sem Value).run Try.prog w = .ok (.bool (sameH v A R t b n v' A' R' t' b' n')) w := by
 have hf : ∀ {v t b n : Nat} {A R : List UInt8}, A.length = 32 → R.length = 32 → Value.formed Try.prog 26 (.agg (hdC v A R t b n).toArray) = true := fun {v t b n A R} hA hR => by
   have e : ((hdC v A R t b n).toArray).size = 68 := by simp [hdC_length hA hR]
   have c : Try.prog.cellsOf 26 = 68 := by kernel_rfl
   unfold Value.formed
   rw [Try.underlying26]
   simp only [e]
   first | kernel_rfl | (simp [c]; done) | (rw [c]; rfl)
 obtain ⟨r, h1, h2⟩ := run_deep_eql (P := Try.prog) (x := x) (y := y) (m := 3) (t := 26) (by kernel_rfl) (by decide) (hf hA hR) (hf hA' hR') (hd_lits hA hR hv ht hb hn) (hd_lits hA' hR' hv' ht' hb' hn') w
 rw [h1]
 have : r = sameH v A R t b n v' A' R' t' b' n' := by
   rw [Bool.eq_iff_iff, h2, sameH, decide_eq_true_iff]
   constructor
   · intro h
     have l : ∀ X, (lit8s X).length = 32 := fun X => by simp [lit8s]
     unfold hdL at h
     obtain ⟨e1, h⟩ := List.append_inj h rfl
     obtain ⟨e2, h⟩ := List.append_inj h (by rw [l, l])
     obtain ⟨e3, h⟩ := List.append_inj h (by rw [l, l])
     simp only [List.cons_append, List.nil_append, List.cons.injEq, Lit.int.injEq, true_and, and_true] at e1 h
     exact ⟨by omega, lit8s_inj hA hA' e2, lit8s_inj hR hR' e3, by omega, by omega, by omega⟩
   · rintro ⟨rfl, rfl, rfl, rfl, rfl, rfl⟩
     rfl
 rw [this]
section
variable {H : Type} {enc : TypeId × Value → H} {P : Program} {w : World} {sp : Nat → Bool} {held : Bool}
theorem Lf.u32 {cs : List Value} {o : Nat} {t : TypeId} (ht : P.underlying t = some (.int .u32)) (h : Lf enc P w sp held cs o t) : ∃ n : Nat, cs[o]? = some (.int .u32 (n : Int)) ∧ n < 4294967296 := by
 obtain ⟨n, h1, h2⟩ := h.int ht
 simp [Lit.wf, IntKind.min, IntKind.max, IntKind.signed, IntKind.bits] at h2
 exact ⟨n.toNat, by rw [h1, Int.toNat_of_nonneg h2.1], by omega⟩
end
theorem open_head {cs : List Value} (hl : cs.length = 68) {v t b n : Nat} {f g : Nat → UInt8} (h0 : cs[0]? = some (.int .u32 (v : Int))) (hf : ∀ i, i < 32 → cs[1 + i]? = some (.int .u8 ((f i).toNat : Int))) (hg : ∀ i, i < 32 → cs[33 + i]? = some (.int .u8 ((g i).toNat : Int)))
   (ht : cs[65]? = some (.int .u32 (t : Int))) (hb : cs[66]? = some (.int .u32 (b : Int))) (hn : cs[67]? = some (.int .u32 (n : Int))) : cs = hdC v ((List.range 32).map f) ((List.range 32).map g) t b n := by
 have hA : ((List.range 32).map f).length = 32 := by simp
 have hR : ((List.range 32).map g).length = 32 := by simp
 have fun8 : ∀ (f : Nat → UInt8) (j : Nat), j < 32 → (by8 ((List.range 32).map f))[j]? = some (.int .u8 ((f j).toNat : Int)) := fun f j hj => by8_at (by rw [List.getElem?_map, List.getElem?_range hj]; rfl)
 refine List.ext_getElem? fun i => ?_
 by_cases h1 : i < 1
 · obtain rfl : i = 0 := by omega
   exact h0
 by_cases h2 : i < 33
 · obtain ⟨j, rfl⟩ : ∃ j, i = 1 + j := ⟨i - 1, by omega⟩
   rw [hf j (by omega), hdC, Nat.add_comm 1 j, List.getElem?_cons_succ, List.getElem?_append_left (by rw [by8_length, hA]; omega), fun8 f j (by omega)]
 by_cases h3 : i < 65
 · obtain ⟨j, rfl⟩ : ∃ j, i = 33 + j := ⟨i - 33, by omega⟩
   rw [hg j (by omega), hdC, show 33 + j = (32 + j) + 1 by omega, List.getElem?_cons_succ, List.getElem?_append_right (by rw [by8_length, hA]; omega), by8_length, hA, show 32 + j - 32 = j by omega, List.getElem?_append_left (by rw [by8_length, hR]; omega), fun8 g j (by omega)]
 by_cases h4 : i = 65
 · rw [h4, ht, hdC_t hA hR]
 by_cases h5 : i = 66
 · rw [h5, hb, hdC_b hA hR]
 by_cases h6 : i = 67
 · rw [h6, hn, hdC_n hA hR]
 rw [List.getElem?_eq_none (by omega), List.getElem?_eq_none (by rw [hdC_length hA hR]; omega)]
end Go.Proofs.Ytdepaaphgfapjaa
namespace Go.Proofs.Ytdepaaphgfapjaa
open Go.RowKit
theorem n_byte256 (x : Nat) : IntKind.u8.wrap ((x % 256 : Nat) : Int) = (((UInt8.ofNat x).toNat : Nat) : Int) := by rw [IntKind.wrap_u8, u8_ofNat]; omega
theorem RPut_calls (x n : Nat) (hx : x < K) (hn : n ≤ 1000) (w : World) : Calls Try.prog 50 #[.int .u64 (x : Int), .int .i64 (n : Int)] w fun e w' => ∃ A c, e = .returned (.slice A n c) ∧ Hp w [] [.row A n c 5 1 (by8 (putB x n))] w' := by
 refine calls_G (args := [vu x, vi n]) Try.func50 rfl Try.ntmps50 rfl ?_
 intro Q0 hRet hNor hPan
 have H := Hp.start w
 refine G.sr fun K1 hK2 => ?_
 refine GL.r 1 1 [(0, vu x), (1, vi n)] ?_
 refine GL.q hK2 ?_
 refine G.sr fun K3 hK4 => ?_
 obtain ⟨p5, w6, r7, H8⟩ := H.madeRow (P := Try.prog) (Instr.buildSlice 28 0 #[]) (fun b_ => .slice (some ⟨b_, 0, none⟩) 0 0) [] 5 0 0 1 (by kernel_rfl) (by decide) (by decide) rfl
 refine GL.s 1 (r7) [(0, vu x), (1, vi n), (7, .slice (some ⟨p5, 0, none⟩) 0 0)] ?_
 refine GL.r 2 1 [(0, vu x), (1, vi n), (5, .slice (some ⟨p5, 0, none⟩) 0 0)] ?_
 refine GL.q hK4 ?_
 refine G.seqK fun K9 hK10 => ?_
 refine G.sr fun K11 hK12 => ?_
 refine GL.r 1 1 [(0, vu x), (1, vi n), (5, .slice (some ⟨p5, 0, none⟩) 0 0), (6, li 0)] ?_
 refine GL.q hK12 ?_
 refine G.block ?_
 refine G.fit [0, 1, 5, 6] (M' := [(0, vu x), (1, vi n), (5, .slice (some ⟨p5, 0, none⟩) 0 0), (6, li 0)]) (by kernel_rfl) ?_
 refine G.eq (M' := [(0, vu (x / 256 ^ 0)), (1, vi n), (5, .slice (some ⟨p5, 0, none⟩) 0 0), (6, li 0)]) (by simp only [Nat.pow_zero, Nat.div_one]) ?_
 refine G.loop (X := Nat × Option Addr × Nat) (fun ⟨i, B_, b_⟩ => [(0, vu (x / 256 ^ i)), (1, vi n), (5, .slice B_ i b_), (6, vi i)]) (fun ⟨i, B_, b_⟩ w_ => (i ≤ n) ∧ Hp w [] [.row B_ i b_ 5 1 (by8 (putB x i))] w_) (fun ⟨i, B_, b_⟩ => n - i) ⟨0, (some ⟨p5, 0, none⟩), 0⟩ [0, 1, 5, 6] (by kernel_rfl) ⟨Nat.zero_le _, H8⟩ ?_
 rintro ⟨i, B_, b_⟩ w13 ⟨hi14, H15⟩
 refine G.eq (M' := [(0, vu (x / 256 ^ i)), (1, vi n), (5, .slice B_ i b_), (6, vi i)]) rfl ?_
 have hi9 := hi14
 refine G.seqK fun K16 hK17 => ?_
 refine G.sr fun K18 hK19 => ?_
 refine GL.r 3 3 [(0, vu (x / 256 ^ i)), (1, vi n), (5, .slice B_ i b_), (6, vi i), (10, .bool (decide ((i : Int) < (n : Int))))] ?_
 refine GL.q hK19 ?_
 cases hb20 : (decide ((i : Int) < (n : Int)))
 · skip
   have hb20f := of_decide_eq_false hb20
   refine G.no rfl ?_
   refine G.exitK hK10 (fun _ _ h => h) ?_
   refine G.sr fun K21 hK22 => ?_
   refine GL.r 2 2 [(4, .slice B_ i b_)] ?_
   refine GL.q hK22 ?_
   refine G.ret fun F_ hF_ hM_ => hRet _ _ (bodyPost_1 rfl (RV.tmp rfl) ?_ F_ hF_ hM_)
   have HF := H15
   rw [show i = n by omega] at HF
   rw [show i = n by omega]
   exact ⟨_, _, rfl, HF⟩
 · skip
   have hb20f := of_decide_eq_true hb20
   refine G.yes rfl ?_
   refine G.skipK hK17 (fun _ _ h => h) ?_
   refine G.seqK fun K23 hK24 => ?_
   refine G.block ?_
   refine G.sr fun K25 hK26 => ?_
   refine GL.r 4 4 [(0, vu (x / 256 ^ i)), (1, vi n), (6, vi i), (13, .slice B_ i b_), (16, lb (IntKind.u8.wrap (Int.tmod ((x / 256 ^ i : Nat) : Int) 256)))] ?_
   have e27 : (Int.tmod ((x / 256 ^ i : Nat) : Int) 256) = (((x / 256 ^ i) % 256 : Nat) : Int) := n_rem _ 256
   have e28 : (IntKind.u8.wrap (((x / 256 ^ i) % 256 : Nat) : Int)) = ((UInt8.ofNat (x / 256 ^ i)).toNat : Int) := n_byte256 _
   rw [e27, e28]
   clear e27 e28
   obtain ⟨p29, w30, r31, H32⟩ := H15.made (P := Try.prog) (Instr.buildSlice 28 1 #[(0, lb ((UInt8.ofNat (x / 256 ^ i)).toNat : Int))]) (fun b_ => .slice (some ⟨b_, 0, none⟩) 1 1) [lb ((UInt8.ofNat (x / 256 ^ i)).toNat : Int)] 5 (by kernel_rfl)
   refine GL.s 5 (r31) [(0, vu (x / 256 ^ i)), (1, vi n), (6, vi i), (13, .slice B_ i b_), (17, .slice (some ⟨p29, 0, none⟩) 1 1)] ?_
   obtain ⟨A33, c34, w35, r36, H37⟩ := H32.append (P := Try.prog) (e := 5) (sz := 1) (by_ := 1) (n := i) (c := b_) (m := 1) (d := 1) (t := 28) (ty := 28) (xs := by8 (putB x i)) (news := by8 ([(UInt8.ofNat (x / 256 ^ i))] : List UInt8)) 0 rfl (by kernel_rfl) (H32.rdBlk (o := 0) (xs := by8 ([(UInt8.ofNat (x / 256 ^ i))] : List UInt8)) 1 1 rfl rfl) (by first | (simp [by8_length]; done) | (rw [by8_length]; omega) | (rw [by8_length, putB_length])) (by8_one _) (by omega) (by simp only [maxLen]; omega)
   rw [← by8_append] at H37
   refine GL.s 6 (r36) [(0, vu (x / 256 ^ i)), (1, vi n), (6, vi i), (18, .slice A33 (i + 1) c34)] ?_
   refine GL.r 7 1 [(0, vu (x / 256 ^ i)), (1, vi n), (5, .slice A33 (i + 1) c34), (6, vi i)] ?_
   refine GL.q hK26 ?_
   refine G.region ?_
   refine GL.r 3 3 [(0, lu (IntKind.u64.wrap (Int.tdiv ((x / 256 ^ i : Nat) : Int) 256))), (1, vi n), (5, .slice A33 (i + 1) c34), (6, vi i)] ?_
   have e38 : (IntKind.u64.wrap (Int.tdiv ((x / 256 ^ i : Nat) : Int) 256)) = (((x / 256 ^ i) / 256 : Nat) : Int) := n_quo 256 (Nat.lt_of_le_of_lt (Nat.div_le_self _ _) hx)
   rw [e38]
   clear e38
   refine GL.q hK24 ?_
   refine G.region ?_
   refine GL.r 3 3 [(0, vu ((x / 256 ^ i) / 256)), (1, vi n), (5, .slice A33 (i + 1) c34), (6, li (IntKind.i64.wrap ((i : Int) + 1)))] ?_
   have e39 : (IntKind.i64.wrap ((i : Int) + 1)) = ((i + 1 : Nat) : Int) := by rw [in_i64 (by omega)]; omega
   rw [e39]
   clear e39
   have H40 : Hp w [] [.row A33 (i + 1) c34 5 1 (by8 ((putB x i) ++ ([(UInt8.ofNat (x / 256 ^ i))] : List UInt8)))] w35 := H37.sub (List.Sublist.cons_cons _ (List.Sublist.cons _ (List.Sublist.slnil)))
   have H41 : Hp w [] [.row A33 (i + 1) c34 5 1 (by8 (putB x (i + 1)))] w35 := by rw [putB_snoc]; exact H40
   refine GL.fit (ts := [0, 1, 5, 6]) (M' := [(0, vu ((x / 256 ^ i) / 256)), (1, vi n), (5, .slice A33 (i + 1) c34), (6, vi (i + 1))]) (by kernel_rfl) ?_
   refine GL.eq (M' := [(0, vu (x / 256 ^ (i + 1))), (1, vi n), (5, .slice A33 (i + 1) c34), (6, vi (i + 1))]) (by rw [Nat.pow_succ, ← Nat.div_div_eq_div_mul]) ?_
   exact GL.again ⟨(i + 1), A33, c34⟩ [0, 1, 5, 6] rfl (by kernel_rfl) (by show n - (i + 1) < n - i; omega) ⟨by omega, H41⟩
theorem take_snoc8 {X : List UInt8} {k : Nat} (h : k < X.length) : List.take (k + 1) X = List.take k X ++ [X.getD k 0] := by
 rw [List.take_add_one, getD8 h]
 rfl
theorem RBytes_calls (v : Nat) (A R : List UInt8) (t b n : Nat) (w : World) (hA : A.length = 32) (hR : R.length = 32) (hv : v < 4294967296) (ht : t < 4294967296) (hb : b < 4294967296) (hn : n < 4294967296) : Calls Try.prog 32 #[.int .u32 (v : Int), .agg (by8 A).toArray, .agg (by8 R).toArray, .int .u32 (t : Int), .int .u32 (b : Int), .int .u32 (n : Int)] w fun e w' => ∃ A' c', e = .returned (.slice A' 80 c') ∧ Hp w [] [.row A' 80 c' 5 1 (by8 (hdB v A R t b n))] w' := by
 refine calls_G (args := [vw v, .agg (by8 A).toArray, .agg (by8 R).toArray, vw t, vw b, vw n]) Try.func32 rfl Try.ntmps32 rfl ?_
 intro Q0 hRet hNor hPan
 have H := Hp.start w
 refine G.sr fun K1 hK2 => ?_
 obtain ⟨p3, w4, r5, H6⟩ := H.box (P := Try.prog) 23 (by8 A) (.agg (by8 A).toArray) rfl
 refine GL.s 1 (r5) [(0, vw v), (2, .agg (by8 R).toArray), (3, vw t), (4, vw b), (5, vw n), (7, pt p3 0)] ?_
 obtain ⟨p7, w8, r9, H10⟩ := H6.box (P := Try.prog) 23 (by8 R) (.agg (by8 R).toArray) rfl
 refine GL.s 2 (r9) [(0, vw v), (3, vw t), (4, vw b), (5, vw n), (7, pt p3 0), (8, pt p7 0)] ?_
 refine GL.r 3 1 [(0, vw v), (3, vw t), (4, vw b), (5, vw n), (7, pt p3 0), (8, pt p7 0)] ?_
 refine GL.q hK2 ?_
 refine G.sr fun K11 hK12 => ?_
 refine GL.r 2 2 [(3, vw t), (4, vw b), (5, vw n), (7, pt p3 0), (8, pt p7 0), (17, lu (IntKind.u64.wrap (v : Int)))] ?_
 have e13 : (IntKind.u64.wrap (v : Int)) = (v : Int) := in_u64 (by omega)
 rw [e13]
 clear e13
 refine GL.call (j := 3) (RPut_calls v 4 (Nat.lt_trans hv (by decide)) (by omega) w8) (by kernel_rfl) rfl (fun e_ w18 hR => ?_)
 obtain ⟨A14, c15, rfl, H17⟩ := hR
 have H16 : Hp w [] [.blk p3 (by8 A) 23, .blk p7 (by8 R) 23, .row A14 4 c15 5 1 (by8 (putB v 4))] w18 := H10.callNew H17
 refine ⟨_, rfl, [3, 4, 5, 7, 8, 18], [(3, vw t), (4, vw b), (5, vw n), (7, pt p3 0), (8, pt p7 0), (18, .slice A14 4 c15)], by kernel_rfl, ?_⟩
 refine GL.r 4 1 [(3, vw t), (4, vw b), (5, vw n), (7, pt p3 0), (8, pt p7 0), (13, .slice A14 4 c15)] ?_
 refine GL.q hK12 ?_
 refine G.seqK fun K19 hK20 => ?_
 refine G.sr fun K21 hK22 => ?_
 refine GL.r 1 1 [(3, vw t), (4, vw b), (5, vw n), (7, pt p3 0), (8, pt p7 0), (13, .slice A14 4 c15), (19, li 0)] ?_
 refine GL.q hK22 ?_
 refine G.block ?_
 have H23 : Hp w [] [.blk p3 (by8 A) 23, .blk p7 (by8 R) 23, .row A14 (4 + 0) c15 5 1 (by8 ((putB v 4) ++ List.take 0 A))] w18 := (by have h_ := H16; rw [List.take_zero, List.append_nil]; exact h_)
 refine G.fit [3, 4, 5, 7, 8, 13, 19] (M' := [(3, vw t), (4, vw b), (5, vw n), (7, pt p3 0), (8, pt p7 0), (13, .slice A14 (4 + 0) c15), (19, li 0)]) (by kernel_rfl) ?_
 refine G.loop (X := Nat × Option Addr × Nat) (fun ⟨k, A_, c_⟩ => [(3, vw t), (4, vw b), (5, vw n), (7, pt p3 0), (8, pt p7 0), (13, .slice A_ (4 + k) c_), (19, vi k)]) (fun ⟨k, A_, c_⟩ w_ => (k ≤ 32) ∧ Hp w [] [.blk p3 (by8 A) 23, .blk p7 (by8 R) 23, .row A_ (4 + k) c_ 5 1 (by8 ((putB v 4) ++ List.take k A))] w_) (fun ⟨k, A_, c_⟩ => 32 - k) ⟨0, A14, c15⟩ [3, 4, 5, 7, 8, 13, 19] (by kernel_rfl) ⟨by omega, H23⟩ ?_
 rintro ⟨k, A_, c_⟩ w24 ⟨hi25, H26⟩
 refine G.eq (M' := [(3, vw t), (4, vw b), (5, vw n), (7, pt p3 0), (8, pt p7 0), (13, .slice A_ (4 + k) c_), (19, vi k)]) rfl ?_
 have hk32 := hi25
 refine G.sr fun K27 hK28 => ?_
 refine GL.r 1 1 [(3, vw t), (4, vw b), (5, vw n), (7, pt p3 0), (8, pt p7 0), (13, .slice A_ (4 + k) c_), (19, vi k), (20, .bool (decide ((k : Int) < 32)))] ?_
 refine GL.q hK28 ?_
 refine G.seqK fun K29 hK30 => ?_
 cases hb31 : (decide ((k : Int) < 32))
 · skip
   have hb31f := of_decide_eq_false hb31
   refine G.no rfl ?_
   refine G.exitK hK20 (fun _ _ h => h) ?_
   refine G.seqK fun K32 hK33 => ?_
   refine G.sr fun K34 hK35 => ?_
   refine GL.r 1 1 [(3, vw t), (4, vw b), (5, vw n), (8, pt p7 0), (13, .slice A_ (4 + k) c_), (29, li 0)] ?_
   refine GL.q hK35 ?_
   refine G.block ?_
   obtain rfl : k = 32 := by omega
   have H36 : Hp w [] [.blk p3 (by8 A) 23, .blk p7 (by8 R) 23, .row A_ 36 c_ 5 1 (by8 ((putB v 4) ++ A))] w24 := (by have h_ := H26; rw [List.take_of_length_le (l := A) (by omega)] at h_; exact h_)
   have H37 : Hp w [] [.blk p3 (by8 A) 23, .blk p7 (by8 R) 23, .row A_ (36 + 0) c_ 5 1 (by8 (((putB v 4) ++ A) ++ List.take 0 R))] w24 := (by have h_ := H36; rw [List.take_zero, List.append_nil]; exact h_)
   refine G.fit [3, 4, 5, 8, 13, 29] (M' := [(3, vw t), (4, vw b), (5, vw n), (8, pt p7 0), (13, .slice A_ (36 + 0) c_), (29, li 0)]) (by kernel_rfl) ?_
   refine G.loop (X := Nat × Option Addr × Nat) (fun ⟨m, A_, c_⟩ => [(3, vw t), (4, vw b), (5, vw n), (8, pt p7 0), (13, .slice A_ (36 + m) c_), (29, vi m)]) (fun ⟨m, A_, c_⟩ w_ => (m ≤ 32) ∧ Hp w [] [.blk p3 (by8 A) 23, .blk p7 (by8 R) 23, .row A_ (36 + m) c_ 5 1 (by8 (((putB v 4) ++ A) ++ List.take m R))] w_) (fun ⟨m, A_, c_⟩ => 32 - m) ⟨0, A_, c_⟩ [3, 4, 5, 8, 13, 29] (by kernel_rfl) ⟨by omega, H37⟩ ?_
   rintro ⟨m, A_, c_⟩ w38 ⟨hi39, H40⟩
   refine G.eq (M' := [(3, vw t), (4, vw b), (5, vw n), (8, pt p7 0), (13, .slice A_ (36 + m) c_), (29, vi m)]) rfl ?_
   have hm32 := hi39
   refine G.sr fun K41 hK42 => ?_
   refine GL.r 1 1 [(3, vw t), (4, vw b), (5, vw n), (8, pt p7 0), (13, .slice A_ (36 + m) c_), (29, vi m), (30, .bool (decide ((m : Int) < 32)))] ?_
   refine GL.q hK42 ?_
   refine G.seqK fun K43 hK44 => ?_
   cases hb45 : (decide ((m : Int) < 32))
   · skip
     have hb45f := of_decide_eq_false hb45
     refine G.no rfl ?_
     refine G.exitK hK33 (fun _ _ h => h) ?_
     refine G.sr fun K46 hK47 => ?_
     refine GL.r 3 3 [(4, vw b), (5, vw n), (39, .slice A_ (36 + m) c_), (41, lu (IntKind.u64.wrap (t : Int)))] ?_
     have e48 : (IntKind.u64.wrap (t : Int)) = (t : Int) := in_u64 (by omega)
     rw [e48]
     clear e48
     refine GL.call (j := 4) (RPut_calls t 4 (Nat.lt_trans ht (by decide)) (by omega) w38) (by kernel_rfl) rfl (fun e_ w53 hR => ?_)
     obtain ⟨A49, c50, rfl, H52⟩ := hR
     have H51 : Hp w [] [.blk p3 (by8 A) 23, .blk p7 (by8 R) 23, .row A_ (36 + m) c_ 5 1 (by8 (((putB v 4) ++ A) ++ List.take m R)), .row A49 4 c50 5 1 (by8 (putB t 4))] w53 := H40.callNew H52
     refine ⟨_, rfl, [4, 5, 39, 42], [(4, vw b), (5, vw n), (39, .slice A_ (36 + m) c_), (42, .slice A49 4 c50)], by kernel_rfl, ?_⟩
     obtain ⟨A54, c55, w56, r57, H58⟩ := H51.append (P := Try.prog) (e := 5) (sz := 1) (by_ := 1) (n := (36 + m)) (c := c_) (m := 4) (d := c50) (t := 28) (ty := 28) (xs := by8 (((putB v 4) ++ A) ++ List.take m R)) (news := by8 (putB t 4)) 2 rfl (by kernel_rfl) (H51.rdRow 3 rfl) (by first | (simp [by8_length]; done) | (rw [by8_length]; omega) | (rw [by8_length, putB_length])) (by8_one _) (by omega) (by simp only [maxLen]; omega)
     rw [← by8_append] at H58
     refine GL.s 5 (r57) [(4, vw b), (5, vw n), (43, .slice A54 ((36 + m) + 4) c55)] ?_
     refine GL.r 6 1 [(4, vw b), (5, vw n), (13, .slice A54 ((36 + m) + 4) c55)] ?_
     refine GL.q hK47 ?_
     refine G.sr fun K59 hK60 => ?_
     refine GL.r 3 3 [(5, vw n), (44, .slice A54 ((36 + m) + 4) c55), (46, lu (IntKind.u64.wrap (b : Int)))] ?_
     have e61 : (IntKind.u64.wrap (b : Int)) = (b : Int) := in_u64 (by omega)
     rw [e61]
     clear e61
     refine GL.call (j := 4) (RPut_calls b 4 (Nat.lt_trans hb (by decide)) (by omega) w56) (by kernel_rfl) rfl (fun e_ w66 hR => ?_)
     obtain ⟨A62, c63, rfl, H65⟩ := hR
     have H64 : Hp w [] [.blk p3 (by8 A) 23, .blk p7 (by8 R) 23, .row A54 ((36 + m) + 4) c55 5 1 (by8 ((((putB v 4) ++ A) ++ List.take m R) ++ (putB t 4))), .row A49 4 c50 5 1 (by8 (putB t 4)), .row A62 4 c63 5 1 (by8 (putB b 4))] w66 := H58.callNew H65
     refine ⟨_, rfl, [5, 44, 47], [(5, vw n), (44, .slice A54 ((36 + m) + 4) c55), (47, .slice A62 4 c63)], by kernel_rfl, ?_⟩
     obtain ⟨A67, c68, w69, r70, H71⟩ := H64.append (P := Try.prog) (e := 5) (sz := 1) (by_ := 1) (n := ((36 + m) + 4)) (c := c55) (m := 4) (d := c63) (t := 28) (ty := 28) (xs := by8 ((((putB v 4) ++ A) ++ List.take m R) ++ (putB t 4))) (news := by8 (putB b 4)) 2 rfl (by kernel_rfl) (H64.rdRow 4 rfl) (by first | (simp [by8_length]; done) | (rw [by8_length]; omega) | (rw [by8_length, putB_length])) (by8_one _) (by omega) (by simp only [maxLen]; omega)
     rw [← by8_append] at H71
     refine GL.s 5 (r70) [(5, vw n), (48, .slice A67 (((36 + m) + 4) + 4) c68)] ?_
     refine GL.r 6 1 [(5, vw n), (13, .slice A67 (((36 + m) + 4) + 4) c68)] ?_
     refine GL.q hK60 ?_
     refine G.sr fun K72 hK73 => ?_
     refine GL.r 3 3 [(49, .slice A67 (((36 + m) + 4) + 4) c68), (51, lu (IntKind.u64.wrap (n : Int)))] ?_
     have e74 : (IntKind.u64.wrap (n : Int)) = (n : Int) := in_u64 (by omega)
     rw [e74]
     clear e74
     refine GL.call (j := 4) (RPut_calls n 4 (Nat.lt_trans hn (by decide)) (by omega) w69) (by kernel_rfl) rfl (fun e_ w79 hR => ?_)
     obtain ⟨A75, c76, rfl, H78⟩ := hR
     have H77 : Hp w [] [.blk p3 (by8 A) 23, .blk p7 (by8 R) 23, .row A67 (((36 + m) + 4) + 4) c68 5 1 (by8 (((((putB v 4) ++ A) ++ List.take m R) ++ (putB t 4)) ++ (putB b 4))), .row A49 4 c50 5 1 (by8 (putB t 4)), .row A62 4 c63 5 1 (by8 (putB b 4)), .row A75 4 c76 5 1 (by8 (putB n 4))] w79 := H71.callNew H78
     refine ⟨_, rfl, [49, 52], [(49, .slice A67 (((36 + m) + 4) + 4) c68), (52, .slice A75 4 c76)], by kernel_rfl, ?_⟩
     obtain ⟨A80, c81, w82, r83, H84⟩ := H77.append (P := Try.prog) (e := 5) (sz := 1) (by_ := 1) (n := (((36 + m) + 4) + 4)) (c := c68) (m := 4) (d := c76) (t := 28) (ty := 28) (xs := by8 (((((putB v 4) ++ A) ++ List.take m R) ++ (putB t 4)) ++ (putB b 4))) (news := by8 (putB n 4)) 2 rfl (by kernel_rfl) (H77.rdRow 5 rfl) (by first | (simp [by8_length]; done) | (rw [by8_length]; omega) | (rw [by8_length, putB_length])) (by8_one _) (by omega) (by simp only [maxLen]; omega)
     rw [← by8_append] at H84
     refine GL.s 5 (r83) [(53, .slice A80 ((((36 + m) + 4) + 4) + 4) c81)] ?_
     refine GL.r 6 1 [(12, .slice A80 ((((36 + m) + 4) + 4) + 4) c81)] ?_
     refine GL.q hK73 ?_
     refine G.ret fun F_ hF_ hM_ => hRet _ _ (bodyPost_1 rfl (RV.tmp rfl) ?_ F_ hF_ hM_)
     have H85 : Hp w [] [.row A80 ((((36 + m) + 4) + 4) + 4) c81 5 1 (by8 ((((((putB v 4) ++ A) ++ List.take m R) ++ (putB t 4)) ++ (putB b 4)) ++ (putB n 4)))] w82 := H84.sub (List.Sublist.cons _ (List.Sublist.cons _ (List.Sublist.cons_cons _ (List.Sublist.cons _ (List.Sublist.cons _ (List.Sublist.cons _ (List.Sublist.slnil)))))))
     have HF := H85
     obtain rfl : m = 32 := by omega
     rw [List.take_of_length_le (l := R) (by omega)] at HF
     exact ⟨_, _, rfl, HF⟩
   · skip
     have hb45f := of_decide_eq_true hb45
     refine G.yes rfl ?_
     refine G.skipK hK44 (fun _ _ h => h) ?_
     refine G.seqK fun K86 hK87 => ?_
     refine G.block ?_
     refine G.sr fun K88 hK89 => ?_
     refine GL.r 2 2 [(3, vw t), (4, vw b), (5, vw n), (8, pt p7 0), (13, .slice A_ (36 + m) c_), (15, vi m), (29, vi m)] ?_
     refine GL.q hK89 ?_
     refine G.region ?_
     refine GL.r 2 2 [(3, vw t), (4, vw b), (5, vw n), (8, pt p7 0), (29, vi m), (32, .slice A_ (36 + m) c_), (33, vi m)] ?_
     refine GL.s 3 (run_idxArr (P := Try.prog) (k := .i64) (t := 23) (len := 32) (sz := 1) (b := p7) (o := 0) (j := m) (by kernel_rfl) rfl (by omega)) [(3, vw t), (4, vw b), (5, vw n), (8, pt p7 0), (29, vi m), (32, .slice A_ (36 + m) c_), (34, pt p7 (0 + m * 1))] ?_
     refine GL.s 4 (H40.ld (o := (0 + m * 1)) (ty := 5) (v := .int .u8 (((R.getD m 0)).toNat : Int)) 1 rfl (by kernel_rfl) (by rw [show (0 + m * 1) = m by omega]; exact by8_at (getD8 (by rw [hR]; omega)))) [(3, vw t), (4, vw b), (5, vw n), (8, pt p7 0), (29, vi m), (32, .slice A_ (36 + m) c_), (35, lb (((R.getD m 0)).toNat : Int))] ?_
     obtain ⟨p90, w91, r92, H93⟩ := H40.madeRow (P := Try.prog) (Instr.buildSlice 28 1 #[(0, lb (((R.getD m 0)).toNat : Int))]) (fun b_ => .slice (some ⟨b_, 0, none⟩) 1 1) [lb (((R.getD m 0)).toNat : Int)] 5 1 1 1 (by kernel_rfl) (by decide) (by decide) rfl
     refine GL.s 5 (r92) [(3, vw t), (4, vw b), (5, vw n), (8, pt p7 0), (29, vi m), (32, .slice A_ (36 + m) c_), (36, .slice (some ⟨p90, 0, none⟩) 1 1)] ?_
     obtain ⟨A94, c95, w96, r97, H98⟩ := H93.append (P := Try.prog) (e := 5) (sz := 1) (by_ := 1) (n := (36 + m)) (c := c_) (m := 1) (d := 1) (t := 28) (ty := 28) (xs := by8 (((putB v 4) ++ A) ++ List.take m R)) (news := by8 ([((R.getD m 0))] : List UInt8)) 2 rfl (by kernel_rfl) (H93.rdRow 3 rfl) (by first | (simp [by8_length]; done) | (rw [by8_length]; omega) | (rw [by8_length, putB_length])) (by8_one _) (by omega) (by simp only [maxLen]; omega)
     rw [← by8_append] at H98
     refine GL.s 6 (r97) [(3, vw t), (4, vw b), (5, vw n), (8, pt p7 0), (29, vi m), (37, .slice A94 ((36 + m) + 1) c95)] ?_
     refine GL.r 7 1 [(3, vw t), (4, vw b), (5, vw n), (8, pt p7 0), (13, .slice A94 ((36 + m) + 1) c95), (29, vi m)] ?_
     refine GL.q hK87 ?_
     refine G.region ?_
     refine GL.r 2 2 [(3, vw t), (4, vw b), (5, vw n), (8, pt p7 0), (13, .slice A94 ((36 + m) + 1) c95), (29, li (IntKind.i64.wrap ((m : Int) + 1)))] ?_
     have e99 : (IntKind.i64.wrap ((m : Int) + 1)) = ((m + 1 : Nat) : Int) := by rw [in_i64 (by omega)]; omega
     rw [e99]
     clear e99
     have H100 : Hp w [] [.blk p3 (by8 A) 23, .blk p7 (by8 R) 23, .row A94 ((36 + m) + 1) c95 5 1 (by8 ((((putB v 4) ++ A) ++ List.take m R) ++ ([((R.getD m 0))] : List UInt8)))] w96 := H98.sub (List.Sublist.cons_cons _ (List.Sublist.cons_cons _ (List.Sublist.cons_cons _ (List.Sublist.cons _ (List.Sublist.slnil)))))
     have H101 : Hp w [] [.blk p3 (by8 A) 23, .blk p7 (by8 R) 23, .row A94 (36 + (m + 1)) c95 5 1 (by8 (((putB v 4) ++ A) ++ List.take (m + 1) R))] w96 := by rw [take_snoc8 (by omega), ← List.append_assoc]; exact H100
     refine GL.fit (ts := [3, 4, 5, 8, 13, 29]) (M' := [(3, vw t), (4, vw b), (5, vw n), (8, pt p7 0), (13, .slice A94 ((36 + m) + 1) c95), (29, vi (m + 1))]) (by kernel_rfl) ?_
     refine GL.eq (M' := [(3, vw t), (4, vw b), (5, vw n), (8, pt p7 0), (13, .slice A94 (36 + (m + 1)) c95), (29, vi (m + 1))]) (by rfl) ?_
     exact GL.again ⟨(m + 1), A94, c95⟩ [3, 4, 5, 8, 13, 29] rfl (by kernel_rfl) (by show 32 - (m + 1) < 32 - m; omega) ⟨by omega, H101⟩
 · skip
   have hb31f := of_decide_eq_true hb31
   refine G.yes rfl ?_
   refine G.skipK hK30 (fun _ _ h => h) ?_
   refine G.seqK fun K102 hK103 => ?_
   refine G.block ?_
   refine G.sr fun K104 hK105 => ?_
   refine GL.r 2 2 [(3, vw t), (4, vw b), (5, vw n), (7, pt p3 0), (8, pt p7 0), (13, .slice A_ (4 + k) c_), (14, vi k), (19, vi k)] ?_
   refine GL.q hK105 ?_
   refine G.region ?_
   refine GL.r 2 2 [(3, vw t), (4, vw b), (5, vw n), (7, pt p3 0), (8, pt p7 0), (19, vi k), (22, .slice A_ (4 + k) c_), (23, vi k)] ?_
   refine GL.s 3 (run_idxArr (P := Try.prog) (k := .i64) (t := 23) (len := 32) (sz := 1) (b := p3) (o := 0) (j := k) (by kernel_rfl) rfl (by omega)) [(3, vw t), (4, vw b), (5, vw n), (7, pt p3 0), (8, pt p7 0), (19, vi k), (22, .slice A_ (4 + k) c_), (24, pt p3 (0 + k * 1))] ?_
   refine GL.s 4 (H26.ld (o := (0 + k * 1)) (ty := 5) (v := .int .u8 (((A.getD k 0)).toNat : Int)) 0 rfl (by kernel_rfl) (by rw [show (0 + k * 1) = k by omega]; exact by8_at (getD8 (by rw [hA]; omega)))) [(3, vw t), (4, vw b), (5, vw n), (7, pt p3 0), (8, pt p7 0), (19, vi k), (22, .slice A_ (4 + k) c_), (25, lb (((A.getD k 0)).toNat : Int))] ?_
   obtain ⟨p106, w107, r108, H109⟩ := H26.madeRow (P := Try.prog) (Instr.buildSlice 28 1 #[(0, lb (((A.getD k 0)).toNat : Int))]) (fun b_ => .slice (some ⟨b_, 0, none⟩) 1 1) [lb (((A.getD k 0)).toNat : Int)] 5 1 1 1 (by kernel_rfl) (by decide) (by decide) rfl
   refine GL.s 5 (r108) [(3, vw t), (4, vw b), (5, vw n), (7, pt p3 0), (8, pt p7 0), (19, vi k), (22, .slice A_ (4 + k) c_), (26, .slice (some ⟨p106, 0, none⟩) 1 1)] ?_
   obtain ⟨A110, c111, w112, r113, H114⟩ := H109.append (P := Try.prog) (e := 5) (sz := 1) (by_ := 1) (n := (4 + k)) (c := c_) (m := 1) (d := 1) (t := 28) (ty := 28) (xs := by8 ((putB v 4) ++ List.take k A)) (news := by8 ([((A.getD k 0))] : List UInt8)) 2 rfl (by kernel_rfl) (H109.rdRow 3 rfl) (by first | (simp [by8_length]; done) | (rw [by8_length]; omega) | (rw [by8_length, putB_length])) (by8_one _) (by omega) (by simp only [maxLen]; omega)
   rw [← by8_append] at H114
   refine GL.s 6 (r113) [(3, vw t), (4, vw b), (5, vw n), (7, pt p3 0), (8, pt p7 0), (19, vi k), (27, .slice A110 ((4 + k) + 1) c111)] ?_
   refine GL.r 7 1 [(3, vw t), (4, vw b), (5, vw n), (7, pt p3 0), (8, pt p7 0), (13, .slice A110 ((4 + k) + 1) c111), (19, vi k)] ?_
   refine GL.q hK103 ?_
   refine G.region ?_
   refine GL.r 2 2 [(3, vw t), (4, vw b), (5, vw n), (7, pt p3 0), (8, pt p7 0), (13, .slice A110 ((4 + k) + 1) c111), (19, li (IntKind.i64.wrap ((k : Int) + 1)))] ?_
   have e115 : (IntKind.i64.wrap ((k : Int) + 1)) = ((k + 1 : Nat) : Int) := by rw [in_i64 (by omega)]; omega
   rw [e115]
   clear e115
   have H116 : Hp w [] [.blk p3 (by8 A) 23, .blk p7 (by8 R) 23, .row A110 ((4 + k) + 1) c111 5 1 (by8 (((putB v 4) ++ List.take k A) ++ ([((A.getD k 0))] : List UInt8)))] w112 := H114.sub (List.Sublist.cons_cons _ (List.Sublist.cons_cons _ (List.Sublist.cons_cons _ (List.Sublist.cons _ (List.Sublist.slnil)))))
   have H117 : Hp w [] [.blk p3 (by8 A) 23, .blk p7 (by8 R) 23, .row A110 (4 + (k + 1)) c111 5 1 (by8 ((putB v 4) ++ List.take (k + 1) A))] w112 := by rw [take_snoc8 (by omega), ← List.append_assoc]; exact H116
   refine GL.fit (ts := [3, 4, 5, 7, 8, 13, 19]) (M' := [(3, vw t), (4, vw b), (5, vw n), (7, pt p3 0), (8, pt p7 0), (13, .slice A110 ((4 + k) + 1) c111), (19, vi (k + 1))]) (by kernel_rfl) ?_
   refine GL.eq (M' := [(3, vw t), (4, vw b), (5, vw n), (7, pt p3 0), (8, pt p7 0), (13, .slice A110 (4 + (k + 1)) c111), (19, vi (k + 1))]) (by rfl) ?_
   exact GL.again ⟨(k + 1), A110, c111⟩ [3, 4, 5, 7, 8, 13, 19] rfl (by kernel_rfl) (by show 32 - (k + 1) < 32 - k; omega) ⟨by omega, H117⟩
theorem Ref_calls (v : Nat) (A R : List UInt8) (t b n : Nat) (w : World) (hA : A.length = 32) (hR : R.length = 32) (hv : v < 4294967296) (ht : t < 4294967296) (hb : b < 4294967296) (hn : n < 4294967296) : Calls Try.prog 13 #[.agg (hdC v A R t b n).toArray] w fun e w' => ∃ A' c', e = .returned (.slice A' 80 c') ∧ Hp w [] [.row A' 80 c' 5 1 (by8 (hdB v A R t b n))] w' := by
 refine calls_G (args := [.agg (hdC v A R t b n).toArray]) Try.func13 rfl Try.ntmps13 rfl ?_
 intro Q0 hRet hNor hPan
 have H := Hp.start w
 refine G.sr fun K1 hK2 => ?_
 obtain ⟨p3, w4, r5, H6⟩ := H.box (P := Try.prog) 26 (hdC v A R t b n) (.agg (hdC v A R t b n).toArray) rfl
 refine GL.s 1 (r5) [(1, pt p3 0)] ?_
 refine GL.r 2 1 [(1, pt p3 0)] ?_
 refine GL.q hK2 ?_
 refine G.sr fun K7 hK8 => ?_
 refine GL.r 1 1 [(1, pt p3 0), (3, pt p3 0)] ?_
 refine GL.s 2 (H6.ld (o := 0) (ty := 22) (v := vw v) 0 rfl (by kernel_rfl) (rfl)) [(1, pt p3 0), (4, vw v)] ?_
 refine GL.r 3 1 [(1, pt p3 0), (4, vw v), (5, pt p3 1)] ?_
 refine GL.s 4 (H6.ldA (o := 1) (ty := 24) (m := 32) (sub := by8 A) 0 rfl (by kernel_rfl) (hdC_A hA) (by rw [by8_length]; exact hA)) [(1, pt p3 0), (4, vw v), (6, .agg (by8 A).toArray)] ?_
 refine GL.r 5 1 [(1, pt p3 0), (4, vw v), (6, .agg (by8 A).toArray), (7, pt p3 33)] ?_
 refine GL.s 6 (H6.ldA (o := 33) (ty := 24) (m := 32) (sub := by8 R) 0 rfl (by kernel_rfl) (hdC_R hA hR) (by rw [by8_length]; exact hR)) [(1, pt p3 0), (4, vw v), (6, .agg (by8 A).toArray), (8, .agg (by8 R).toArray)] ?_
 refine GL.r 7 1 [(1, pt p3 0), (4, vw v), (6, .agg (by8 A).toArray), (8, .agg (by8 R).toArray), (9, pt p3 65)] ?_
 refine GL.s 8 (H6.ld (o := 65) (ty := 22) (v := vw t) 0 rfl (by kernel_rfl) (hdC_t hA hR)) [(1, pt p3 0), (4, vw v), (6, .agg (by8 A).toArray), (8, .agg (by8 R).toArray), (10, vw t)] ?_
 refine GL.r 9 1 [(1, pt p3 0), (4, vw v), (6, .agg (by8 A).toArray), (8, .agg (by8 R).toArray), (10, vw t), (11, pt p3 66)] ?_
 refine GL.s 10 (H6.ld (o := 66) (ty := 22) (v := vw b) 0 rfl (by kernel_rfl) (hdC_b hA hR)) [(1, pt p3 0), (4, vw v), (6, .agg (by8 A).toArray), (8, .agg (by8 R).toArray), (10, vw t), (12, vw b)] ?_
 refine GL.r 11 1 [(4, vw v), (6, .agg (by8 A).toArray), (8, .agg (by8 R).toArray), (10, vw t), (12, vw b), (13, pt p3 67)] ?_
 refine GL.s 12 (H6.ld (o := 67) (ty := 22) (v := vw n) 0 rfl (by kernel_rfl) (hdC_n hA hR)) [(4, vw v), (6, .agg (by8 A).toArray), (8, .agg (by8 R).toArray), (10, vw t), (12, vw b), (14, vw n)] ?_
 refine GL.call (j := 13) (RBytes_calls v A R t b n w4 hA hR (by omega) (by omega) (by omega) (by omega)) (by kernel_rfl) rfl (fun e_ w11 hR => ?_)
 obtain ⟨A9, c10, rfl, H13⟩ := hR
 have H12 : Hp w [] [.blk p3 (hdC v A R t b n) 26, .row A9 80 c10 5 1 (by8 (hdB v A R t b n))] w11 := H6.callNew H13
 refine ⟨_, rfl, [15], [(15, .slice A9 80 c10)], by kernel_rfl, ?_⟩
 refine GL.r 14 1 [(2, .slice A9 80 c10)] ?_
 refine GL.q hK8 ?_
 refine G.ret fun F_ hF_ hM_ => hRet _ _ (bodyPost_1 rfl (RV.tmp rfl) ?_ F_ hF_ hM_)
 exact ⟨_, _, rfl, H12.sub (List.Sublist.cons _ (List.Sublist.cons_cons _ (List.Sublist.slnil)))⟩
end Go.Proofs.Ytdepaaphgfapjaa
set_option maxRecDepth 100000
namespace Go.Proofs.Ytdepaaphgfapjaa
open Go.RowKit
theorem bl_fits {m k n : Nat} (h0 : m ≠ 0) (h : m * 2 ^ k < 2 ^ n) : bl m + k ≤ n := by
 have h1 : 2 ^ k ≤ m * 2 ^ k := Nat.le_mul_of_pos_left _ (by omega)
 have hk : k < n := (Nat.pow_lt_pow_iff_right (by decide : 1 < 2)).1 (Nat.lt_of_le_of_lt h1 h)
 have h2 : m < 2 ^ (n - k) := by
   refine Nat.lt_of_mul_lt_mul_right (a := 2 ^ k) ?_
   rwa [← Nat.pow_add, show n - k + k = n by omega]
 have := bl_le h2
 omega
theorem bl_over {m k n : Nat} (h : 2 ^ n ≤ m * 2 ^ k) : n < bl m + k := by
 refine (Nat.pow_lt_pow_iff_right (by decide : 1 < 2)).1 (Nat.lt_of_le_of_lt h ?_)
 rw [Nat.pow_add]
 exact Nat.mul_lt_mul_of_pos_right (bl_lt m) (Nat.two_pow_pos k)
def refT (b : Nat) : Nat := if 3 ≤ b / 16777216 then b % 8388608 * 256 ^ (b / 16777216 - 3) else b % 8388608 / 256 ^ (3 - b / 16777216)
def refOK (b : Nat) : Bool := (!(decide (b / 8388608 % 2 = 1) && decide (0 < b % 8388608))) && decide (0 < refT b) && decide (refT b < K4)
theorem pow256 (k : Nat) : 256 ^ k = 2 ^ (8 * k) := by rw [Nat.pow_mul]
theorem refT_dec {b : Nat} (h : refT b < K4) : decT b = refT b := by
 unfold refT at h
 unfold decT refT
 rw [pow256, pow256] at *
 split
 · rename_i h3
   rw [if_pos h3] at h
   exact Nat.mod_eq_of_lt h
 · rfl
theorem refOK_iff (b : Nat) : refOK b = decide (decE b = 0) ∧ (decE b = 0 ∨ decE b = 6) := by
 unfold refOK
 by_cases h1 : b / 8388608 % 2 = 1 ∧ b % 8388608 ≠ 0
 · have h2 : decE b = 6 := if_pos h1
   rw [h2, decide_eq_true h1.1, decide_eq_true (show 0 < b % 8388608 by omega)]
   exact ⟨rfl, .inr rfl⟩
 · have h2 : (!(decide (b / 8388608 % 2 = 1) && decide (0 < b % 8388608))) = true := by
     rw [Bool.not_eq_true', Bool.and_eq_false_iff]
     by_cases h3 : b / 8388608 % 2 = 1
     · exact .inr (decide_eq_false (by omega))
     · exact .inl (decide_eq_false h3)
   rw [h2, Bool.true_and]
   by_cases h4 : refT b < K4
   · have h5 := refT_dec h4
     have h6 : ¬ (3 < b / 16777216 ∧ 256 < bl (b % 8388608) + 8 * (b / 16777216 - 3)) ∨ refT b = 0 := by
       by_cases h7 : b % 8388608 = 0
       · right
         unfold refT
         rw [h7]
         split
         · rw [Nat.zero_mul]
         · rw [Nat.zero_div]
       · left
         rintro ⟨h8, h9⟩
         rw [show refT b = b % 8388608 * 256 ^ (b / 16777216 - 3) from if_pos (by omega), pow256] at h4
         have := bl_fits (n := 256) (k := 8 * (b / 16777216 - 3)) h7 (by rw [show 2 ^ 256 = K4 by decide]; exact h4)
         omega
     rw [decide_eq_true h4, Bool.and_true]
     by_cases h0 : refT b = 0
     · have : decE b = 6 := by
         unfold decE
         rw [if_neg h1]
         split
         · rfl
         · rw [if_pos (by rw [h5]; exact h0)]
       rw [this, h0]
       exact ⟨rfl, .inr rfl⟩
     · have : decE b = 0 := by
         unfold decE
         rw [if_neg h1, if_neg (h6.resolve_right h0), if_neg (by rw [h5]; exact h0)]
       rw [this, decide_eq_true (show 0 < refT b by omega)]
       exact ⟨rfl, .inl rfl⟩
   · have : decE b = 6 := by
       unfold decE
       rw [if_neg h1]
       by_cases h3 : 3 < b / 16777216
       · rw [if_pos]
         refine ⟨h3, bl_over ?_⟩
         rw [show refT b = b % 8388608 * 256 ^ (b / 16777216 - 3) from if_pos (by omega), pow256] at h4
         rw [show 2 ^ 256 = K4 by decide]
         omega
       · exfalso
         apply h4
         have hM : b % 8388608 < 8388608 := Nat.mod_lt _ (by decide)
         unfold refT
         split
         · rw [show b / 16777216 - 3 = 0 by omega, Nat.pow_zero, Nat.mul_one]
           exact Nat.lt_trans hM (by decide)
         · exact Nat.lt_of_le_of_lt (Nat.div_le_self _ _) (Nat.lt_trans hM (by decide))
     rw [this, decide_eq_false h4, Bool.and_false]
     exact ⟨rfl, .inr rfl⟩
theorem refR_dec {b : Nat} (h : decE b = 0) : decR b = refT b := by
 have h1 := (refOK_iff b).1
 rw [h, decide_eq_true rfl] at h1
 unfold refOK at h1
 rw [Bool.and_eq_true, Bool.and_eq_true, decide_eq_true_eq, decide_eq_true_eq] at h1
 rw [show decR b = decT b from if_pos h, refT_dec h1.2]
end Go.Proofs.Ytdepaaphgfapjaa
set_option maxRecDepth 100000
namespace Go.Proofs.Ytdepaaphgfapjaa
open Go.RowKit
theorem trim_calls (ds : List Nat) (n : Nat) (hn : n = ds.length) (A : Option Addr) (c : Nat) (w : World) (hr : RdS w A (dg ds)) (hok : ok16 ds) (hc : n ≤ c) (hb : n ≤ 1099511627776) : Calls Try.prog 29 #[.slice A n c] w fun e w' => e = .returned (.slice A (ndg (val ds)) c) ∧ Hp w [] [] w' := by
 subst hn
 refine calls_G (args := [.slice A ds.length c]) Try.func29 rfl Try.ntmps29 rfl ?_
 intro Q0 hRet hNor hPan
 have H := Hp.start w
 refine G.sr fun K1 hK2 => ?_
 refine GL.r 1 1 [(0, .slice A ds.length c)] ?_
 refine GL.q hK2 ?_
 refine G.seqK fun K3 hK4 => ?_
 refine G.block ?_
 refine G.fit [0] (M' := [(0, .slice A ds.length c)]) (by kernel_rfl) ?_
 refine G.loop (X := Nat) (fun m => [(0, .slice A m c)]) (fun m w_ => (m ≤ ds.length ∧ val (ds.take m) = val ds) ∧ Hp w [] [] w_) (fun m => m) ds.length [0] (by kernel_rfl) ⟨⟨Nat.le_refl _, by rw [List.take_length]⟩, H⟩ ?_
 rintro m w5 ⟨hi6, H7⟩
 refine G.eq (M' := [(0, .slice A m c)]) rfl ?_
 obtain ⟨hm, hv⟩ := hi6
 refine G.seqK fun K8 hK9 => ?_
 refine G.sr fun K10 hK11 => ?_
 refine GL.r 4 4 [(0, .slice A m c), (6, .bool (decide (0 < (m : Int))))] ?_
 cases hb12 : (decide (0 < (m : Int)))
 · skip
   have hb12f := of_decide_eq_false hb12
   have hlast : m = 0 ∨ ∃ d, ds[m - 1]? = some d ∧ d ≠ 0 := .inl (by omega)
   refine GL.r 12 8 [(0, .slice A m c), (14, .bool false)] ?_
   refine GL.q hK11 ?_
   refine G.no rfl ?_
   refine G.exitK hK4 (fun _ _ h => h) ?_
   refine G.sr fun K13 hK14 => ?_
   refine GL.r 2 2 [(2, .slice A m c)] ?_
   refine GL.q hK14 ?_
   refine G.ret fun F_ hF_ hM_ => hRet _ _ (bodyPost_1 rfl (RV.tmp rfl) ?_ F_ hF_ hM_)
   obtain ⟨e1, e2⟩ := trimmed hok hm hv hlast
   rw [e2]
   exact ⟨rfl, H7.sub (List.nil_sublist _)⟩
 · skip
   have hb12f := of_decide_eq_true hb12
   refine GL.r 8 4 [(0, .slice A m c), (6, .bool true), (7, .slice A m c), (10, li (IntKind.i64.wrap ((m : Int) - 1)))] ?_
   have e15 : (IntKind.i64.wrap ((m : Int) - 1)) = ((m - 1 : Nat) : Int) := by rw [in_i64 (by omega)]; omega
   rw [e15]
   clear e15
   refine GL.s 9 (run_idxRd (P := Try.prog) (k := .i64) (t := 35) (A := A) (len := m) (cap := c) (j := m - 1) (by kernel_rfl) rfl ((hr.hp H7).takeD m) (by first | exact dg_length _ | rw [dg_length]; first | rfl | assumption | (symm; assumption) | (simp; done) | (rw [List.length_take]; omega) | omega) (by omega)) [(0, .slice A m c), (6, .bool true), (11, .pointer (Option.map (fun x => Addr.add x (m - 1)) A))] ?_
   obtain ⟨d16, hd17⟩ : ∃ d : Nat, ((ds.take m))[m - 1]? = some d := ⟨_, List.getElem?_eq_getElem (by rw [List.length_take]; omega)⟩
   have hdm : ds[m - 1]? = some d16 := by have := hd17; rwa [List.getElem?_take_of_lt (by omega)] at this
   refine GL.s 10 (run_ldRd (P := Try.prog) (ty := 31) (A := A) (j := m - 1) (v := vu d16) (by kernel_rfl) ((hr.hp H7).takeD m) (dg_at hd17)) [(0, .slice A m c), (6, .bool true), (12, vu d16)] ?_
   refine GL.r 12 2 [(0, .slice A m c), (14, .bool ((d16 : Int) == 0))] ?_
   refine GL.q hK11 ?_
   cases hb18 : ((d16 : Int) == 0)
   · skip
     have hb18f := ne_of_beq_false hb18
     have hlast : m = 0 ∨ ∃ d, ds[m - 1]? = some d ∧ d ≠ 0 := .inr ⟨_, hdm, by omega⟩
     refine G.no rfl ?_
     refine G.exitK hK4 (fun _ _ h => h) ?_
     refine G.sr fun K19 hK20 => ?_
     refine GL.r 2 2 [(2, .slice A m c)] ?_
     refine GL.q hK20 ?_
     refine G.ret fun F_ hF_ hM_ => hRet _ _ (bodyPost_1 rfl (RV.tmp rfl) ?_ F_ hF_ hM_)
     obtain ⟨e1, e2⟩ := trimmed hok hm hv hlast
     rw [e2]
     exact ⟨rfl, H7.sub (List.nil_sublist _)⟩
   · skip
     have hb18f := eq_of_beq hb18
     have hd0 : d16 = 0 := by omega
     refine G.yes rfl ?_
     refine G.skipK hK9 (fun _ _ h => h) ?_
     refine G.block ?_
     refine G.region ?_
     refine GL.r 4 4 [(15, .slice A m c), (18, li (IntKind.i64.wrap ((m : Int) - 1)))] ?_
     have e21 : (IntKind.i64.wrap ((m : Int) - 1)) = ((m - 1 : Nat) : Int) := by rw [in_i64 (by omega)]; omega
     rw [e21]
     clear e21
     refine GL.s 5 (run_sliceSl0 (P := Try.prog) (lo := none) (hi := some (vi (m - 1))) (t := 35) (len := m) (cap := c) (A := A) (h := m - 1) (by kernel_rfl) (Or.inl ⟨rfl, rfl⟩) (Or.inr ⟨_, _, rfl, rfl⟩) (by omega)) [(19, .slice A (m - 1) c)] ?_
     refine GL.r 6 1 [(0, .slice A (m - 1) c)] ?_
     exact GL.againB (m - 1) [0] rfl (by kernel_rfl) (by show (m - 1) < m; omega) ⟨⟨by omega, by rw [← hv]; have := val_take hdm; rw [show m - 1 + 1 = m from by omega, hd0, Nat.mul_zero, Nat.add_zero] at this; exact this.symm⟩, H7⟩
theorem digit_calls (a i : Nat) (A : Option Addr) (c : Nat) (w : World) (hr : RdS w A (dg (digs a))) : Calls Try.prog 28 #[.slice A (ndg a) c, .int .i64 (i : Int)] w fun e w' => e = .returned (.int .u64 ((dgt a i : Nat) : Int)) ∧ Hp w [] [] w' := by
 refine calls_G (args := [.slice A (ndg a) c, vi i]) Try.func28 rfl Try.ntmps28 rfl ?_
 intro Q0 hRet hNor hPan
 have H := Hp.start w
 refine G.sr fun K1 hK2 => ?_
 refine GL.r 1 1 [(0, .slice A (ndg a) c), (1, vi i)] ?_
 refine GL.q hK2 ?_
 refine G.seqK fun K3 hK4 => ?_
 refine G.sr fun K5 hK6 => ?_
 refine GL.r 4 4 [(0, .slice A (ndg a) c), (1, vi i), (8, .bool (decide ((i : Int) < (((ndg a) : Nat) : Int))))] ?_
 refine GL.q hK6 ?_
 cases hb7 : (decide ((i : Int) < (((ndg a) : Nat) : Int)))
 · skip
   have hb7f := of_decide_eq_false hb7
   refine G.no rfl ?_
   refine G.skipK hK4 (fun _ _ h => h) ?_
   refine G.sr fun K8 hK9 => ?_
   refine GL.r 1 1 [(4, lu 0)] ?_
   refine GL.q hK9 ?_
   refine G.ret fun F_ hF_ hM_ => hRet _ _ (bodyPost_1 rfl (RV.tmp rfl) ?_ F_ hF_ hM_)
   rw [dgt_zero (by omega)]
   exact ⟨rfl, H.sub (List.nil_sublist _)⟩
 · skip
   have hb7f := of_decide_eq_true hb7
   refine G.yes rfl ?_
   refine G.sr fun K10 hK11 => ?_
   refine GL.r 2 2 [(9, .slice A (ndg a) c), (10, vi i)] ?_
   refine GL.s 3 (run_idxRd (P := Try.prog) (k := .i64) (t := 35) (A := A) (len := (ndg a)) (cap := c) (j := i) (by kernel_rfl) rfl (hr.hp H) (dg_digs _) (by omega)) [(11, .pointer (Option.map (fun x => Addr.add x i) A))] ?_
   refine GL.s 4 (run_ldRd (P := Try.prog) (ty := 31) (A := A) (j := i) (v := .int .u64 ((dgt a i) : Int)) (by kernel_rfl) (hr.hp H) (dg_at (digs_get (by omega)))) [(12, lu ((dgt a i) : Int))] ?_
   refine GL.r 5 1 [(4, lu ((dgt a i) : Int))] ?_
   refine GL.q hK11 ?_
   refine G.ret fun F_ hF_ hM_ => hRet _ _ (bodyPost_1 rfl (RV.tmp rfl) ?_ F_ hF_ hM_)
   exact ⟨rfl, H.sub (List.nil_sublist _)⟩
set_option maxHeartbeats 2000000 in
theorem Of_calls_n (x : Nat) (hx : x < K4) (w : World) : Calls Try.prog 11 #[wv x] w fun e w' => ∃ A c, e = .returned ((.slice A (ndg x) c)) ∧ Hp w [] [.row A (ndg x) c 31 1 (dg (digs x))] w' := by
 refine calls_G (args := [wv x]) Try.func11 rfl Try.ntmps11 rfl ?_
 intro Q0 hRet hNor hPan
 have H := Hp.start w
 have H : Hp w [] [] w := H
 refine G.sr fun K1 hK2 => ?_
 obtain ⟨p3, w4, r5, H6⟩ := H.box (P := Try.prog) 32 [vu (wd x 0), vu (wd x 1), vu (wd x 2), vu (wd x 3)] (wv x) rfl
 have H6 : Hp w [] [.blk p3 [vu (wd x 0), vu (wd x 1), vu (wd x 2), vu (wd x 3)] 32] w4 := H6
 refine GL.s 1 (r5) [(1, pt p3 0)] ?_
 refine GL.r 2 1 [(1, pt p3 0)] ?_
 refine GL.q hK2 ?_
 refine G.sr fun K7 hK8 => ?_
 obtain ⟨p9, w10, r11, H12⟩ := H6.madeRow (P := Try.prog) (Instr.buildSlice 35 0 #[]) (fun b_ => .slice (some ⟨b_, 0, none⟩) 0 0) [] 31 0 0 1 (by kernel_rfl) (by decide) (by decide) rfl
 have H12 : Hp w [] [.blk p3 [vu (wd x 0), vu (wd x 1), vu (wd x 2), vu (wd x 3)] 32, .row (some ⟨p9, 0, none⟩) 0 0 31 1 (dg [])] w10 := H12
 refine GL.s 1 (r11) [(1, pt p3 0), (7, .slice (some ⟨p9, 0, none⟩) 0 0)] ?_
 refine GL.r 2 1 [(1, pt p3 0), (3, .slice (some ⟨p9, 0, none⟩) 0 0)] ?_
 refine GL.q hK8 ?_
 refine G.seqK fun K13 hK14 => ?_
 refine G.sr fun K15 hK16 => ?_
 refine GL.s 1 (H12.ldA (o := 0) (ty := 32) (m := 4) (sub := [vu (wd x 0), vu (wd x 1), vu (wd x 2), vu (wd x 3)]) 0 rfl (by kernel_rfl) rfl rfl) [(3, .slice (some ⟨p9, 0, none⟩) 0 0), (8, wv x)] ?_
 refine GL.r 2 1 [(3, .slice (some ⟨p9, 0, none⟩) 0 0), (8, wv x), (9, li 0)] ?_
 refine GL.q hK16 ?_
 refine G.block ?_
 refine G.unroll 4 ?_
 refine G.sr fun K17 hK18 => ?_
 refine GL.r 1 1 [(3, .slice (some ⟨p9, 0, none⟩) 0 0), (8, wv x), (9, li 0), (10, .bool true)] ?_
 refine GL.q hK18 ?_
 refine G.seqK fun K19 hK20 => ?_
 refine G.yes rfl ?_
 refine G.skipK hK20 (fun _ _ h => h) ?_
 refine G.seqK fun K21 hK22 => ?_
 refine G.block ?_
 refine G.sr fun K23 hK24 => ?_
 refine GL.r 2 2 [(3, .slice (some ⟨p9, 0, none⟩) 0 0), (5, vu (wd x 0)), (8, wv x), (9, li 0)] ?_
 refine GL.q hK24 ?_
 refine G.sr fun K25 hK26 => ?_
 refine GL.r 1 1 [(3, .slice (some ⟨p9, 0, none⟩) 0 0), (5, vu (wd x 0)), (6, li 0), (8, wv x), (9, li 0)] ?_
 refine GL.q hK26 ?_
 refine G.block ?_
 refine G.unroll 4 ?_
 refine G.seqK fun K27 hK28 => ?_
 refine G.sr fun K29 hK30 => ?_
 refine GL.r 2 2 [(3, .slice (some ⟨p9, 0, none⟩) 0 0), (5, vu (wd x 0)), (6, li 0), (8, wv x), (9, li 0), (13, .bool true)] ?_
 refine GL.q hK30 ?_
 refine G.yes rfl ?_
 refine G.skipK hK28 (fun _ _ h => h) ?_
 refine G.seqK fun K31 hK32 => ?_
 refine G.block ?_
 refine G.region ?_
 refine GL.r 6 6 [(5, vu (wd x 0)), (6, li 0), (8, wv x), (9, li 0), (16, .slice (some ⟨p9, 0, none⟩) 0 0), (21, lu (Int.tmod (Int.fdiv (wd x 0 : Int) (2 ^ 0)) 65536))] ?_
 have e33 : (Int.fdiv (wd x 0 : Int) (2 ^ 0)) = (((wd x 0) / 2 ^ 0 : Nat) : Int) := n_shr _ 0
 have e34 : (Int.tmod (((wd x 0) / 2 ^ 0 : Nat) : Int) 65536) = ((((wd x 0) / 2 ^ 0) % 65536 : Nat) : Int) := n_rem _ 65536
 rw [e33, e34]
 clear e33 e34
 obtain ⟨p35, w36, r37, H38⟩ := H12.madeRow (P := Try.prog) (Instr.buildSlice 35 1 #[(0, vu (((wd x 0) / 2 ^ 0) % 65536))]) (fun b_ => .slice (some ⟨b_, 0, none⟩) 1 1) [vu (((wd x 0) / 2 ^ 0) % 65536)] 31 1 1 1 (by kernel_rfl) (by decide) (by decide) rfl
 have H38 : Hp w [] [.blk p3 [vu (wd x 0), vu (wd x 1), vu (wd x 2), vu (wd x 3)] 32, .row (some ⟨p9, 0, none⟩) 0 0 31 1 (dg []), .row (some ⟨p35, 0, none⟩) 1 1 31 1 (dg [((wd x 0) / 2 ^ 0) % 65536])] w36 := H38
 refine GL.s 7 (r37) [(5, vu (wd x 0)), (6, li 0), (8, wv x), (9, li 0), (16, .slice (some ⟨p9, 0, none⟩) 0 0), (22, .slice (some ⟨p35, 0, none⟩) 1 1)] ?_
 obtain ⟨A39, c40, w41, r42, H43⟩ := H38.append (P := Try.prog) (e := 31) (sz := 1) (by_ := 8) (n := 0) (c := 0) (m := 1) (d := 1) (t := 35) (ty := 35) (xs := dg []) (news := dg [((wd x 0) / 2 ^ 0) % 65536]) 1 rfl (by kernel_rfl) (H38.rdRow 2 rfl) (by simp [dg_length]) (dg_one _) (by omega) (by simp only [maxLen]; omega)
 have H43 : Hp w [] [.blk p3 [vu (wd x 0), vu (wd x 1), vu (wd x 2), vu (wd x 3)] 32, .row A39 1 c40 31 1 (dg [((wd x 0) / 2 ^ 0) % 65536]), .row (some ⟨p35, 0, none⟩) 1 1 31 1 (dg [((wd x 0) / 2 ^ 0) % 65536])] w41 := H43
 refine GL.s 8 (r42) [(5, vu (wd x 0)), (6, li 0), (8, wv x), (9, li 0), (23, .slice A39 1 c40)] ?_
 refine GL.r 9 1 [(3, .slice A39 1 c40), (5, vu (wd x 0)), (6, li 0), (8, wv x), (9, li 0)] ?_
 refine GL.q hK32 ?_
 refine G.region ?_
 refine GL.r 3 3 [(3, .slice A39 1 c40), (5, vu (wd x 0)), (6, li 1), (8, wv x), (9, li 0)] ?_
 refine GL.round rfl ?_
 refine G.seqK fun K44 hK45 => ?_
 refine G.sr fun K46 hK47 => ?_
 refine GL.r 2 2 [(3, .slice A39 1 c40), (5, vu (wd x 0)), (6, li 1), (8, wv x), (9, li 0), (13, .bool true)] ?_
 refine GL.q hK47 ?_
 refine G.yes rfl ?_
 refine G.skipK hK45 (fun _ _ h => h) ?_
 refine G.seqK fun K48 hK49 => ?_
 refine G.block ?_
 refine G.region ?_
 refine GL.r 6 6 [(5, vu (wd x 0)), (6, li 1), (8, wv x), (9, li 0), (16, .slice A39 1 c40), (21, lu (Int.tmod (Int.fdiv (wd x 0 : Int) (2 ^ 16)) 65536))] ?_
 have e50 : (Int.fdiv (wd x 0 : Int) (2 ^ 16)) = (((wd x 0) / 2 ^ 16 : Nat) : Int) := n_shr _ 16
 have e51 : (Int.tmod (((wd x 0) / 2 ^ 16 : Nat) : Int) 65536) = ((((wd x 0) / 2 ^ 16) % 65536 : Nat) : Int) := n_rem _ 65536
 rw [e50, e51]
 clear e50 e51
 obtain ⟨p52, w53, r54, H55⟩ := H43.madeRow (P := Try.prog) (Instr.buildSlice 35 1 #[(0, vu (((wd x 0) / 2 ^ 16) % 65536))]) (fun b_ => .slice (some ⟨b_, 0, none⟩) 1 1) [vu (((wd x 0) / 2 ^ 16) % 65536)] 31 1 1 1 (by kernel_rfl) (by decide) (by decide) rfl
 have H55 : Hp w [] [.blk p3 [vu (wd x 0), vu (wd x 1), vu (wd x 2), vu (wd x 3)] 32, .row A39 1 c40 31 1 (dg [((wd x 0) / 2 ^ 0) % 65536]), .row (some ⟨p35, 0, none⟩) 1 1 31 1 (dg [((wd x 0) / 2 ^ 0) % 65536]), .row (some ⟨p52, 0, none⟩) 1 1 31 1 (dg [((wd x 0) / 2 ^ 16) % 65536])] w53 := H55
 refine GL.s 7 (r54) [(5, vu (wd x 0)), (6, li 1), (8, wv x), (9, li 0), (16, .slice A39 1 c40), (22, .slice (some ⟨p52, 0, none⟩) 1 1)] ?_
 obtain ⟨A56, c57, w58, r59, H60⟩ := H55.append (P := Try.prog) (e := 31) (sz := 1) (by_ := 8) (n := 1) (c := c40) (m := 1) (d := 1) (t := 35) (ty := 35) (xs := dg [((wd x 0) / 2 ^ 0) % 65536]) (news := dg [((wd x 0) / 2 ^ 16) % 65536]) 1 rfl (by kernel_rfl) (H55.rdRow 3 rfl) (by simp [dg_length]) (dg_one _) (by omega) (by simp only [maxLen]; omega)
 have H60 : Hp w [] [.blk p3 [vu (wd x 0), vu (wd x 1), vu (wd x 2), vu (wd x 3)] 32, .row A56 2 c57 31 1 (dg [((wd x 0) / 2 ^ 0) % 65536, ((wd x 0) / 2 ^ 16) % 65536]), .row (some ⟨p35, 0, none⟩) 1 1 31 1 (dg [((wd x 0) / 2 ^ 0) % 65536]), .row (some ⟨p52, 0, none⟩) 1 1 31 1 (dg [((wd x 0) / 2 ^ 16) % 65536])] w58 := H60
 refine GL.s 8 (r59) [(5, vu (wd x 0)), (6, li 1), (8, wv x), (9, li 0), (23, .slice A56 2 c57)] ?_
 refine GL.r 9 1 [(3, .slice A56 2 c57), (5, vu (wd x 0)), (6, li 1), (8, wv x), (9, li 0)] ?_
 refine GL.q hK49 ?_
 refine G.region ?_
 refine GL.r 3 3 [(3, .slice A56 2 c57), (5, vu (wd x 0)), (6, li 2), (8, wv x), (9, li 0)] ?_
 refine GL.round rfl ?_
 refine G.seqK fun K61 hK62 => ?_
 refine G.sr fun K63 hK64 => ?_
 refine GL.r 2 2 [(3, .slice A56 2 c57), (5, vu (wd x 0)), (6, li 2), (8, wv x), (9, li 0), (13, .bool true)] ?_
 refine GL.q hK64 ?_
 refine G.yes rfl ?_
 refine G.skipK hK62 (fun _ _ h => h) ?_
 refine G.seqK fun K65 hK66 => ?_
 refine G.block ?_
 refine G.region ?_
 refine GL.r 6 6 [(5, vu (wd x 0)), (6, li 2), (8, wv x), (9, li 0), (16, .slice A56 2 c57), (21, lu (Int.tmod (Int.fdiv (wd x 0 : Int) (2 ^ 32)) 65536))] ?_
 have e67 : (Int.fdiv (wd x 0 : Int) (2 ^ 32)) = (((wd x 0) / 2 ^ 32 : Nat) : Int) := n_shr _ 32
 have e68 : (Int.tmod (((wd x 0) / 2 ^ 32 : Nat) : Int) 65536) = ((((wd x 0) / 2 ^ 32) % 65536 : Nat) : Int) := n_rem _ 65536
 rw [e67, e68]
 clear e67 e68
 obtain ⟨p69, w70, r71, H72⟩ := H60.madeRow (P := Try.prog) (Instr.buildSlice 35 1 #[(0, vu (((wd x 0) / 2 ^ 32) % 65536))]) (fun b_ => .slice (some ⟨b_, 0, none⟩) 1 1) [vu (((wd x 0) / 2 ^ 32) % 65536)] 31 1 1 1 (by kernel_rfl) (by decide) (by decide) rfl
 have H72 : Hp w [] [.blk p3 [vu (wd x 0), vu (wd x 1), vu (wd x 2), vu (wd x 3)] 32, .row A56 2 c57 31 1 (dg [((wd x 0) / 2 ^ 0) % 65536, ((wd x 0) / 2 ^ 16) % 65536]), .row (some ⟨p35, 0, none⟩) 1 1 31 1 (dg [((wd x 0) / 2 ^ 0) % 65536]), .row (some ⟨p52, 0, none⟩) 1 1 31 1 (dg [((wd x 0) / 2 ^ 16) % 65536]), .row (some ⟨p69, 0, none⟩) 1 1 31 1 (dg [((wd x 0) / 2 ^ 32) % 65536])] w70 := H72
 refine GL.s 7 (r71) [(5, vu (wd x 0)), (6, li 2), (8, wv x), (9, li 0), (16, .slice A56 2 c57), (22, .slice (some ⟨p69, 0, none⟩) 1 1)] ?_
 obtain ⟨A73, c74, w75, r76, H77⟩ := H72.append (P := Try.prog) (e := 31) (sz := 1) (by_ := 8) (n := 2) (c := c57) (m := 1) (d := 1) (t := 35) (ty := 35) (xs := dg [((wd x 0) / 2 ^ 0) % 65536, ((wd x 0) / 2 ^ 16) % 65536]) (news := dg [((wd x 0) / 2 ^ 32) % 65536]) 1 rfl (by kernel_rfl) (H72.rdRow 4 rfl) (by simp [dg_length]) (dg_one _) (by omega) (by simp only [maxLen]; omega)
 have H77 : Hp w [] [.blk p3 [vu (wd x 0), vu (wd x 1), vu (wd x 2), vu (wd x 3)] 32, .row A73 3 c74 31 1 (dg [((wd x 0) / 2 ^ 0) % 65536, ((wd x 0) / 2 ^ 16) % 65536, ((wd x 0) / 2 ^ 32) % 65536]), .row (some ⟨p35, 0, none⟩) 1 1 31 1 (dg [((wd x 0) / 2 ^ 0) % 65536]), .row (some ⟨p52, 0, none⟩) 1 1 31 1 (dg [((wd x 0) / 2 ^ 16) % 65536]), .row (some ⟨p69, 0, none⟩) 1 1 31 1 (dg [((wd x 0) / 2 ^ 32) % 65536])] w75 := H77
 refine GL.s 8 (r76) [(5, vu (wd x 0)), (6, li 2), (8, wv x), (9, li 0), (23, .slice A73 3 c74)] ?_
 refine GL.r 9 1 [(3, .slice A73 3 c74), (5, vu (wd x 0)), (6, li 2), (8, wv x), (9, li 0)] ?_
 refine GL.q hK66 ?_
 refine G.region ?_
 refine GL.r 3 3 [(3, .slice A73 3 c74), (5, vu (wd x 0)), (6, li 3), (8, wv x), (9, li 0)] ?_
 refine GL.round rfl ?_
 refine G.seqK fun K78 hK79 => ?_
 refine G.sr fun K80 hK81 => ?_
 refine GL.r 2 2 [(3, .slice A73 3 c74), (5, vu (wd x 0)), (6, li 3), (8, wv x), (9, li 0), (13, .bool true)] ?_
 refine GL.q hK81 ?_
 refine G.yes rfl ?_
 refine G.skipK hK79 (fun _ _ h => h) ?_
 refine G.seqK fun K82 hK83 => ?_
 refine G.block ?_
 refine G.region ?_
 refine GL.r 6 6 [(5, vu (wd x 0)), (6, li 3), (8, wv x), (9, li 0), (16, .slice A73 3 c74), (21, lu (Int.tmod (Int.fdiv (wd x 0 : Int) (2 ^ 48)) 65536))] ?_
 have e84 : (Int.fdiv (wd x 0 : Int) (2 ^ 48)) = (((wd x 0) / 2 ^ 48 : Nat) : Int) := n_shr _ 48
 have e85 : (Int.tmod (((wd x 0) / 2 ^ 48 : Nat) : Int) 65536) = ((((wd x 0) / 2 ^ 48) % 65536 : Nat) : Int) := n_rem _ 65536
 rw [e84, e85]
 clear e84 e85
 obtain ⟨p86, w87, r88, H89⟩ := H77.madeRow (P := Try.prog) (Instr.buildSlice 35 1 #[(0, vu (((wd x 0) / 2 ^ 48) % 65536))]) (fun b_ => .slice (some ⟨b_, 0, none⟩) 1 1) [vu (((wd x 0) / 2 ^ 48) % 65536)] 31 1 1 1 (by kernel_rfl) (by decide) (by decide) rfl
 have H89 : Hp w [] [.blk p3 [vu (wd x 0), vu (wd x 1), vu (wd x 2), vu (wd x 3)] 32, .row A73 3 c74 31 1 (dg [((wd x 0) / 2 ^ 0) % 65536, ((wd x 0) / 2 ^ 16) % 65536, ((wd x 0) / 2 ^ 32) % 65536]), .row (some ⟨p35, 0, none⟩) 1 1 31 1 (dg [((wd x 0) / 2 ^ 0) % 65536]), .row (some ⟨p52, 0, none⟩) 1 1 31 1 (dg [((wd x 0) / 2 ^ 16) % 65536]), .row (some ⟨p69, 0, none⟩) 1 1 31 1 (dg [((wd x 0) / 2 ^ 32) % 65536]), .row (some ⟨p86, 0, none⟩) 1 1 31 1 (dg [((wd x 0) / 2 ^ 48) % 65536])] w87 := H89
 refine GL.s 7 (r88) [(5, vu (wd x 0)), (6, li 3), (8, wv x), (9, li 0), (16, .slice A73 3 c74), (22, .slice (some ⟨p86, 0, none⟩) 1 1)] ?_
 obtain ⟨A90, c91, w92, r93, H94⟩ := H89.append (P := Try.prog) (e := 31) (sz := 1) (by_ := 8) (n := 3) (c := c74) (m := 1) (d := 1) (t := 35) (ty := 35) (xs := dg [((wd x 0) / 2 ^ 0) % 65536, ((wd x 0) / 2 ^ 16) % 65536, ((wd x 0) / 2 ^ 32) % 65536]) (news := dg [((wd x 0) / 2 ^ 48) % 65536]) 1 rfl (by kernel_rfl) (H89.rdRow 5 rfl) (by simp [dg_length]) (dg_one _) (by omega) (by simp only [maxLen]; omega)
 have H94 : Hp w [] [.blk p3 [vu (wd x 0), vu (wd x 1), vu (wd x 2), vu (wd x 3)] 32, .row A90 4 c91 31 1 (dg [((wd x 0) / 2 ^ 0) % 65536, ((wd x 0) / 2 ^ 16) % 65536, ((wd x 0) / 2 ^ 32) % 65536, ((wd x 0) / 2 ^ 48) % 65536]), .row (some ⟨p35, 0, none⟩) 1 1 31 1 (dg [((wd x 0) / 2 ^ 0) % 65536]), .row (some ⟨p52, 0, none⟩) 1 1 31 1 (dg [((wd x 0) / 2 ^ 16) % 65536]), .row (some ⟨p69, 0, none⟩) 1 1 31 1 (dg [((wd x 0) / 2 ^ 32) % 65536]), .row (some ⟨p86, 0, none⟩) 1 1 31 1 (dg [((wd x 0) / 2 ^ 48) % 65536])] w92 := H94
 refine GL.s 8 (r93) [(5, vu (wd x 0)), (6, li 3), (8, wv x), (9, li 0), (23, .slice A90 4 c91)] ?_
 refine GL.r 9 1 [(3, .slice A90 4 c91), (5, vu (wd x 0)), (6, li 3), (8, wv x), (9, li 0)] ?_
 refine GL.q hK83 ?_
 refine G.region ?_
 refine GL.r 3 3 [(3, .slice A90 4 c91), (5, vu (wd x 0)), (6, li 4), (8, wv x), (9, li 0)] ?_
 refine GL.round rfl ?_
 refine G.seqK fun K95 hK96 => ?_
 refine G.sr fun K97 hK98 => ?_
 refine GL.r 2 2 [(3, .slice A90 4 c91), (5, vu (wd x 0)), (6, li 4), (8, wv x), (9, li 0), (13, .bool false)] ?_
 refine GL.q hK98 ?_
 refine G.no rfl ?_
 refine G.exitK hK22 (fun _ _ h => h) ?_
 refine G.region ?_
 refine GL.r 2 2 [(3, .slice A90 4 c91), (8, wv x), (9, li 1)] ?_
 refine GL.round rfl ?_
 refine G.sr fun K99 hK100 => ?_
 refine GL.r 1 1 [(3, .slice A90 4 c91), (8, wv x), (9, li 1), (10, .bool true)] ?_
 refine GL.q hK100 ?_
 refine G.seqK fun K101 hK102 => ?_
 refine G.yes rfl ?_
 refine G.skipK hK102 (fun _ _ h => h) ?_
 refine G.seqK fun K103 hK104 => ?_
 refine G.block ?_
 refine G.sr fun K105 hK106 => ?_
 refine GL.r 2 2 [(3, .slice A90 4 c91), (5, vu (wd x 1)), (8, wv x), (9, li 1)] ?_
 refine GL.q hK106 ?_
 refine G.sr fun K107 hK108 => ?_
 refine GL.r 1 1 [(3, .slice A90 4 c91), (5, vu (wd x 1)), (6, li 0), (8, wv x), (9, li 1)] ?_
 refine GL.q hK108 ?_
 refine G.block ?_
 refine G.unroll 4 ?_
 refine G.seqK fun K109 hK110 => ?_
 refine G.sr fun K111 hK112 => ?_
 refine GL.r 2 2 [(3, .slice A90 4 c91), (5, vu (wd x 1)), (6, li 0), (8, wv x), (9, li 1), (13, .bool true)] ?_
 refine GL.q hK112 ?_
 refine G.yes rfl ?_
 refine G.skipK hK110 (fun _ _ h => h) ?_
 refine G.seqK fun K113 hK114 => ?_
 refine G.block ?_
 refine G.region ?_
 refine GL.r 6 6 [(5, vu (wd x 1)), (6, li 0), (8, wv x), (9, li 1), (16, .slice A90 4 c91), (21, lu (Int.tmod (Int.fdiv (wd x 1 : Int) (2 ^ 0)) 65536))] ?_
 have e115 : (Int.fdiv (wd x 1 : Int) (2 ^ 0)) = (((wd x 1) / 2 ^ 0 : Nat) : Int) := n_shr _ 0
 have e116 : (Int.tmod (((wd x 1) / 2 ^ 0 : Nat) : Int) 65536) = ((((wd x 1) / 2 ^ 0) % 65536 : Nat) : Int) := n_rem _ 65536
 rw [e115, e116]
 clear e115 e116
 obtain ⟨p117, w118, r119, H120⟩ := H94.madeRow (P := Try.prog) (Instr.buildSlice 35 1 #[(0, vu (((wd x 1) / 2 ^ 0) % 65536))]) (fun b_ => .slice (some ⟨b_, 0, none⟩) 1 1) [vu (((wd x 1) / 2 ^ 0) % 65536)] 31 1 1 1 (by kernel_rfl) (by decide) (by decide) rfl
 have H120 : Hp w [] [.blk p3 [vu (wd x 0), vu (wd x 1), vu (wd x 2), vu (wd x 3)] 32, .row A90 4 c91 31 1 (dg [((wd x 0) / 2 ^ 0) % 65536, ((wd x 0) / 2 ^ 16) % 65536, ((wd x 0) / 2 ^ 32) % 65536, ((wd x 0) / 2 ^ 48) % 65536]), .row (some ⟨p35, 0, none⟩) 1 1 31 1 (dg [((wd x 0) / 2 ^ 0) % 65536]), .row (some ⟨p52, 0, none⟩) 1 1 31 1 (dg [((wd x 0) / 2 ^ 16) % 65536]), .row (some ⟨p69, 0, none⟩) 1 1 31 1 (dg [((wd x 0) / 2 ^ 32) % 65536]), .row (some ⟨p86, 0, none⟩) 1 1 31 1 (dg [((wd x 0) / 2 ^ 48) % 65536]), .row (some ⟨p117, 0, none⟩) 1 1 31 1 (dg [((wd x 1) / 2 ^ 0) % 65536])] w118 := H120
 refine GL.s 7 (r119) [(5, vu (wd x 1)), (6, li 0), (8, wv x), (9, li 1), (16, .slice A90 4 c91), (22, .slice (some ⟨p117, 0, none⟩) 1 1)] ?_
 obtain ⟨A121, c122, w123, r124, H125⟩ := H120.append (P := Try.prog) (e := 31) (sz := 1) (by_ := 8) (n := 4) (c := c91) (m := 1) (d := 1) (t := 35) (ty := 35) (xs := dg [((wd x 0) / 2 ^ 0) % 65536, ((wd x 0) / 2 ^ 16) % 65536, ((wd x 0) / 2 ^ 32) % 65536, ((wd x 0) / 2 ^ 48) % 65536]) (news := dg [((wd x 1) / 2 ^ 0) % 65536]) 1 rfl (by kernel_rfl) (H120.rdRow 6 rfl) (by simp [dg_length]) (dg_one _) (by omega) (by simp only [maxLen]; omega)
 have H125 : Hp w [] [.blk p3 [vu (wd x 0), vu (wd x 1), vu (wd x 2), vu (wd x 3)] 32, .row A121 5 c122 31 1 (dg [((wd x 0) / 2 ^ 0) % 65536, ((wd x 0) / 2 ^ 16) % 65536, ((wd x 0) / 2 ^ 32) % 65536, ((wd x 0) / 2 ^ 48) % 65536, ((wd x 1) / 2 ^ 0) % 65536]), .row (some ⟨p35, 0, none⟩) 1 1 31 1 (dg [((wd x 0) / 2 ^ 0) % 65536]), .row (some ⟨p52, 0, none⟩) 1 1 31 1 (dg [((wd x 0) / 2 ^ 16) % 65536]), .row (some ⟨p69, 0, none⟩) 1 1 31 1 (dg [((wd x 0) / 2 ^ 32) % 65536]), .row (some ⟨p86, 0, none⟩) 1 1 31 1 (dg [((wd x 0) / 2 ^ 48) % 65536]), .row (some ⟨p117, 0, none⟩) 1 1 31 1 (dg [((wd x 1) / 2 ^ 0) % 65536])] w123 := H125
 refine GL.s 8 (r124) [(5, vu (wd x 1)), (6, li 0), (8, wv x), (9, li 1), (23, .slice A121 5 c122)] ?_
 refine GL.r 9 1 [(3, .slice A121 5 c122), (5, vu (wd x 1)), (6, li 0), (8, wv x), (9, li 1)] ?_
 refine GL.q hK114 ?_
 refine G.region ?_
 refine GL.r 3 3 [(3, .slice A121 5 c122), (5, vu (wd x 1)), (6, li 1), (8, wv x), (9, li 1)] ?_
 refine GL.round rfl ?_
 refine G.seqK fun K126 hK127 => ?_
 refine G.sr fun K128 hK129 => ?_
 refine GL.r 2 2 [(3, .slice A121 5 c122), (5, vu (wd x 1)), (6, li 1), (8, wv x), (9, li 1), (13, .bool true)] ?_
 refine GL.q hK129 ?_
 refine G.yes rfl ?_
 refine G.skipK hK127 (fun _ _ h => h) ?_
 refine G.seqK fun K130 hK131 => ?_
 refine G.block ?_
 refine G.region ?_
 refine GL.r 6 6 [(5, vu (wd x 1)), (6, li 1), (8, wv x), (9, li 1), (16, .slice A121 5 c122), (21, lu (Int.tmod (Int.fdiv (wd x 1 : Int) (2 ^ 16)) 65536))] ?_
 have e132 : (Int.fdiv (wd x 1 : Int) (2 ^ 16)) = (((wd x 1) / 2 ^ 16 : Nat) : Int) := n_shr _ 16
 have e133 : (Int.tmod (((wd x 1) / 2 ^ 16 : Nat) : Int) 65536) = ((((wd x 1) / 2 ^ 16) % 65536 : Nat) : Int) := n_rem _ 65536
 rw [e132, e133]
 clear e132 e133
 obtain ⟨p134, w135, r136, H137⟩ := H125.madeRow (P := Try.prog) (Instr.buildSlice 35 1 #[(0, vu (((wd x 1) / 2 ^ 16) % 65536))]) (fun b_ => .slice (some ⟨b_, 0, none⟩) 1 1) [vu (((wd x 1) / 2 ^ 16) % 65536)] 31 1 1 1 (by kernel_rfl) (by decide) (by decide) rfl
 have H137 : Hp w [] [.blk p3 [vu (wd x 0), vu (wd x 1), vu (wd x 2), vu (wd x 3)] 32, .row A121 5 c122 31 1 (dg [((wd x 0) / 2 ^ 0) % 65536, ((wd x 0) / 2 ^ 16) % 65536, ((wd x 0) / 2 ^ 32) % 65536, ((wd x 0) / 2 ^ 48) % 65536, ((wd x 1) / 2 ^ 0) % 65536]), .row (some ⟨p35, 0, none⟩) 1 1 31 1 (dg [((wd x 0) / 2 ^ 0) % 65536]), .row (some ⟨p52, 0, none⟩) 1 1 31 1 (dg [((wd x 0) / 2 ^ 16) % 65536]), .row (some ⟨p69, 0, none⟩) 1 1 31 1 (dg [((wd x 0) / 2 ^ 32) % 65536]), .row (some ⟨p86, 0, none⟩) 1 1 31 1 (dg [((wd x 0) / 2 ^ 48) % 65536]), .row (some ⟨p117, 0, none⟩) 1 1 31 1 (dg [((wd x 1) / 2 ^ 0) % 65536]), .row (some ⟨p134, 0, none⟩) 1 1 31 1 (dg [((wd x 1) / 2 ^ 16) % 65536])] w135 := H137
 refine GL.s 7 (r136) [(5, vu (wd x 1)), (6, li 1), (8, wv x), (9, li 1), (16, .slice A121 5 c122), (22, .slice (some ⟨p134, 0, none⟩) 1 1)] ?_
 obtain ⟨A138, c139, w140, r141, H142⟩ := H137.append (P := Try.prog) (e := 31) (sz := 1) (by_ := 8) (n := 5) (c := c122) (m := 1) (d := 1) (t := 35) (ty := 35) (xs := dg [((wd x 0) / 2 ^ 0) % 65536, ((wd x 0) / 2 ^ 16) % 65536, ((wd x 0) / 2 ^ 32) % 65536, ((wd x 0) / 2 ^ 48) % 65536, ((wd x 1) / 2 ^ 0) % 65536]) (news := dg [((wd x 1) / 2 ^ 16) % 65536]) 1 rfl (by kernel_rfl) (H137.rdRow 7 rfl) (by simp [dg_length]) (dg_one _) (by omega) (by simp only [maxLen]; omega)
 have H142 : Hp w [] [.blk p3 [vu (wd x 0), vu (wd x 1), vu (wd x 2), vu (wd x 3)] 32, .row A138 6 c139 31 1 (dg [((wd x 0) / 2 ^ 0) % 65536, ((wd x 0) / 2 ^ 16) % 65536, ((wd x 0) / 2 ^ 32) % 65536, ((wd x 0) / 2 ^ 48) % 65536, ((wd x 1) / 2 ^ 0) % 65536, ((wd x 1) / 2 ^ 16) % 65536]), .row (some ⟨p35, 0, none⟩) 1 1 31 1 (dg [((wd x 0) / 2 ^ 0) % 65536]), .row (some ⟨p52, 0, none⟩) 1 1 31 1 (dg [((wd x 0) / 2 ^ 16) % 65536]), .row (some ⟨p69, 0, none⟩) 1 1 31 1 (dg [((wd x 0) / 2 ^ 32) % 65536]), .row (some ⟨p86, 0, none⟩) 1 1 31 1 (dg [((wd x 0) / 2 ^ 48) % 65536]), .row (some ⟨p117, 0, none⟩) 1 1 31 1 (dg [((wd x 1) / 2 ^ 0) % 65536]), .row (some ⟨p134, 0, none⟩) 1 1 31 1 (dg [((wd x 1) / 2 ^ 16) % 65536])] w140 := H142
 refine GL.s 8 (r141) [(5, vu (wd x 1)), (6, li 1), (8, wv x), (9, li 1), (23, .slice A138 6 c139)] ?_
 refine GL.r 9 1 [(3, .slice A138 6 c139), (5, vu (wd x 1)), (6, li 1), (8, wv x), (9, li 1)] ?_
 refine GL.q hK131 ?_
 refine G.region ?_
 refine GL.r 3 3 [(3, .slice A138 6 c139), (5, vu (wd x 1)), (6, li 2), (8, wv x), (9, li 1)] ?_
 refine GL.round rfl ?_
 refine G.seqK fun K143 hK144 => ?_
 refine G.sr fun K145 hK146 => ?_
 refine GL.r 2 2 [(3, .slice A138 6 c139), (5, vu (wd x 1)), (6, li 2), (8, wv x), (9, li 1), (13, .bool true)] ?_
 refine GL.q hK146 ?_
 refine G.yes rfl ?_
 refine G.skipK hK144 (fun _ _ h => h) ?_
 refine G.seqK fun K147 hK148 => ?_
 refine G.block ?_
 refine G.region ?_
 refine GL.r 6 6 [(5, vu (wd x 1)), (6, li 2), (8, wv x), (9, li 1), (16, .slice A138 6 c139), (21, lu (Int.tmod (Int.fdiv (wd x 1 : Int) (2 ^ 32)) 65536))] ?_
 have e149 : (Int.fdiv (wd x 1 : Int) (2 ^ 32)) = (((wd x 1) / 2 ^ 32 : Nat) : Int) := n_shr _ 32
 have e150 : (Int.tmod (((wd x 1) / 2 ^ 32 : Nat) : Int) 65536) = ((((wd x 1) / 2 ^ 32) % 65536 : Nat) : Int) := n_rem _ 65536
 rw [e149, e150]
 clear e149 e150
 obtain ⟨p151, w152, r153, H154⟩ := H142.madeRow (P := Try.prog) (Instr.buildSlice 35 1 #[(0, vu (((wd x 1) / 2 ^ 32) % 65536))]) (fun b_ => .slice (some ⟨b_, 0, none⟩) 1 1) [vu (((wd x 1) / 2 ^ 32) % 65536)] 31 1 1 1 (by kernel_rfl) (by decide) (by decide) rfl
 have H154 : Hp w [] [.blk p3 [vu (wd x 0), vu (wd x 1), vu (wd x 2), vu (wd x 3)] 32, .row A138 6 c139 31 1 (dg [((wd x 0) / 2 ^ 0) % 65536, ((wd x 0) / 2 ^ 16) % 65536, ((wd x 0) / 2 ^ 32) % 65536, ((wd x 0) / 2 ^ 48) % 65536, ((wd x 1) / 2 ^ 0) % 65536, ((wd x 1) / 2 ^ 16) % 65536]), .row (some ⟨p35, 0, none⟩) 1 1 31 1 (dg [((wd x 0) / 2 ^ 0) % 65536]), .row (some ⟨p52, 0, none⟩) 1 1 31 1 (dg [((wd x 0) / 2 ^ 16) % 65536]), .row (some ⟨p69, 0, none⟩) 1 1 31 1 (dg [((wd x 0) / 2 ^ 32) % 65536]), .row (some ⟨p86, 0, none⟩) 1 1 31 1 (dg [((wd x 0) / 2 ^ 48) % 65536]), .row (some ⟨p117, 0, none⟩) 1 1 31 1 (dg [((wd x 1) / 2 ^ 0) % 65536]), .row (some ⟨p134, 0, none⟩) 1 1 31 1 (dg [((wd x 1) / 2 ^ 16) % 65536]), .row (some ⟨p151, 0, none⟩) 1 1 31 1 (dg [((wd x 1) / 2 ^ 32) % 65536])] w152 := H154
 refine GL.s 7 (r153) [(5, vu (wd x 1)), (6, li 2), (8, wv x), (9, li 1), (16, .slice A138 6 c139), (22, .slice (some ⟨p151, 0, none⟩) 1 1)] ?_
 obtain ⟨A155, c156, w157, r158, H159⟩ := H154.append (P := Try.prog) (e := 31) (sz := 1) (by_ := 8) (n := 6) (c := c139) (m := 1) (d := 1) (t := 35) (ty := 35) (xs := dg [((wd x 0) / 2 ^ 0) % 65536, ((wd x 0) / 2 ^ 16) % 65536, ((wd x 0) / 2 ^ 32) % 65536, ((wd x 0) / 2 ^ 48) % 65536, ((wd x 1) / 2 ^ 0) % 65536, ((wd x 1) / 2 ^ 16) % 65536]) (news := dg [((wd x 1) / 2 ^ 32) % 65536]) 1 rfl (by kernel_rfl) (H154.rdRow 8 rfl) (by simp [dg_length]) (dg_one _) (by omega) (by simp only [maxLen]; omega)
 have H159 : Hp w [] [.blk p3 [vu (wd x 0), vu (wd x 1), vu (wd x 2), vu (wd x 3)] 32, .row A155 7 c156 31 1 (dg [((wd x 0) / 2 ^ 0) % 65536, ((wd x 0) / 2 ^ 16) % 65536, ((wd x 0) / 2 ^ 32) % 65536, ((wd x 0) / 2 ^ 48) % 65536, ((wd x 1) / 2 ^ 0) % 65536, ((wd x 1) / 2 ^ 16) % 65536, ((wd x 1) / 2 ^ 32) % 65536]), .row (some ⟨p35, 0, none⟩) 1 1 31 1 (dg [((wd x 0) / 2 ^ 0) % 65536]), .row (some ⟨p52, 0, none⟩) 1 1 31 1 (dg [((wd x 0) / 2 ^ 16) % 65536]), .row (some ⟨p69, 0, none⟩) 1 1 31 1 (dg [((wd x 0) / 2 ^ 32) % 65536]), .row (some ⟨p86, 0, none⟩) 1 1 31 1 (dg [((wd x 0) / 2 ^ 48) % 65536]), .row (some ⟨p117, 0, none⟩) 1 1 31 1 (dg [((wd x 1) / 2 ^ 0) % 65536]), .row (some ⟨p134, 0, none⟩) 1 1 31 1 (dg [((wd x 1) / 2 ^ 16) % 65536]), .row (some ⟨p151, 0, none⟩) 1 1 31 1 (dg [((wd x 1) / 2 ^ 32) % 65536])] w157 := H159
 refine GL.s 8 (r158) [(5, vu (wd x 1)), (6, li 2), (8, wv x), (9, li 1), (23, .slice A155 7 c156)] ?_
 refine GL.r 9 1 [(3, .slice A155 7 c156), (5, vu (wd x 1)), (6, li 2), (8, wv x), (9, li 1)] ?_
 refine GL.q hK148 ?_
 refine G.region ?_
 refine GL.r 3 3 [(3, .slice A155 7 c156), (5, vu (wd x 1)), (6, li 3), (8, wv x), (9, li 1)] ?_
 refine GL.round rfl ?_
 refine G.seqK fun K160 hK161 => ?_
 refine G.sr fun K162 hK163 => ?_
 refine GL.r 2 2 [(3, .slice A155 7 c156), (5, vu (wd x 1)), (6, li 3), (8, wv x), (9, li 1), (13, .bool true)] ?_
 refine GL.q hK163 ?_
 refine G.yes rfl ?_
 refine G.skipK hK161 (fun _ _ h => h) ?_
 refine G.seqK fun K164 hK165 => ?_
 refine G.block ?_
 refine G.region ?_
 refine GL.r 6 6 [(5, vu (wd x 1)), (6, li 3), (8, wv x), (9, li 1), (16, .slice A155 7 c156), (21, lu (Int.tmod (Int.fdiv (wd x 1 : Int) (2 ^ 48)) 65536))] ?_
 have e166 : (Int.fdiv (wd x 1 : Int) (2 ^ 48)) = (((wd x 1) / 2 ^ 48 : Nat) : Int) := n_shr _ 48
 have e167 : (Int.tmod (((wd x 1) / 2 ^ 48 : Nat) : Int) 65536) = ((((wd x 1) / 2 ^ 48) % 65536 : Nat) : Int) := n_rem _ 65536
 rw [e166, e167]
 clear e166 e167
 obtain ⟨p168, w169, r170, H171⟩ := H159.madeRow (P := Try.prog) (Instr.buildSlice 35 1 #[(0, vu (((wd x 1) / 2 ^ 48) % 65536))]) (fun b_ => .slice (some ⟨b_, 0, none⟩) 1 1) [vu (((wd x 1) / 2 ^ 48) % 65536)] 31 1 1 1 (by kernel_rfl) (by decide) (by decide) rfl
 have H171 : Hp w [] [.blk p3 [vu (wd x 0), vu (wd x 1), vu (wd x 2), vu (wd x 3)] 32, .row A155 7 c156 31 1 (dg [((wd x 0) / 2 ^ 0) % 65536, ((wd x 0) / 2 ^ 16) % 65536, ((wd x 0) / 2 ^ 32) % 65536, ((wd x 0) / 2 ^ 48) % 65536, ((wd x 1) / 2 ^ 0) % 65536, ((wd x 1) / 2 ^ 16) % 65536, ((wd x 1) / 2 ^ 32) % 65536]), .row (some ⟨p35, 0, none⟩) 1 1 31 1 (dg [((wd x 0) / 2 ^ 0) % 65536]), .row (some ⟨p52, 0, none⟩) 1 1 31 1 (dg [((wd x 0) / 2 ^ 16) % 65536]), .row (some ⟨p69, 0, none⟩) 1 1 31 1 (dg [((wd x 0) / 2 ^ 32) % 65536]), .row (some ⟨p86, 0, none⟩) 1 1 31 1 (dg [((wd x 0) / 2 ^ 48) % 65536]), .row (some ⟨p117, 0, none⟩) 1 1 31 1 (dg [((wd x 1) / 2 ^ 0) % 65536]), .row (some ⟨p134, 0, none⟩) 1 1 31 1 (dg [((wd x 1) / 2 ^ 16) % 65536]), .row (some ⟨p151, 0, none⟩) 1 1 31 1 (dg [((wd x 1) / 2 ^ 32) % 65536]), .row (some ⟨p168, 0, none⟩) 1 1 31 1 (dg [((wd x 1) / 2 ^ 48) % 65536])] w169 := H171
 refine GL.s 7 (r170) [(5, vu (wd x 1)), (6, li 3), (8, wv x), (9, li 1), (16, .slice A155 7 c156), (22, .slice (some ⟨p168, 0, none⟩) 1 1)] ?_
 obtain ⟨A172, c173, w174, r175, H176⟩ := H171.append (P := Try.prog) (e := 31) (sz := 1) (by_ := 8) (n := 7) (c := c156) (m := 1) (d := 1) (t := 35) (ty := 35) (xs := dg [((wd x 0) / 2 ^ 0) % 65536, ((wd x 0) / 2 ^ 16) % 65536, ((wd x 0) / 2 ^ 32) % 65536, ((wd x 0) / 2 ^ 48) % 65536, ((wd x 1) / 2 ^ 0) % 65536, ((wd x 1) / 2 ^ 16) % 65536, ((wd x 1) / 2 ^ 32) % 65536]) (news := dg [((wd x 1) / 2 ^ 48) % 65536]) 1 rfl (by kernel_rfl) (H171.rdRow 9 rfl) (by simp [dg_length]) (dg_one _) (by omega) (by simp only [maxLen]; omega)
 have H176 : Hp w [] [.blk p3 [vu (wd x 0), vu (wd x 1), vu (wd x 2), vu (wd x 3)] 32, .row A172 8 c173 31 1 (dg [((wd x 0) / 2 ^ 0) % 65536, ((wd x 0) / 2 ^ 16) % 65536, ((wd x 0) / 2 ^ 32) % 65536, ((wd x 0) / 2 ^ 48) % 65536, ((wd x 1) / 2 ^ 0) % 65536, ((wd x 1) / 2 ^ 16) % 65536, ((wd x 1) / 2 ^ 32) % 65536, ((wd x 1) / 2 ^ 48) % 65536]), .row (some ⟨p35, 0, none⟩) 1 1 31 1 (dg [((wd x 0) / 2 ^ 0) % 65536]), .row (some ⟨p52, 0, none⟩) 1 1 31 1 (dg [((wd x 0) / 2 ^ 16) % 65536]), .row (some ⟨p69, 0, none⟩) 1 1 31 1 (dg [((wd x 0) / 2 ^ 32) % 65536]), .row (some ⟨p86, 0, none⟩) 1 1 31 1 (dg [((wd x 0) / 2 ^ 48) % 65536]), .row (some ⟨p117, 0, none⟩) 1 1 31 1 (dg [((wd x 1) / 2 ^ 0) % 65536]), .row (some ⟨p134, 0, none⟩) 1 1 31 1 (dg [((wd x 1) / 2 ^ 16) % 65536]), .row (some ⟨p151, 0, none⟩) 1 1 31 1 (dg [((wd x 1) / 2 ^ 32) % 65536]), .row (some ⟨p168, 0, none⟩) 1 1 31 1 (dg [((wd x 1) / 2 ^ 48) % 65536])] w174 := H176
 refine GL.s 8 (r175) [(5, vu (wd x 1)), (6, li 3), (8, wv x), (9, li 1), (23, .slice A172 8 c173)] ?_
 refine GL.r 9 1 [(3, .slice A172 8 c173), (5, vu (wd x 1)), (6, li 3), (8, wv x), (9, li 1)] ?_
 refine GL.q hK165 ?_
 refine G.region ?_
 refine GL.r 3 3 [(3, .slice A172 8 c173), (5, vu (wd x 1)), (6, li 4), (8, wv x), (9, li 1)] ?_
 refine GL.round rfl ?_
 refine G.seqK fun K177 hK178 => ?_
 refine G.sr fun K179 hK180 => ?_
 refine GL.r 2 2 [(3, .slice A172 8 c173), (5, vu (wd x 1)), (6, li 4), (8, wv x), (9, li 1), (13, .bool false)] ?_
 refine GL.q hK180 ?_
 refine G.no rfl ?_
 refine G.exitK hK104 (fun _ _ h => h) ?_
 refine G.region ?_
 refine GL.r 2 2 [(3, .slice A172 8 c173), (8, wv x), (9, li 2)] ?_
 refine GL.round rfl ?_
 refine G.sr fun K181 hK182 => ?_
 refine GL.r 1 1 [(3, .slice A172 8 c173), (8, wv x), (9, li 2), (10, .bool true)] ?_
 refine GL.q hK182 ?_
 refine G.seqK fun K183 hK184 => ?_
 refine G.yes rfl ?_
 refine G.skipK hK184 (fun _ _ h => h) ?_
 refine G.seqK fun K185 hK186 => ?_
 refine G.block ?_
 refine G.sr fun K187 hK188 => ?_
 refine GL.r 2 2 [(3, .slice A172 8 c173), (5, vu (wd x 2)), (8, wv x), (9, li 2)] ?_
 refine GL.q hK188 ?_
 refine G.sr fun K189 hK190 => ?_
 refine GL.r 1 1 [(3, .slice A172 8 c173), (5, vu (wd x 2)), (6, li 0), (8, wv x), (9, li 2)] ?_
 refine GL.q hK190 ?_
 refine G.block ?_
 refine G.unroll 4 ?_
 refine G.seqK fun K191 hK192 => ?_
 refine G.sr fun K193 hK194 => ?_
 refine GL.r 2 2 [(3, .slice A172 8 c173), (5, vu (wd x 2)), (6, li 0), (8, wv x), (9, li 2), (13, .bool true)] ?_
 refine GL.q hK194 ?_
 refine G.yes rfl ?_
 refine G.skipK hK192 (fun _ _ h => h) ?_
 refine G.seqK fun K195 hK196 => ?_
 refine G.block ?_
 refine G.region ?_
 refine GL.r 6 6 [(5, vu (wd x 2)), (6, li 0), (8, wv x), (9, li 2), (16, .slice A172 8 c173), (21, lu (Int.tmod (Int.fdiv (wd x 2 : Int) (2 ^ 0)) 65536))] ?_
 have e197 : (Int.fdiv (wd x 2 : Int) (2 ^ 0)) = (((wd x 2) / 2 ^ 0 : Nat) : Int) := n_shr _ 0
 have e198 : (Int.tmod (((wd x 2) / 2 ^ 0 : Nat) : Int) 65536) = ((((wd x 2) / 2 ^ 0) % 65536 : Nat) : Int) := n_rem _ 65536
 rw [e197, e198]
 clear e197 e198
 obtain ⟨p199, w200, r201, H202⟩ := H176.madeRow (P := Try.prog) (Instr.buildSlice 35 1 #[(0, vu (((wd x 2) / 2 ^ 0) % 65536))]) (fun b_ => .slice (some ⟨b_, 0, none⟩) 1 1) [vu (((wd x 2) / 2 ^ 0) % 65536)] 31 1 1 1 (by kernel_rfl) (by decide) (by decide) rfl
 have H202 : Hp w [] [.blk p3 [vu (wd x 0), vu (wd x 1), vu (wd x 2), vu (wd x 3)] 32, .row A172 8 c173 31 1 (dg [((wd x 0) / 2 ^ 0) % 65536, ((wd x 0) / 2 ^ 16) % 65536, ((wd x 0) / 2 ^ 32) % 65536, ((wd x 0) / 2 ^ 48) % 65536, ((wd x 1) / 2 ^ 0) % 65536, ((wd x 1) / 2 ^ 16) % 65536, ((wd x 1) / 2 ^ 32) % 65536, ((wd x 1) / 2 ^ 48) % 65536]), .row (some ⟨p35, 0, none⟩) 1 1 31 1 (dg [((wd x 0) / 2 ^ 0) % 65536]), .row (some ⟨p52, 0, none⟩) 1 1 31 1 (dg [((wd x 0) / 2 ^ 16) % 65536]), .row (some ⟨p69, 0, none⟩) 1 1 31 1 (dg [((wd x 0) / 2 ^ 32) % 65536]), .row (some ⟨p86, 0, none⟩) 1 1 31 1 (dg [((wd x 0) / 2 ^ 48) % 65536]), .row (some ⟨p117, 0, none⟩) 1 1 31 1 (dg [((wd x 1) / 2 ^ 0) % 65536]), .row (some ⟨p134, 0, none⟩) 1 1 31 1 (dg [((wd x 1) / 2 ^ 16) % 65536]), .row (some ⟨p151, 0, none⟩) 1 1 31 1 (dg [((wd x 1) / 2 ^ 32) % 65536]), .row (some ⟨p168, 0, none⟩) 1 1 31 1 (dg [((wd x 1) / 2 ^ 48) % 65536]), .row (some ⟨p199, 0, none⟩) 1 1 31 1 (dg [((wd x 2) / 2 ^ 0) % 65536])] w200 := H202
 refine GL.s 7 (r201) [(5, vu (wd x 2)), (6, li 0), (8, wv x), (9, li 2), (16, .slice A172 8 c173), (22, .slice (some ⟨p199, 0, none⟩) 1 1)] ?_
 obtain ⟨A203, c204, w205, r206, H207⟩ := H202.append (P := Try.prog) (e := 31) (sz := 1) (by_ := 8) (n := 8) (c := c173) (m := 1) (d := 1) (t := 35) (ty := 35) (xs := dg [((wd x 0) / 2 ^ 0) % 65536, ((wd x 0) / 2 ^ 16) % 65536, ((wd x 0) / 2 ^ 32) % 65536, ((wd x 0) / 2 ^ 48) % 65536, ((wd x 1) / 2 ^ 0) % 65536, ((wd x 1) / 2 ^ 16) % 65536, ((wd x 1) / 2 ^ 32) % 65536, ((wd x 1) / 2 ^ 48) % 65536]) (news := dg [((wd x 2) / 2 ^ 0) % 65536]) 1 rfl (by kernel_rfl) (H202.rdRow 10 rfl) (by simp [dg_length]) (dg_one _) (by omega) (by simp only [maxLen]; omega)
 have H207 : Hp w [] [.blk p3 [vu (wd x 0), vu (wd x 1), vu (wd x 2), vu (wd x 3)] 32, .row A203 9 c204 31 1 (dg [((wd x 0) / 2 ^ 0) % 65536, ((wd x 0) / 2 ^ 16) % 65536, ((wd x 0) / 2 ^ 32) % 65536, ((wd x 0) / 2 ^ 48) % 65536, ((wd x 1) / 2 ^ 0) % 65536, ((wd x 1) / 2 ^ 16) % 65536, ((wd x 1) / 2 ^ 32) % 65536, ((wd x 1) / 2 ^ 48) % 65536, ((wd x 2) / 2 ^ 0) % 65536]), .row (some ⟨p35, 0, none⟩) 1 1 31 1 (dg [((wd x 0) / 2 ^ 0) % 65536]), .row (some ⟨p52, 0, none⟩) 1 1 31 1 (dg [((wd x 0) / 2 ^ 16) % 65536]), .row (some ⟨p69, 0, none⟩) 1 1 31 1 (dg [((wd x 0) / 2 ^ 32) % 65536]), .row (some ⟨p86, 0, none⟩) 1 1 31 1 (dg [((wd x 0) / 2 ^ 48) % 65536]), .row (some ⟨p117, 0, none⟩) 1 1 31 1 (dg [((wd x 1) / 2 ^ 0) % 65536]), .row (some ⟨p134, 0, none⟩) 1 1 31 1 (dg [((wd x 1) / 2 ^ 16) % 65536]), .row (some ⟨p151, 0, none⟩) 1 1 31 1 (dg [((wd x 1) / 2 ^ 32) % 65536]), .row (some ⟨p168, 0, none⟩) 1 1 31 1 (dg [((wd x 1) / 2 ^ 48) % 65536]), .row (some ⟨p199, 0, none⟩) 1 1 31 1 (dg [((wd x 2) / 2 ^ 0) % 65536])] w205 := H207
 refine GL.s 8 (r206) [(5, vu (wd x 2)), (6, li 0), (8, wv x), (9, li 2), (23, .slice A203 9 c204)] ?_
 refine GL.r 9 1 [(3, .slice A203 9 c204), (5, vu (wd x 2)), (6, li 0), (8, wv x), (9, li 2)] ?_
 refine GL.q hK196 ?_
 refine G.region ?_
 refine GL.r 3 3 [(3, .slice A203 9 c204), (5, vu (wd x 2)), (6, li 1), (8, wv x), (9, li 2)] ?_
 refine GL.round rfl ?_
 refine G.seqK fun K208 hK209 => ?_
 refine G.sr fun K210 hK211 => ?_
 refine GL.r 2 2 [(3, .slice A203 9 c204), (5, vu (wd x 2)), (6, li 1), (8, wv x), (9, li 2), (13, .bool true)] ?_
 refine GL.q hK211 ?_
 refine G.yes rfl ?_
 refine G.skipK hK209 (fun _ _ h => h) ?_
 refine G.seqK fun K212 hK213 => ?_
 refine G.block ?_
 refine G.region ?_
 refine GL.r 6 6 [(5, vu (wd x 2)), (6, li 1), (8, wv x), (9, li 2), (16, .slice A203 9 c204), (21, lu (Int.tmod (Int.fdiv (wd x 2 : Int) (2 ^ 16)) 65536))] ?_
 have e214 : (Int.fdiv (wd x 2 : Int) (2 ^ 16)) = (((wd x 2) / 2 ^ 16 : Nat) : Int) := n_shr _ 16
 have e215 : (Int.tmod (((wd x 2) / 2 ^ 16 : Nat) : Int) 65536) = ((((wd x 2) / 2 ^ 16) % 65536 : Nat) : Int) := n_rem _ 65536
 rw [e214, e215]
 clear e214 e215
 obtain ⟨p216, w217, r218, H219⟩ := H207.madeRow (P := Try.prog) (Instr.buildSlice 35 1 #[(0, vu (((wd x 2) / 2 ^ 16) % 65536))]) (fun b_ => .slice (some ⟨b_, 0, none⟩) 1 1) [vu (((wd x 2) / 2 ^ 16) % 65536)] 31 1 1 1 (by kernel_rfl) (by decide) (by decide) rfl
 have H219 : Hp w [] [.blk p3 [vu (wd x 0), vu (wd x 1), vu (wd x 2), vu (wd x 3)] 32, .row A203 9 c204 31 1 (dg [((wd x 0) / 2 ^ 0) % 65536, ((wd x 0) / 2 ^ 16) % 65536, ((wd x 0) / 2 ^ 32) % 65536, ((wd x 0) / 2 ^ 48) % 65536, ((wd x 1) / 2 ^ 0) % 65536, ((wd x 1) / 2 ^ 16) % 65536, ((wd x 1) / 2 ^ 32) % 65536, ((wd x 1) / 2 ^ 48) % 65536, ((wd x 2) / 2 ^ 0) % 65536]), .row (some ⟨p35, 0, none⟩) 1 1 31 1 (dg [((wd x 0) / 2 ^ 0) % 65536]), .row (some ⟨p52, 0, none⟩) 1 1 31 1 (dg [((wd x 0) / 2 ^ 16) % 65536]), .row (some ⟨p69, 0, none⟩) 1 1 31 1 (dg [((wd x 0) / 2 ^ 32) % 65536]), .row (some ⟨p86, 0, none⟩) 1 1 31 1 (dg [((wd x 0) / 2 ^ 48) % 65536]), .row (some ⟨p117, 0, none⟩) 1 1 31 1 (dg [((wd x 1) / 2 ^ 0) % 65536]), .row (some ⟨p134, 0, none⟩) 1 1 31 1 (dg [((wd x 1) / 2 ^ 16) % 65536]), .row (some ⟨p151, 0, none⟩) 1 1 31 1 (dg [((wd x 1) / 2 ^ 32) % 65536]), .row (some ⟨p168, 0, none⟩) 1 1 31 1 (dg [((wd x 1) / 2 ^ 48) % 65536]), .row (some ⟨p199, 0, none⟩) 1 1 31 1 (dg [((wd x 2) / 2 ^ 0) % 65536]), .row (some ⟨p216, 0, none⟩) 1 1 31 1 (dg [((wd x 2) / 2 ^ 16) % 65536])] w217 := H219
 refine GL.s 7 (r218) [(5, vu (wd x 2)), (6, li 1), (8, wv x), (9, li 2), (16, .slice A203 9 c204), (22, .slice (some ⟨p216, 0, none⟩) 1 1)] ?_
 obtain ⟨A220, c221, w222, r223, H224⟩ := H219.append (P := Try.prog) (e := 31) (sz := 1) (by_ := 8) (n := 9) (c := c204) (m := 1) (d := 1) (t := 35) (ty := 35) (xs := dg [((wd x 0) / 2 ^ 0) % 65536, ((wd x 0) / 2 ^ 16) % 65536, ((wd x 0) / 2 ^ 32) % 65536, ((wd x 0) / 2 ^ 48) % 65536, ((wd x 1) / 2 ^ 0) % 65536, ((wd x 1) / 2 ^ 16) % 65536, ((wd x 1) / 2 ^ 32) % 65536, ((wd x 1) / 2 ^ 48) % 65536, ((wd x 2) / 2 ^ 0) % 65536]) (news := dg [((wd x 2) / 2 ^ 16) % 65536]) 1 rfl (by kernel_rfl) (H219.rdRow 11 rfl) (by simp [dg_length]) (dg_one _) (by omega) (by simp only [maxLen]; omega)
 have H224 : Hp w [] [.blk p3 [vu (wd x 0), vu (wd x 1), vu (wd x 2), vu (wd x 3)] 32, .row A220 10 c221 31 1 (dg [((wd x 0) / 2 ^ 0) % 65536, ((wd x 0) / 2 ^ 16) % 65536, ((wd x 0) / 2 ^ 32) % 65536, ((wd x 0) / 2 ^ 48) % 65536, ((wd x 1) / 2 ^ 0) % 65536, ((wd x 1) / 2 ^ 16) % 65536, ((wd x 1) / 2 ^ 32) % 65536, ((wd x 1) / 2 ^ 48) % 65536, ((wd x 2) / 2 ^ 0) % 65536, ((wd x 2) / 2 ^ 16) % 65536]), .row (some ⟨p35, 0, none⟩) 1 1 31 1 (dg [((wd x 0) / 2 ^ 0) % 65536]), .row (some ⟨p52, 0, none⟩) 1 1 31 1 (dg [((wd x 0) / 2 ^ 16) % 65536]), .row (some ⟨p69, 0, none⟩) 1 1 31 1 (dg [((wd x 0) / 2 ^ 32) % 65536]), .row (some ⟨p86, 0, none⟩) 1 1 31 1 (dg [((wd x 0) / 2 ^ 48) % 65536]), .row (some ⟨p117, 0, none⟩) 1 1 31 1 (dg [((wd x 1) / 2 ^ 0) % 65536]), .row (some ⟨p134, 0, none⟩) 1 1 31 1 (dg [((wd x 1) / 2 ^ 16) % 65536]), .row (some ⟨p151, 0, none⟩) 1 1 31 1 (dg [((wd x 1) / 2 ^ 32) % 65536]), .row (some ⟨p168, 0, none⟩) 1 1 31 1 (dg [((wd x 1) / 2 ^ 48) % 65536]), .row (some ⟨p199, 0, none⟩) 1 1 31 1 (dg [((wd x 2) / 2 ^ 0) % 65536]), .row (some ⟨p216, 0, none⟩) 1 1 31 1 (dg [((wd x 2) / 2 ^ 16) % 65536])] w222 := H224
 refine GL.s 8 (r223) [(5, vu (wd x 2)), (6, li 1), (8, wv x), (9, li 2), (23, .slice A220 10 c221)] ?_
 refine GL.r 9 1 [(3, .slice A220 10 c221), (5, vu (wd x 2)), (6, li 1), (8, wv x), (9, li 2)] ?_
 refine GL.q hK213 ?_
 refine G.region ?_
 refine GL.r 3 3 [(3, .slice A220 10 c221), (5, vu (wd x 2)), (6, li 2), (8, wv x), (9, li 2)] ?_
 refine GL.round rfl ?_
 refine G.seqK fun K225 hK226 => ?_
 refine G.sr fun K227 hK228 => ?_
 refine GL.r 2 2 [(3, .slice A220 10 c221), (5, vu (wd x 2)), (6, li 2), (8, wv x), (9, li 2), (13, .bool true)] ?_
 refine GL.q hK228 ?_
 refine G.yes rfl ?_
 refine G.skipK hK226 (fun _ _ h => h) ?_
 refine G.seqK fun K229 hK230 => ?_
 refine G.block ?_
 refine G.region ?_
 refine GL.r 6 6 [(5, vu (wd x 2)), (6, li 2), (8, wv x), (9, li 2), (16, .slice A220 10 c221), (21, lu (Int.tmod (Int.fdiv (wd x 2 : Int) (2 ^ 32)) 65536))] ?_
 have e231 : (Int.fdiv (wd x 2 : Int) (2 ^ 32)) = (((wd x 2) / 2 ^ 32 : Nat) : Int) := n_shr _ 32
 have e232 : (Int.tmod (((wd x 2) / 2 ^ 32 : Nat) : Int) 65536) = ((((wd x 2) / 2 ^ 32) % 65536 : Nat) : Int) := n_rem _ 65536
 rw [e231, e232]
 clear e231 e232
 obtain ⟨p233, w234, r235, H236⟩ := H224.madeRow (P := Try.prog) (Instr.buildSlice 35 1 #[(0, vu (((wd x 2) / 2 ^ 32) % 65536))]) (fun b_ => .slice (some ⟨b_, 0, none⟩) 1 1) [vu (((wd x 2) / 2 ^ 32) % 65536)] 31 1 1 1 (by kernel_rfl) (by decide) (by decide) rfl
 have H236 : Hp w [] [.blk p3 [vu (wd x 0), vu (wd x 1), vu (wd x 2), vu (wd x 3)] 32, .row A220 10 c221 31 1 (dg [((wd x 0) / 2 ^ 0) % 65536, ((wd x 0) / 2 ^ 16) % 65536, ((wd x 0) / 2 ^ 32) % 65536, ((wd x 0) / 2 ^ 48) % 65536, ((wd x 1) / 2 ^ 0) % 65536, ((wd x 1) / 2 ^ 16) % 65536, ((wd x 1) / 2 ^ 32) % 65536, ((wd x 1) / 2 ^ 48) % 65536, ((wd x 2) / 2 ^ 0) % 65536, ((wd x 2) / 2 ^ 16) % 65536]), .row (some ⟨p35, 0, none⟩) 1 1 31 1 (dg [((wd x 0) / 2 ^ 0) % 65536]), .row (some ⟨p52, 0, none⟩) 1 1 31 1 (dg [((wd x 0) / 2 ^ 16) % 65536]), .row (some ⟨p69, 0, none⟩) 1 1 31 1 (dg [((wd x 0) / 2 ^ 32) % 65536]), .row (some ⟨p86, 0, none⟩) 1 1 31 1 (dg [((wd x 0) / 2 ^ 48) % 65536]), .row (some ⟨p117, 0, none⟩) 1 1 31 1 (dg [((wd x 1) / 2 ^ 0) % 65536]), .row (some ⟨p134, 0, none⟩) 1 1 31 1 (dg [((wd x 1) / 2 ^ 16) % 65536]), .row (some ⟨p151, 0, none⟩) 1 1 31 1 (dg [((wd x 1) / 2 ^ 32) % 65536]), .row (some ⟨p168, 0, none⟩) 1 1 31 1 (dg [((wd x 1) / 2 ^ 48) % 65536]), .row (some ⟨p199, 0, none⟩) 1 1 31 1 (dg [((wd x 2) / 2 ^ 0) % 65536]), .row (some ⟨p216, 0, none⟩) 1 1 31 1 (dg [((wd x 2) / 2 ^ 16) % 65536]), .row (some ⟨p233, 0, none⟩) 1 1 31 1 (dg [((wd x 2) / 2 ^ 32) % 65536])] w234 := H236
 refine GL.s 7 (r235) [(5, vu (wd x 2)), (6, li 2), (8, wv x), (9, li 2), (16, .slice A220 10 c221), (22, .slice (some ⟨p233, 0, none⟩) 1 1)] ?_
 obtain ⟨A237, c238, w239, r240, H241⟩ := H236.append (P := Try.prog) (e := 31) (sz := 1) (by_ := 8) (n := 10) (c := c221) (m := 1) (d := 1) (t := 35) (ty := 35) (xs := dg [((wd x 0) / 2 ^ 0) % 65536, ((wd x 0) / 2 ^ 16) % 65536, ((wd x 0) / 2 ^ 32) % 65536, ((wd x 0) / 2 ^ 48) % 65536, ((wd x 1) / 2 ^ 0) % 65536, ((wd x 1) / 2 ^ 16) % 65536, ((wd x 1) / 2 ^ 32) % 65536, ((wd x 1) / 2 ^ 48) % 65536, ((wd x 2) / 2 ^ 0) % 65536, ((wd x 2) / 2 ^ 16) % 65536]) (news := dg [((wd x 2) / 2 ^ 32) % 65536]) 1 rfl (by kernel_rfl) (H236.rdRow 12 rfl) (by simp [dg_length]) (dg_one _) (by omega) (by simp only [maxLen]; omega)
 have H241 : Hp w [] [.blk p3 [vu (wd x 0), vu (wd x 1), vu (wd x 2), vu (wd x 3)] 32, .row A237 11 c238 31 1 (dg [((wd x 0) / 2 ^ 0) % 65536, ((wd x 0) / 2 ^ 16) % 65536, ((wd x 0) / 2 ^ 32) % 65536, ((wd x 0) / 2 ^ 48) % 65536, ((wd x 1) / 2 ^ 0) % 65536, ((wd x 1) / 2 ^ 16) % 65536, ((wd x 1) / 2 ^ 32) % 65536, ((wd x 1) / 2 ^ 48) % 65536, ((wd x 2) / 2 ^ 0) % 65536, ((wd x 2) / 2 ^ 16) % 65536, ((wd x 2) / 2 ^ 32) % 65536]), .row (some ⟨p35, 0, none⟩) 1 1 31 1 (dg [((wd x 0) / 2 ^ 0) % 65536]), .row (some ⟨p52, 0, none⟩) 1 1 31 1 (dg [((wd x 0) / 2 ^ 16) % 65536]), .row (some ⟨p69, 0, none⟩) 1 1 31 1 (dg [((wd x 0) / 2 ^ 32) % 65536]), .row (some ⟨p86, 0, none⟩) 1 1 31 1 (dg [((wd x 0) / 2 ^ 48) % 65536]), .row (some ⟨p117, 0, none⟩) 1 1 31 1 (dg [((wd x 1) / 2 ^ 0) % 65536]), .row (some ⟨p134, 0, none⟩) 1 1 31 1 (dg [((wd x 1) / 2 ^ 16) % 65536]), .row (some ⟨p151, 0, none⟩) 1 1 31 1 (dg [((wd x 1) / 2 ^ 32) % 65536]), .row (some ⟨p168, 0, none⟩) 1 1 31 1 (dg [((wd x 1) / 2 ^ 48) % 65536]), .row (some ⟨p199, 0, none⟩) 1 1 31 1 (dg [((wd x 2) / 2 ^ 0) % 65536]), .row (some ⟨p216, 0, none⟩) 1 1 31 1 (dg [((wd x 2) / 2 ^ 16) % 65536]), .row (some ⟨p233, 0, none⟩) 1 1 31 1 (dg [((wd x 2) / 2 ^ 32) % 65536])] w239 := H241
 refine GL.s 8 (r240) [(5, vu (wd x 2)), (6, li 2), (8, wv x), (9, li 2), (23, .slice A237 11 c238)] ?_
 refine GL.r 9 1 [(3, .slice A237 11 c238), (5, vu (wd x 2)), (6, li 2), (8, wv x), (9, li 2)] ?_
 refine GL.q hK230 ?_
 refine G.region ?_
 refine GL.r 3 3 [(3, .slice A237 11 c238), (5, vu (wd x 2)), (6, li 3), (8, wv x), (9, li 2)] ?_
 refine GL.round rfl ?_
 refine G.seqK fun K242 hK243 => ?_
 refine G.sr fun K244 hK245 => ?_
 refine GL.r 2 2 [(3, .slice A237 11 c238), (5, vu (wd x 2)), (6, li 3), (8, wv x), (9, li 2), (13, .bool true)] ?_
 refine GL.q hK245 ?_
 refine G.yes rfl ?_
 refine G.skipK hK243 (fun _ _ h => h) ?_
 refine G.seqK fun K246 hK247 => ?_
 refine G.block ?_
 refine G.region ?_
 refine GL.r 6 6 [(5, vu (wd x 2)), (6, li 3), (8, wv x), (9, li 2), (16, .slice A237 11 c238), (21, lu (Int.tmod (Int.fdiv (wd x 2 : Int) (2 ^ 48)) 65536))] ?_
 have e248 : (Int.fdiv (wd x 2 : Int) (2 ^ 48)) = (((wd x 2) / 2 ^ 48 : Nat) : Int) := n_shr _ 48
 have e249 : (Int.tmod (((wd x 2) / 2 ^ 48 : Nat) : Int) 65536) = ((((wd x 2) / 2 ^ 48) % 65536 : Nat) : Int) := n_rem _ 65536
 rw [e248, e249]
 clear e248 e249
 obtain ⟨p250, w251, r252, H253⟩ := H241.madeRow (P := Try.prog) (Instr.buildSlice 35 1 #[(0, vu (((wd x 2) / 2 ^ 48) % 65536))]) (fun b_ => .slice (some ⟨b_, 0, none⟩) 1 1) [vu (((wd x 2) / 2 ^ 48) % 65536)] 31 1 1 1 (by kernel_rfl) (by decide) (by decide) rfl
 have H253 : Hp w [] [.blk p3 [vu (wd x 0), vu (wd x 1), vu (wd x 2), vu (wd x 3)] 32, .row A237 11 c238 31 1 (dg [((wd x 0) / 2 ^ 0) % 65536, ((wd x 0) / 2 ^ 16) % 65536, ((wd x 0) / 2 ^ 32) % 65536, ((wd x 0) / 2 ^ 48) % 65536, ((wd x 1) / 2 ^ 0) % 65536, ((wd x 1) / 2 ^ 16) % 65536, ((wd x 1) / 2 ^ 32) % 65536, ((wd x 1) / 2 ^ 48) % 65536, ((wd x 2) / 2 ^ 0) % 65536, ((wd x 2) / 2 ^ 16) % 65536, ((wd x 2) / 2 ^ 32) % 65536]), .row (some ⟨p35, 0, none⟩) 1 1 31 1 (dg [((wd x 0) / 2 ^ 0) % 65536]), .row (some ⟨p52, 0, none⟩) 1 1 31 1 (dg [((wd x 0) / 2 ^ 16) % 65536]), .row (some ⟨p69, 0, none⟩) 1 1 31 1 (dg [((wd x 0) / 2 ^ 32) % 65536]), .row (some ⟨p86, 0, none⟩) 1 1 31 1 (dg [((wd x 0) / 2 ^ 48) % 65536]), .row (some ⟨p117, 0, none⟩) 1 1 31 1 (dg [((wd x 1) / 2 ^ 0) % 65536]), .row (some ⟨p134, 0, none⟩) 1 1 31 1 (dg [((wd x 1) / 2 ^ 16) % 65536]), .row (some ⟨p151, 0, none⟩) 1 1 31 1 (dg [((wd x 1) / 2 ^ 32) % 65536]), .row (some ⟨p168, 0, none⟩) 1 1 31 1 (dg [((wd x 1) / 2 ^ 48) % 65536]), .row (some ⟨p199, 0, none⟩) 1 1 31 1 (dg [((wd x 2) / 2 ^ 0) % 65536]), .row (some ⟨p216, 0, none⟩) 1 1 31 1 (dg [((wd x 2) / 2 ^ 16) % 65536]), .row (some ⟨p233, 0, none⟩) 1 1 31 1 (dg [((wd x 2) / 2 ^ 32) % 65536]), .row (some ⟨p250, 0, none⟩) 1 1 31 1 (dg [((wd x 2) / 2 ^ 48) % 65536])] w251 := H253
 refine GL.s 7 (r252) [(5, vu (wd x 2)), (6, li 3), (8, wv x), (9, li 2), (16, .slice A237 11 c238), (22, .slice (some ⟨p250, 0, none⟩) 1 1)] ?_
 obtain ⟨A254, c255, w256, r257, H258⟩ := H253.append (P := Try.prog) (e := 31) (sz := 1) (by_ := 8) (n := 11) (c := c238) (m := 1) (d := 1) (t := 35) (ty := 35) (xs := dg [((wd x 0) / 2 ^ 0) % 65536, ((wd x 0) / 2 ^ 16) % 65536, ((wd x 0) / 2 ^ 32) % 65536, ((wd x 0) / 2 ^ 48) % 65536, ((wd x 1) / 2 ^ 0) % 65536, ((wd x 1) / 2 ^ 16) % 65536, ((wd x 1) / 2 ^ 32) % 65536, ((wd x 1) / 2 ^ 48) % 65536, ((wd x 2) / 2 ^ 0) % 65536, ((wd x 2) / 2 ^ 16) % 65536, ((wd x 2) / 2 ^ 32) % 65536]) (news := dg [((wd x 2) / 2 ^ 48) % 65536]) 1 rfl (by kernel_rfl) (H253.rdRow 13 rfl) (by simp [dg_length]) (dg_one _) (by omega) (by simp only [maxLen]; omega)
 have H258 : Hp w [] [.blk p3 [vu (wd x 0), vu (wd x 1), vu (wd x 2), vu (wd x 3)] 32, .row A254 12 c255 31 1 (dg [((wd x 0) / 2 ^ 0) % 65536, ((wd x 0) / 2 ^ 16) % 65536, ((wd x 0) / 2 ^ 32) % 65536, ((wd x 0) / 2 ^ 48) % 65536, ((wd x 1) / 2 ^ 0) % 65536, ((wd x 1) / 2 ^ 16) % 65536, ((wd x 1) / 2 ^ 32) % 65536, ((wd x 1) / 2 ^ 48) % 65536, ((wd x 2) / 2 ^ 0) % 65536, ((wd x 2) / 2 ^ 16) % 65536, ((wd x 2) / 2 ^ 32) % 65536, ((wd x 2) / 2 ^ 48) % 65536]), .row (some ⟨p35, 0, none⟩) 1 1 31 1 (dg [((wd x 0) / 2 ^ 0) % 65536]), .row (some ⟨p52, 0, none⟩) 1 1 31 1 (dg [((wd x 0) / 2 ^ 16) % 65536]), .row (some ⟨p69, 0, none⟩) 1 1 31 1 (dg [((wd x 0) / 2 ^ 32) % 65536]), .row (some ⟨p86, 0, none⟩) 1 1 31 1 (dg [((wd x 0) / 2 ^ 48) % 65536]), .row (some ⟨p117, 0, none⟩) 1 1 31 1 (dg [((wd x 1) / 2 ^ 0) % 65536]), .row (some ⟨p134, 0, none⟩) 1 1 31 1 (dg [((wd x 1) / 2 ^ 16) % 65536]), .row (some ⟨p151, 0, none⟩) 1 1 31 1 (dg [((wd x 1) / 2 ^ 32) % 65536]), .row (some ⟨p168, 0, none⟩) 1 1 31 1 (dg [((wd x 1) / 2 ^ 48) % 65536]), .row (some ⟨p199, 0, none⟩) 1 1 31 1 (dg [((wd x 2) / 2 ^ 0) % 65536]), .row (some ⟨p216, 0, none⟩) 1 1 31 1 (dg [((wd x 2) / 2 ^ 16) % 65536]), .row (some ⟨p233, 0, none⟩) 1 1 31 1 (dg [((wd x 2) / 2 ^ 32) % 65536]), .row (some ⟨p250, 0, none⟩) 1 1 31 1 (dg [((wd x 2) / 2 ^ 48) % 65536])] w256 := H258
 refine GL.s 8 (r257) [(5, vu (wd x 2)), (6, li 3), (8, wv x), (9, li 2), (23, .slice A254 12 c255)] ?_
 refine GL.r 9 1 [(3, .slice A254 12 c255), (5, vu (wd x 2)), (6, li 3), (8, wv x), (9, li 2)] ?_
 refine GL.q hK247 ?_
 refine G.region ?_
 refine GL.r 3 3 [(3, .slice A254 12 c255), (5, vu (wd x 2)), (6, li 4), (8, wv x), (9, li 2)] ?_
 refine GL.round rfl ?_
 refine G.seqK fun K259 hK260 => ?_
 refine G.sr fun K261 hK262 => ?_
 refine GL.r 2 2 [(3, .slice A254 12 c255), (5, vu (wd x 2)), (6, li 4), (8, wv x), (9, li 2), (13, .bool false)] ?_
 refine GL.q hK262 ?_
 refine G.no rfl ?_
 refine G.exitK hK186 (fun _ _ h => h) ?_
 refine G.region ?_
 refine GL.r 2 2 [(3, .slice A254 12 c255), (8, wv x), (9, li 3)] ?_
 refine GL.round rfl ?_
 refine G.sr fun K263 hK264 => ?_
 refine GL.r 1 1 [(3, .slice A254 12 c255), (8, wv x), (9, li 3), (10, .bool true)] ?_
 refine GL.q hK264 ?_
 refine G.seqK fun K265 hK266 => ?_
 refine G.yes rfl ?_
 refine G.skipK hK266 (fun _ _ h => h) ?_
 refine G.seqK fun K267 hK268 => ?_
 refine G.block ?_
 refine G.sr fun K269 hK270 => ?_
 refine GL.r 2 2 [(3, .slice A254 12 c255), (5, vu (wd x 3)), (8, wv x), (9, li 3)] ?_
 refine GL.q hK270 ?_
 refine G.sr fun K271 hK272 => ?_
 refine GL.r 1 1 [(3, .slice A254 12 c255), (5, vu (wd x 3)), (6, li 0), (8, wv x), (9, li 3)] ?_
 refine GL.q hK272 ?_
 refine G.block ?_
 refine G.unroll 4 ?_
 refine G.seqK fun K273 hK274 => ?_
 refine G.sr fun K275 hK276 => ?_
 refine GL.r 2 2 [(3, .slice A254 12 c255), (5, vu (wd x 3)), (6, li 0), (8, wv x), (9, li 3), (13, .bool true)] ?_
 refine GL.q hK276 ?_
 refine G.yes rfl ?_
 refine G.skipK hK274 (fun _ _ h => h) ?_
 refine G.seqK fun K277 hK278 => ?_
 refine G.block ?_
 refine G.region ?_
 refine GL.r 6 6 [(5, vu (wd x 3)), (6, li 0), (8, wv x), (9, li 3), (16, .slice A254 12 c255), (21, lu (Int.tmod (Int.fdiv (wd x 3 : Int) (2 ^ 0)) 65536))] ?_
 have e279 : (Int.fdiv (wd x 3 : Int) (2 ^ 0)) = (((wd x 3) / 2 ^ 0 : Nat) : Int) := n_shr _ 0
 have e280 : (Int.tmod (((wd x 3) / 2 ^ 0 : Nat) : Int) 65536) = ((((wd x 3) / 2 ^ 0) % 65536 : Nat) : Int) := n_rem _ 65536
 rw [e279, e280]
 clear e279 e280
 obtain ⟨p281, w282, r283, H284⟩ := H258.madeRow (P := Try.prog) (Instr.buildSlice 35 1 #[(0, vu (((wd x 3) / 2 ^ 0) % 65536))]) (fun b_ => .slice (some ⟨b_, 0, none⟩) 1 1) [vu (((wd x 3) / 2 ^ 0) % 65536)] 31 1 1 1 (by kernel_rfl) (by decide) (by decide) rfl
 have H284 : Hp w [] [.blk p3 [vu (wd x 0), vu (wd x 1), vu (wd x 2), vu (wd x 3)] 32, .row A254 12 c255 31 1 (dg [((wd x 0) / 2 ^ 0) % 65536, ((wd x 0) / 2 ^ 16) % 65536, ((wd x 0) / 2 ^ 32) % 65536, ((wd x 0) / 2 ^ 48) % 65536, ((wd x 1) / 2 ^ 0) % 65536, ((wd x 1) / 2 ^ 16) % 65536, ((wd x 1) / 2 ^ 32) % 65536, ((wd x 1) / 2 ^ 48) % 65536, ((wd x 2) / 2 ^ 0) % 65536, ((wd x 2) / 2 ^ 16) % 65536, ((wd x 2) / 2 ^ 32) % 65536, ((wd x 2) / 2 ^ 48) % 65536]), .row (some ⟨p35, 0, none⟩) 1 1 31 1 (dg [((wd x 0) / 2 ^ 0) % 65536]), .row (some ⟨p52, 0, none⟩) 1 1 31 1 (dg [((wd x 0) / 2 ^ 16) % 65536]), .row (some ⟨p69, 0, none⟩) 1 1 31 1 (dg [((wd x 0) / 2 ^ 32) % 65536]), .row (some ⟨p86, 0, none⟩) 1 1 31 1 (dg [((wd x 0) / 2 ^ 48) % 65536]), .row (some ⟨p117, 0, none⟩) 1 1 31 1 (dg [((wd x 1) / 2 ^ 0) % 65536]), .row (some ⟨p134, 0, none⟩) 1 1 31 1 (dg [((wd x 1) / 2 ^ 16) % 65536]), .row (some ⟨p151, 0, none⟩) 1 1 31 1 (dg [((wd x 1) / 2 ^ 32) % 65536]), .row (some ⟨p168, 0, none⟩) 1 1 31 1 (dg [((wd x 1) / 2 ^ 48) % 65536]), .row (some ⟨p199, 0, none⟩) 1 1 31 1 (dg [((wd x 2) / 2 ^ 0) % 65536]), .row (some ⟨p216, 0, none⟩) 1 1 31 1 (dg [((wd x 2) / 2 ^ 16) % 65536]), .row (some ⟨p233, 0, none⟩) 1 1 31 1 (dg [((wd x 2) / 2 ^ 32) % 65536]), .row (some ⟨p250, 0, none⟩) 1 1 31 1 (dg [((wd x 2) / 2 ^ 48) % 65536]), .row (some ⟨p281, 0, none⟩) 1 1 31 1 (dg [((wd x 3) / 2 ^ 0) % 65536])] w282 := H284
 refine GL.s 7 (r283) [(5, vu (wd x 3)), (6, li 0), (8, wv x), (9, li 3), (16, .slice A254 12 c255), (22, .slice (some ⟨p281, 0, none⟩) 1 1)] ?_
 obtain ⟨A285, c286, w287, r288, H289⟩ := H284.append (P := Try.prog) (e := 31) (sz := 1) (by_ := 8) (n := 12) (c := c255) (m := 1) (d := 1) (t := 35) (ty := 35) (xs := dg [((wd x 0) / 2 ^ 0) % 65536, ((wd x 0) / 2 ^ 16) % 65536, ((wd x 0) / 2 ^ 32) % 65536, ((wd x 0) / 2 ^ 48) % 65536, ((wd x 1) / 2 ^ 0) % 65536, ((wd x 1) / 2 ^ 16) % 65536, ((wd x 1) / 2 ^ 32) % 65536, ((wd x 1) / 2 ^ 48) % 65536, ((wd x 2) / 2 ^ 0) % 65536, ((wd x 2) / 2 ^ 16) % 65536, ((wd x 2) / 2 ^ 32) % 65536, ((wd x 2) / 2 ^ 48) % 65536]) (news := dg [((wd x 3) / 2 ^ 0) % 65536]) 1 rfl (by kernel_rfl) (H284.rdRow 14 rfl) (by simp [dg_length]) (dg_one _) (by omega) (by simp only [maxLen]; omega)
 have H289 : Hp w [] [.blk p3 [vu (wd x 0), vu (wd x 1), vu (wd x 2), vu (wd x 3)] 32, .row A285 13 c286 31 1 (dg [((wd x 0) / 2 ^ 0) % 65536, ((wd x 0) / 2 ^ 16) % 65536, ((wd x 0) / 2 ^ 32) % 65536, ((wd x 0) / 2 ^ 48) % 65536, ((wd x 1) / 2 ^ 0) % 65536, ((wd x 1) / 2 ^ 16) % 65536, ((wd x 1) / 2 ^ 32) % 65536, ((wd x 1) / 2 ^ 48) % 65536, ((wd x 2) / 2 ^ 0) % 65536, ((wd x 2) / 2 ^ 16) % 65536, ((wd x 2) / 2 ^ 32) % 65536, ((wd x 2) / 2 ^ 48) % 65536, ((wd x 3) / 2 ^ 0) % 65536]), .row (some ⟨p35, 0, none⟩) 1 1 31 1 (dg [((wd x 0) / 2 ^ 0) % 65536]), .row (some ⟨p52, 0, none⟩) 1 1 31 1 (dg [((wd x 0) / 2 ^ 16) % 65536]), .row (some ⟨p69, 0, none⟩) 1 1 31 1 (dg [((wd x 0) / 2 ^ 32) % 65536]), .row (some ⟨p86, 0, none⟩) 1 1 31 1 (dg [((wd x 0) / 2 ^ 48) % 65536]), .row (some ⟨p117, 0, none⟩) 1 1 31 1 (dg [((wd x 1) / 2 ^ 0) % 65536]), .row (some ⟨p134, 0, none⟩) 1 1 31 1 (dg [((wd x 1) / 2 ^ 16) % 65536]), .row (some ⟨p151, 0, none⟩) 1 1 31 1 (dg [((wd x 1) / 2 ^ 32) % 65536]), .row (some ⟨p168, 0, none⟩) 1 1 31 1 (dg [((wd x 1) / 2 ^ 48) % 65536]), .row (some ⟨p199, 0, none⟩) 1 1 31 1 (dg [((wd x 2) / 2 ^ 0) % 65536]), .row (some ⟨p216, 0, none⟩) 1 1 31 1 (dg [((wd x 2) / 2 ^ 16) % 65536]), .row (some ⟨p233, 0, none⟩) 1 1 31 1 (dg [((wd x 2) / 2 ^ 32) % 65536]), .row (some ⟨p250, 0, none⟩) 1 1 31 1 (dg [((wd x 2) / 2 ^ 48) % 65536]), .row (some ⟨p281, 0, none⟩) 1 1 31 1 (dg [((wd x 3) / 2 ^ 0) % 65536])] w287 := H289
 refine GL.s 8 (r288) [(5, vu (wd x 3)), (6, li 0), (8, wv x), (9, li 3), (23, .slice A285 13 c286)] ?_
 refine GL.r 9 1 [(3, .slice A285 13 c286), (5, vu (wd x 3)), (6, li 0), (8, wv x), (9, li 3)] ?_
 refine GL.q hK278 ?_
 refine G.region ?_
 refine GL.r 3 3 [(3, .slice A285 13 c286), (5, vu (wd x 3)), (6, li 1), (8, wv x), (9, li 3)] ?_
 refine GL.round rfl ?_
 refine G.seqK fun K290 hK291 => ?_
 refine G.sr fun K292 hK293 => ?_
 refine GL.r 2 2 [(3, .slice A285 13 c286), (5, vu (wd x 3)), (6, li 1), (8, wv x), (9, li 3), (13, .bool true)] ?_
 refine GL.q hK293 ?_
 refine G.yes rfl ?_
 refine G.skipK hK291 (fun _ _ h => h) ?_
 refine G.seqK fun K294 hK295 => ?_
 refine G.block ?_
 refine G.region ?_
 refine GL.r 6 6 [(5, vu (wd x 3)), (6, li 1), (8, wv x), (9, li 3), (16, .slice A285 13 c286), (21, lu (Int.tmod (Int.fdiv (wd x 3 : Int) (2 ^ 16)) 65536))] ?_
 have e296 : (Int.fdiv (wd x 3 : Int) (2 ^ 16)) = (((wd x 3) / 2 ^ 16 : Nat) : Int) := n_shr _ 16
 have e297 : (Int.tmod (((wd x 3) / 2 ^ 16 : Nat) : Int) 65536) = ((((wd x 3) / 2 ^ 16) % 65536 : Nat) : Int) := n_rem _ 65536
 rw [e296, e297]
 clear e296 e297
 obtain ⟨p298, w299, r300, H301⟩ := H289.madeRow (P := Try.prog) (Instr.buildSlice 35 1 #[(0, vu (((wd x 3) / 2 ^ 16) % 65536))]) (fun b_ => .slice (some ⟨b_, 0, none⟩) 1 1) [vu (((wd x 3) / 2 ^ 16) % 65536)] 31 1 1 1 (by kernel_rfl) (by decide) (by decide) rfl
 have H301 : Hp w [] [.blk p3 [vu (wd x 0), vu (wd x 1), vu (wd x 2), vu (wd x 3)] 32, .row A285 13 c286 31 1 (dg [((wd x 0) / 2 ^ 0) % 65536, ((wd x 0) / 2 ^ 16) % 65536, ((wd x 0) / 2 ^ 32) % 65536, ((wd x 0) / 2 ^ 48) % 65536, ((wd x 1) / 2 ^ 0) % 65536, ((wd x 1) / 2 ^ 16) % 65536, ((wd x 1) / 2 ^ 32) % 65536, ((wd x 1) / 2 ^ 48) % 65536, ((wd x 2) / 2 ^ 0) % 65536, ((wd x 2) / 2 ^ 16) % 65536, ((wd x 2) / 2 ^ 32) % 65536, ((wd x 2) / 2 ^ 48) % 65536, ((wd x 3) / 2 ^ 0) % 65536]), .row (some ⟨p35, 0, none⟩) 1 1 31 1 (dg [((wd x 0) / 2 ^ 0) % 65536]), .row (some ⟨p52, 0, none⟩) 1 1 31 1 (dg [((wd x 0) / 2 ^ 16) % 65536]), .row (some ⟨p69, 0, none⟩) 1 1 31 1 (dg [((wd x 0) / 2 ^ 32) % 65536]), .row (some ⟨p86, 0, none⟩) 1 1 31 1 (dg [((wd x 0) / 2 ^ 48) % 65536]), .row (some ⟨p117, 0, none⟩) 1 1 31 1 (dg [((wd x 1) / 2 ^ 0) % 65536]), .row (some ⟨p134, 0, none⟩) 1 1 31 1 (dg [((wd x 1) / 2 ^ 16) % 65536]), .row (some ⟨p151, 0, none⟩) 1 1 31 1 (dg [((wd x 1) / 2 ^ 32) % 65536]), .row (some ⟨p168, 0, none⟩) 1 1 31 1 (dg [((wd x 1) / 2 ^ 48) % 65536]), .row (some ⟨p199, 0, none⟩) 1 1 31 1 (dg [((wd x 2) / 2 ^ 0) % 65536]), .row (some ⟨p216, 0, none⟩) 1 1 31 1 (dg [((wd x 2) / 2 ^ 16) % 65536]), .row (some ⟨p233, 0, none⟩) 1 1 31 1 (dg [((wd x 2) / 2 ^ 32) % 65536]), .row (some ⟨p250, 0, none⟩) 1 1 31 1 (dg [((wd x 2) / 2 ^ 48) % 65536]), .row (some ⟨p281, 0, none⟩) 1 1 31 1 (dg [((wd x 3) / 2 ^ 0) % 65536]), .row (some ⟨p298, 0, none⟩) 1 1 31 1 (dg [((wd x 3) / 2 ^ 16) % 65536])] w299 := H301
 refine GL.s 7 (r300) [(5, vu (wd x 3)), (6, li 1), (8, wv x), (9, li 3), (16, .slice A285 13 c286), (22, .slice (some ⟨p298, 0, none⟩) 1 1)] ?_
 obtain ⟨A302, c303, w304, r305, H306⟩ := H301.append (P := Try.prog) (e := 31) (sz := 1) (by_ := 8) (n := 13) (c := c286) (m := 1) (d := 1) (t := 35) (ty := 35) (xs := dg [((wd x 0) / 2 ^ 0) % 65536, ((wd x 0) / 2 ^ 16) % 65536, ((wd x 0) / 2 ^ 32) % 65536, ((wd x 0) / 2 ^ 48) % 65536, ((wd x 1) / 2 ^ 0) % 65536, ((wd x 1) / 2 ^ 16) % 65536, ((wd x 1) / 2 ^ 32) % 65536, ((wd x 1) / 2 ^ 48) % 65536, ((wd x 2) / 2 ^ 0) % 65536, ((wd x 2) / 2 ^ 16) % 65536, ((wd x 2) / 2 ^ 32) % 65536, ((wd x 2) / 2 ^ 48) % 65536, ((wd x 3) / 2 ^ 0) % 65536]) (news := dg [((wd x 3) / 2 ^ 16) % 65536]) 1 rfl (by kernel_rfl) (H301.rdRow 15 rfl) (by simp [dg_length]) (dg_one _) (by omega) (by simp only [maxLen]; omega)
 have H306 : Hp w [] [.blk p3 [vu (wd x 0), vu (wd x 1), vu (wd x 2), vu (wd x 3)] 32, .row A302 14 c303 31 1 (dg [((wd x 0) / 2 ^ 0) % 65536, ((wd x 0) / 2 ^ 16) % 65536, ((wd x 0) / 2 ^ 32) % 65536, ((wd x 0) / 2 ^ 48) % 65536, ((wd x 1) / 2 ^ 0) % 65536, ((wd x 1) / 2 ^ 16) % 65536, ((wd x 1) / 2 ^ 32) % 65536, ((wd x 1) / 2 ^ 48) % 65536, ((wd x 2) / 2 ^ 0) % 65536, ((wd x 2) / 2 ^ 16) % 65536, ((wd x 2) / 2 ^ 32) % 65536, ((wd x 2) / 2 ^ 48) % 65536, ((wd x 3) / 2 ^ 0) % 65536, ((wd x 3) / 2 ^ 16) % 65536]), .row (some ⟨p35, 0, none⟩) 1 1 31 1 (dg [((wd x 0) / 2 ^ 0) % 65536]), .row (some ⟨p52, 0, none⟩) 1 1 31 1 (dg [((wd x 0) / 2 ^ 16) % 65536]), .row (some ⟨p69, 0, none⟩) 1 1 31 1 (dg [((wd x 0) / 2 ^ 32) % 65536]), .row (some ⟨p86, 0, none⟩) 1 1 31 1 (dg [((wd x 0) / 2 ^ 48) % 65536]), .row (some ⟨p117, 0, none⟩) 1 1 31 1 (dg [((wd x 1) / 2 ^ 0) % 65536]), .row (some ⟨p134, 0, none⟩) 1 1 31 1 (dg [((wd x 1) / 2 ^ 16) % 65536]), .row (some ⟨p151, 0, none⟩) 1 1 31 1 (dg [((wd x 1) / 2 ^ 32) % 65536]), .row (some ⟨p168, 0, none⟩) 1 1 31 1 (dg [((wd x 1) / 2 ^ 48) % 65536]), .row (some ⟨p199, 0, none⟩) 1 1 31 1 (dg [((wd x 2) / 2 ^ 0) % 65536]), .row (some ⟨p216, 0, none⟩) 1 1 31 1 (dg [((wd x 2) / 2 ^ 16) % 65536]), .row (some ⟨p233, 0, none⟩) 1 1 31 1 (dg [((wd x 2) / 2 ^ 32) % 65536]), .row (some ⟨p250, 0, none⟩) 1 1 31 1 (dg [((wd x 2) / 2 ^ 48) % 65536]), .row (some ⟨p281, 0, none⟩) 1 1 31 1 (dg [((wd x 3) / 2 ^ 0) % 65536]), .row (some ⟨p298, 0, none⟩) 1 1 31 1 (dg [((wd x 3) / 2 ^ 16) % 65536])] w304 := H306
 refine GL.s 8 (r305) [(5, vu (wd x 3)), (6, li 1), (8, wv x), (9, li 3), (23, .slice A302 14 c303)] ?_
 refine GL.r 9 1 [(3, .slice A302 14 c303), (5, vu (wd x 3)), (6, li 1), (8, wv x), (9, li 3)] ?_
 refine GL.q hK295 ?_
 refine G.region ?_
 refine GL.r 3 3 [(3, .slice A302 14 c303), (5, vu (wd x 3)), (6, li 2), (8, wv x), (9, li 3)] ?_
 refine GL.round rfl ?_
 refine G.seqK fun K307 hK308 => ?_
 refine G.sr fun K309 hK310 => ?_
 refine GL.r 2 2 [(3, .slice A302 14 c303), (5, vu (wd x 3)), (6, li 2), (8, wv x), (9, li 3), (13, .bool true)] ?_
 refine GL.q hK310 ?_
 refine G.yes rfl ?_
 refine G.skipK hK308 (fun _ _ h => h) ?_
 refine G.seqK fun K311 hK312 => ?_
 refine G.block ?_
 refine G.region ?_
 refine GL.r 6 6 [(5, vu (wd x 3)), (6, li 2), (8, wv x), (9, li 3), (16, .slice A302 14 c303), (21, lu (Int.tmod (Int.fdiv (wd x 3 : Int) (2 ^ 32)) 65536))] ?_
 have e313 : (Int.fdiv (wd x 3 : Int) (2 ^ 32)) = (((wd x 3) / 2 ^ 32 : Nat) : Int) := n_shr _ 32
 have e314 : (Int.tmod (((wd x 3) / 2 ^ 32 : Nat) : Int) 65536) = ((((wd x 3) / 2 ^ 32) % 65536 : Nat) : Int) := n_rem _ 65536
 rw [e313, e314]
 clear e313 e314
 obtain ⟨p315, w316, r317, H318⟩ := H306.madeRow (P := Try.prog) (Instr.buildSlice 35 1 #[(0, vu (((wd x 3) / 2 ^ 32) % 65536))]) (fun b_ => .slice (some ⟨b_, 0, none⟩) 1 1) [vu (((wd x 3) / 2 ^ 32) % 65536)] 31 1 1 1 (by kernel_rfl) (by decide) (by decide) rfl
 have H318 : Hp w [] [.blk p3 [vu (wd x 0), vu (wd x 1), vu (wd x 2), vu (wd x 3)] 32, .row A302 14 c303 31 1 (dg [((wd x 0) / 2 ^ 0) % 65536, ((wd x 0) / 2 ^ 16) % 65536, ((wd x 0) / 2 ^ 32) % 65536, ((wd x 0) / 2 ^ 48) % 65536, ((wd x 1) / 2 ^ 0) % 65536, ((wd x 1) / 2 ^ 16) % 65536, ((wd x 1) / 2 ^ 32) % 65536, ((wd x 1) / 2 ^ 48) % 65536, ((wd x 2) / 2 ^ 0) % 65536, ((wd x 2) / 2 ^ 16) % 65536, ((wd x 2) / 2 ^ 32) % 65536, ((wd x 2) / 2 ^ 48) % 65536, ((wd x 3) / 2 ^ 0) % 65536, ((wd x 3) / 2 ^ 16) % 65536]), .row (some ⟨p35, 0, none⟩) 1 1 31 1 (dg [((wd x 0) / 2 ^ 0) % 65536]), .row (some ⟨p52, 0, none⟩) 1 1 31 1 (dg [((wd x 0) / 2 ^ 16) % 65536]), .row (some ⟨p69, 0, none⟩) 1 1 31 1 (dg [((wd x 0) / 2 ^ 32) % 65536]), .row (some ⟨p86, 0, none⟩) 1 1 31 1 (dg [((wd x 0) / 2 ^ 48) % 65536]), .row (some ⟨p117, 0, none⟩) 1 1 31 1 (dg [((wd x 1) / 2 ^ 0) % 65536]), .row (some ⟨p134, 0, none⟩) 1 1 31 1 (dg [((wd x 1) / 2 ^ 16) % 65536]), .row (some ⟨p151, 0, none⟩) 1 1 31 1 (dg [((wd x 1) / 2 ^ 32) % 65536]), .row (some ⟨p168, 0, none⟩) 1 1 31 1 (dg [((wd x 1) / 2 ^ 48) % 65536]), .row (some ⟨p199, 0, none⟩) 1 1 31 1 (dg [((wd x 2) / 2 ^ 0) % 65536]), .row (some ⟨p216, 0, none⟩) 1 1 31 1 (dg [((wd x 2) / 2 ^ 16) % 65536]), .row (some ⟨p233, 0, none⟩) 1 1 31 1 (dg [((wd x 2) / 2 ^ 32) % 65536]), .row (some ⟨p250, 0, none⟩) 1 1 31 1 (dg [((wd x 2) / 2 ^ 48) % 65536]), .row (some ⟨p281, 0, none⟩) 1 1 31 1 (dg [((wd x 3) / 2 ^ 0) % 65536]), .row (some ⟨p298, 0, none⟩) 1 1 31 1 (dg [((wd x 3) / 2 ^ 16) % 65536]), .row (some ⟨p315, 0, none⟩) 1 1 31 1 (dg [((wd x 3) / 2 ^ 32) % 65536])] w316 := H318
 refine GL.s 7 (r317) [(5, vu (wd x 3)), (6, li 2), (8, wv x), (9, li 3), (16, .slice A302 14 c303), (22, .slice (some ⟨p315, 0, none⟩) 1 1)] ?_
 obtain ⟨A319, c320, w321, r322, H323⟩ := H318.append (P := Try.prog) (e := 31) (sz := 1) (by_ := 8) (n := 14) (c := c303) (m := 1) (d := 1) (t := 35) (ty := 35) (xs := dg [((wd x 0) / 2 ^ 0) % 65536, ((wd x 0) / 2 ^ 16) % 65536, ((wd x 0) / 2 ^ 32) % 65536, ((wd x 0) / 2 ^ 48) % 65536, ((wd x 1) / 2 ^ 0) % 65536, ((wd x 1) / 2 ^ 16) % 65536, ((wd x 1) / 2 ^ 32) % 65536, ((wd x 1) / 2 ^ 48) % 65536, ((wd x 2) / 2 ^ 0) % 65536, ((wd x 2) / 2 ^ 16) % 65536, ((wd x 2) / 2 ^ 32) % 65536, ((wd x 2) / 2 ^ 48) % 65536, ((wd x 3) / 2 ^ 0) % 65536, ((wd x 3) / 2 ^ 16) % 65536]) (news := dg [((wd x 3) / 2 ^ 32) % 65536]) 1 rfl (by kernel_rfl) (H318.rdRow 16 rfl) (by simp [dg_length]) (dg_one _) (by omega) (by simp only [maxLen]; omega)
 have H323 : Hp w [] [.blk p3 [vu (wd x 0), vu (wd x 1), vu (wd x 2), vu (wd x 3)] 32, .row A319 15 c320 31 1 (dg [((wd x 0) / 2 ^ 0) % 65536, ((wd x 0) / 2 ^ 16) % 65536, ((wd x 0) / 2 ^ 32) % 65536, ((wd x 0) / 2 ^ 48) % 65536, ((wd x 1) / 2 ^ 0) % 65536, ((wd x 1) / 2 ^ 16) % 65536, ((wd x 1) / 2 ^ 32) % 65536, ((wd x 1) / 2 ^ 48) % 65536, ((wd x 2) / 2 ^ 0) % 65536, ((wd x 2) / 2 ^ 16) % 65536, ((wd x 2) / 2 ^ 32) % 65536, ((wd x 2) / 2 ^ 48) % 65536, ((wd x 3) / 2 ^ 0) % 65536, ((wd x 3) / 2 ^ 16) % 65536, ((wd x 3) / 2 ^ 32) % 65536]), .row (some ⟨p35, 0, none⟩) 1 1 31 1 (dg [((wd x 0) / 2 ^ 0) % 65536]), .row (some ⟨p52, 0, none⟩) 1 1 31 1 (dg [((wd x 0) / 2 ^ 16) % 65536]), .row (some ⟨p69, 0, none⟩) 1 1 31 1 (dg [((wd x 0) / 2 ^ 32) % 65536]), .row (some ⟨p86, 0, none⟩) 1 1 31 1 (dg [((wd x 0) / 2 ^ 48) % 65536]), .row (some ⟨p117, 0, none⟩) 1 1 31 1 (dg [((wd x 1) / 2 ^ 0) % 65536]), .row (some ⟨p134, 0, none⟩) 1 1 31 1 (dg [((wd x 1) / 2 ^ 16) % 65536]), .row (some ⟨p151, 0, none⟩) 1 1 31 1 (dg [((wd x 1) / 2 ^ 32) % 65536]), .row (some ⟨p168, 0, none⟩) 1 1 31 1 (dg [((wd x 1) / 2 ^ 48) % 65536]), .row (some ⟨p199, 0, none⟩) 1 1 31 1 (dg [((wd x 2) / 2 ^ 0) % 65536]), .row (some ⟨p216, 0, none⟩) 1 1 31 1 (dg [((wd x 2) / 2 ^ 16) % 65536]), .row (some ⟨p233, 0, none⟩) 1 1 31 1 (dg [((wd x 2) / 2 ^ 32) % 65536]), .row (some ⟨p250, 0, none⟩) 1 1 31 1 (dg [((wd x 2) / 2 ^ 48) % 65536]), .row (some ⟨p281, 0, none⟩) 1 1 31 1 (dg [((wd x 3) / 2 ^ 0) % 65536]), .row (some ⟨p298, 0, none⟩) 1 1 31 1 (dg [((wd x 3) / 2 ^ 16) % 65536]), .row (some ⟨p315, 0, none⟩) 1 1 31 1 (dg [((wd x 3) / 2 ^ 32) % 65536])] w321 := H323
 refine GL.s 8 (r322) [(5, vu (wd x 3)), (6, li 2), (8, wv x), (9, li 3), (23, .slice A319 15 c320)] ?_
 refine GL.r 9 1 [(3, .slice A319 15 c320), (5, vu (wd x 3)), (6, li 2), (8, wv x), (9, li 3)] ?_
 refine GL.q hK312 ?_
 refine G.region ?_
 refine GL.r 3 3 [(3, .slice A319 15 c320), (5, vu (wd x 3)), (6, li 3), (8, wv x), (9, li 3)] ?_
 refine GL.round rfl ?_
 refine G.seqK fun K324 hK325 => ?_
 refine G.sr fun K326 hK327 => ?_
 refine GL.r 2 2 [(3, .slice A319 15 c320), (5, vu (wd x 3)), (6, li 3), (8, wv x), (9, li 3), (13, .bool true)] ?_
 refine GL.q hK327 ?_
 refine G.yes rfl ?_
 refine G.skipK hK325 (fun _ _ h => h) ?_
 refine G.seqK fun K328 hK329 => ?_
 refine G.block ?_
 refine G.region ?_
 refine GL.r 6 6 [(5, vu (wd x 3)), (6, li 3), (8, wv x), (9, li 3), (16, .slice A319 15 c320), (21, lu (Int.tmod (Int.fdiv (wd x 3 : Int) (2 ^ 48)) 65536))] ?_
 have e330 : (Int.fdiv (wd x 3 : Int) (2 ^ 48)) = (((wd x 3) / 2 ^ 48 : Nat) : Int) := n_shr _ 48
 have e331 : (Int.tmod (((wd x 3) / 2 ^ 48 : Nat) : Int) 65536) = ((((wd x 3) / 2 ^ 48) % 65536 : Nat) : Int) := n_rem _ 65536
 rw [e330, e331]
 clear e330 e331
 obtain ⟨p332, w333, r334, H335⟩ := H323.madeRow (P := Try.prog) (Instr.buildSlice 35 1 #[(0, vu (((wd x 3) / 2 ^ 48) % 65536))]) (fun b_ => .slice (some ⟨b_, 0, none⟩) 1 1) [vu (((wd x 3) / 2 ^ 48) % 65536)] 31 1 1 1 (by kernel_rfl) (by decide) (by decide) rfl
 have H335 : Hp w [] [.blk p3 [vu (wd x 0), vu (wd x 1), vu (wd x 2), vu (wd x 3)] 32, .row A319 15 c320 31 1 (dg [((wd x 0) / 2 ^ 0) % 65536, ((wd x 0) / 2 ^ 16) % 65536, ((wd x 0) / 2 ^ 32) % 65536, ((wd x 0) / 2 ^ 48) % 65536, ((wd x 1) / 2 ^ 0) % 65536, ((wd x 1) / 2 ^ 16) % 65536, ((wd x 1) / 2 ^ 32) % 65536, ((wd x 1) / 2 ^ 48) % 65536, ((wd x 2) / 2 ^ 0) % 65536, ((wd x 2) / 2 ^ 16) % 65536, ((wd x 2) / 2 ^ 32) % 65536, ((wd x 2) / 2 ^ 48) % 65536, ((wd x 3) / 2 ^ 0) % 65536, ((wd x 3) / 2 ^ 16) % 65536, ((wd x 3) / 2 ^ 32) % 65536]), .row (some ⟨p35, 0, none⟩) 1 1 31 1 (dg [((wd x 0) / 2 ^ 0) % 65536]), .row (some ⟨p52, 0, none⟩) 1 1 31 1 (dg [((wd x 0) / 2 ^ 16) % 65536]), .row (some ⟨p69, 0, none⟩) 1 1 31 1 (dg [((wd x 0) / 2 ^ 32) % 65536]), .row (some ⟨p86, 0, none⟩) 1 1 31 1 (dg [((wd x 0) / 2 ^ 48) % 65536]), .row (some ⟨p117, 0, none⟩) 1 1 31 1 (dg [((wd x 1) / 2 ^ 0) % 65536]), .row (some ⟨p134, 0, none⟩) 1 1 31 1 (dg [((wd x 1) / 2 ^ 16) % 65536]), .row (some ⟨p151, 0, none⟩) 1 1 31 1 (dg [((wd x 1) / 2 ^ 32) % 65536]), .row (some ⟨p168, 0, none⟩) 1 1 31 1 (dg [((wd x 1) / 2 ^ 48) % 65536]), .row (some ⟨p199, 0, none⟩) 1 1 31 1 (dg [((wd x 2) / 2 ^ 0) % 65536]), .row (some ⟨p216, 0, none⟩) 1 1 31 1 (dg [((wd x 2) / 2 ^ 16) % 65536]), .row (some ⟨p233, 0, none⟩) 1 1 31 1 (dg [((wd x 2) / 2 ^ 32) % 65536]), .row (some ⟨p250, 0, none⟩) 1 1 31 1 (dg [((wd x 2) / 2 ^ 48) % 65536]), .row (some ⟨p281, 0, none⟩) 1 1 31 1 (dg [((wd x 3) / 2 ^ 0) % 65536]), .row (some ⟨p298, 0, none⟩) 1 1 31 1 (dg [((wd x 3) / 2 ^ 16) % 65536]), .row (some ⟨p315, 0, none⟩) 1 1 31 1 (dg [((wd x 3) / 2 ^ 32) % 65536]), .row (some ⟨p332, 0, none⟩) 1 1 31 1 (dg [((wd x 3) / 2 ^ 48) % 65536])] w333 := H335
 refine GL.s 7 (r334) [(5, vu (wd x 3)), (6, li 3), (8, wv x), (9, li 3), (16, .slice A319 15 c320), (22, .slice (some ⟨p332, 0, none⟩) 1 1)] ?_
 obtain ⟨A336, c337, w338, r339, H340⟩ := H335.append (P := Try.prog) (e := 31) (sz := 1) (by_ := 8) (n := 15) (c := c320) (m := 1) (d := 1) (t := 35) (ty := 35) (xs := dg [((wd x 0) / 2 ^ 0) % 65536, ((wd x 0) / 2 ^ 16) % 65536, ((wd x 0) / 2 ^ 32) % 65536, ((wd x 0) / 2 ^ 48) % 65536, ((wd x 1) / 2 ^ 0) % 65536, ((wd x 1) / 2 ^ 16) % 65536, ((wd x 1) / 2 ^ 32) % 65536, ((wd x 1) / 2 ^ 48) % 65536, ((wd x 2) / 2 ^ 0) % 65536, ((wd x 2) / 2 ^ 16) % 65536, ((wd x 2) / 2 ^ 32) % 65536, ((wd x 2) / 2 ^ 48) % 65536, ((wd x 3) / 2 ^ 0) % 65536, ((wd x 3) / 2 ^ 16) % 65536, ((wd x 3) / 2 ^ 32) % 65536]) (news := dg [((wd x 3) / 2 ^ 48) % 65536]) 1 rfl (by kernel_rfl) (H335.rdRow 17 rfl) (by simp [dg_length]) (dg_one _) (by omega) (by simp only [maxLen]; omega)
 have H340 : Hp w [] [.blk p3 [vu (wd x 0), vu (wd x 1), vu (wd x 2), vu (wd x 3)] 32, .row A336 16 c337 31 1 (dg [((wd x 0) / 2 ^ 0) % 65536, ((wd x 0) / 2 ^ 16) % 65536, ((wd x 0) / 2 ^ 32) % 65536, ((wd x 0) / 2 ^ 48) % 65536, ((wd x 1) / 2 ^ 0) % 65536, ((wd x 1) / 2 ^ 16) % 65536, ((wd x 1) / 2 ^ 32) % 65536, ((wd x 1) / 2 ^ 48) % 65536, ((wd x 2) / 2 ^ 0) % 65536, ((wd x 2) / 2 ^ 16) % 65536, ((wd x 2) / 2 ^ 32) % 65536, ((wd x 2) / 2 ^ 48) % 65536, ((wd x 3) / 2 ^ 0) % 65536, ((wd x 3) / 2 ^ 16) % 65536, ((wd x 3) / 2 ^ 32) % 65536, ((wd x 3) / 2 ^ 48) % 65536]), .row (some ⟨p35, 0, none⟩) 1 1 31 1 (dg [((wd x 0) / 2 ^ 0) % 65536]), .row (some ⟨p52, 0, none⟩) 1 1 31 1 (dg [((wd x 0) / 2 ^ 16) % 65536]), .row (some ⟨p69, 0, none⟩) 1 1 31 1 (dg [((wd x 0) / 2 ^ 32) % 65536]), .row (some ⟨p86, 0, none⟩) 1 1 31 1 (dg [((wd x 0) / 2 ^ 48) % 65536]), .row (some ⟨p117, 0, none⟩) 1 1 31 1 (dg [((wd x 1) / 2 ^ 0) % 65536]), .row (some ⟨p134, 0, none⟩) 1 1 31 1 (dg [((wd x 1) / 2 ^ 16) % 65536]), .row (some ⟨p151, 0, none⟩) 1 1 31 1 (dg [((wd x 1) / 2 ^ 32) % 65536]), .row (some ⟨p168, 0, none⟩) 1 1 31 1 (dg [((wd x 1) / 2 ^ 48) % 65536]), .row (some ⟨p199, 0, none⟩) 1 1 31 1 (dg [((wd x 2) / 2 ^ 0) % 65536]), .row (some ⟨p216, 0, none⟩) 1 1 31 1 (dg [((wd x 2) / 2 ^ 16) % 65536]), .row (some ⟨p233, 0, none⟩) 1 1 31 1 (dg [((wd x 2) / 2 ^ 32) % 65536]), .row (some ⟨p250, 0, none⟩) 1 1 31 1 (dg [((wd x 2) / 2 ^ 48) % 65536]), .row (some ⟨p281, 0, none⟩) 1 1 31 1 (dg [((wd x 3) / 2 ^ 0) % 65536]), .row (some ⟨p298, 0, none⟩) 1 1 31 1 (dg [((wd x 3) / 2 ^ 16) % 65536]), .row (some ⟨p315, 0, none⟩) 1 1 31 1 (dg [((wd x 3) / 2 ^ 32) % 65536]), .row (some ⟨p332, 0, none⟩) 1 1 31 1 (dg [((wd x 3) / 2 ^ 48) % 65536])] w338 := H340
 refine GL.s 8 (r339) [(5, vu (wd x 3)), (6, li 3), (8, wv x), (9, li 3), (23, .slice A336 16 c337)] ?_
 refine GL.r 9 1 [(3, .slice A336 16 c337), (5, vu (wd x 3)), (6, li 3), (8, wv x), (9, li 3)] ?_
 refine GL.q hK329 ?_
 refine G.region ?_
 refine GL.r 3 3 [(3, .slice A336 16 c337), (5, vu (wd x 3)), (6, li 4), (8, wv x), (9, li 3)] ?_
 refine GL.round rfl ?_
 refine G.seqK fun K341 hK342 => ?_
 refine G.sr fun K343 hK344 => ?_
 refine GL.r 2 2 [(3, .slice A336 16 c337), (5, vu (wd x 3)), (6, li 4), (8, wv x), (9, li 3), (13, .bool false)] ?_
 refine GL.q hK344 ?_
 refine G.no rfl ?_
 refine G.exitK hK268 (fun _ _ h => h) ?_
 refine G.region ?_
 refine GL.r 2 2 [(3, .slice A336 16 c337), (8, wv x), (9, li 4)] ?_
 refine GL.round rfl ?_
 refine G.sr fun K345 hK346 => ?_
 refine GL.r 1 1 [(3, .slice A336 16 c337), (8, wv x), (9, li 4), (10, .bool false)] ?_
 refine GL.q hK346 ?_
 refine G.seqK fun K347 hK348 => ?_
 refine G.no rfl ?_
 refine G.exitK hK14 (fun _ _ h => h) ?_
 refine G.sr fun K349 hK350 => ?_
 refine GL.r 1 1 [(25, .slice A336 16 c337)] ?_
 have hw := words_digs hx (ds := [((wd x 0) / 2 ^ 0) % 65536, ((wd x 0) / 2 ^ 16) % 65536, ((wd x 0) / 2 ^ 32) % 65536, ((wd x 0) / 2 ^ 48) % 65536, ((wd x 1) / 2 ^ 0) % 65536, ((wd x 1) / 2 ^ 16) % 65536, ((wd x 1) / 2 ^ 32) % 65536, ((wd x 1) / 2 ^ 48) % 65536, ((wd x 2) / 2 ^ 0) % 65536, ((wd x 2) / 2 ^ 16) % 65536, ((wd x 2) / 2 ^ 32) % 65536, ((wd x 2) / 2 ^ 48) % 65536, ((wd x 3) / 2 ^ 0) % 65536, ((wd x 3) / 2 ^ 16) % 65536, ((wd x 3) / 2 ^ 32) % 65536, ((wd x 3) / 2 ^ 48) % 65536]) rfl
 refine GL.call (j := 2) (trim_calls [((wd x 0) / 2 ^ 0) % 65536, ((wd x 0) / 2 ^ 16) % 65536, ((wd x 0) / 2 ^ 32) % 65536, ((wd x 0) / 2 ^ 48) % 65536, ((wd x 1) / 2 ^ 0) % 65536, ((wd x 1) / 2 ^ 16) % 65536, ((wd x 1) / 2 ^ 32) % 65536, ((wd x 1) / 2 ^ 48) % 65536, ((wd x 2) / 2 ^ 0) % 65536, ((wd x 2) / 2 ^ 16) % 65536, ((wd x 2) / 2 ^ 32) % 65536, ((wd x 2) / 2 ^ 48) % 65536, ((wd x 3) / 2 ^ 0) % 65536, ((wd x 3) / 2 ^ 16) % 65536, ((wd x 3) / 2 ^ 32) % 65536, ((wd x 3) / 2 ^ 48) % 65536] 16 (rfl) A336 c337 w338 (H340.rdRow 1 rfl) (hw.2) (H340.rowLe 1 rfl).1 (by omega)) (by kernel_rfl) rfl (fun e_ w351 hR => ?_)
 obtain ⟨rfl, H353⟩ := hR
 have H352 := (H340.callNil H353).shrinkD 1 rfl (rfl) (hw.2)
 rw [hw.1] at H352
 rw [hw.1]
 have H352 : Hp w [] [.blk p3 [vu (wd x 0), vu (wd x 1), vu (wd x 2), vu (wd x 3)] 32, .row A336 (ndg x) c337 31 1 (dg (digs x)), .row (some ⟨p35, 0, none⟩) 1 1 31 1 (dg [((wd x 0) / 2 ^ 0) % 65536]), .row (some ⟨p52, 0, none⟩) 1 1 31 1 (dg [((wd x 0) / 2 ^ 16) % 65536]), .row (some ⟨p69, 0, none⟩) 1 1 31 1 (dg [((wd x 0) / 2 ^ 32) % 65536]), .row (some ⟨p86, 0, none⟩) 1 1 31 1 (dg [((wd x 0) / 2 ^ 48) % 65536]), .row (some ⟨p117, 0, none⟩) 1 1 31 1 (dg [((wd x 1) / 2 ^ 0) % 65536]), .row (some ⟨p134, 0, none⟩) 1 1 31 1 (dg [((wd x 1) / 2 ^ 16) % 65536]), .row (some ⟨p151, 0, none⟩) 1 1 31 1 (dg [((wd x 1) / 2 ^ 32) % 65536]), .row (some ⟨p168, 0, none⟩) 1 1 31 1 (dg [((wd x 1) / 2 ^ 48) % 65536]), .row (some ⟨p199, 0, none⟩) 1 1 31 1 (dg [((wd x 2) / 2 ^ 0) % 65536]), .row (some ⟨p216, 0, none⟩) 1 1 31 1 (dg [((wd x 2) / 2 ^ 16) % 65536]), .row (some ⟨p233, 0, none⟩) 1 1 31 1 (dg [((wd x 2) / 2 ^ 32) % 65536]), .row (some ⟨p250, 0, none⟩) 1 1 31 1 (dg [((wd x 2) / 2 ^ 48) % 65536]), .row (some ⟨p281, 0, none⟩) 1 1 31 1 (dg [((wd x 3) / 2 ^ 0) % 65536]), .row (some ⟨p298, 0, none⟩) 1 1 31 1 (dg [((wd x 3) / 2 ^ 16) % 65536]), .row (some ⟨p315, 0, none⟩) 1 1 31 1 (dg [((wd x 3) / 2 ^ 32) % 65536]), .row (some ⟨p332, 0, none⟩) 1 1 31 1 (dg [((wd x 3) / 2 ^ 48) % 65536])] w351 := H352
 refine ⟨_, rfl, [26], [(26, .slice A336 (ndg x) c337)], by kernel_rfl, ?_⟩
 refine GL.r 3 1 [(2, .slice A336 (ndg x) c337)] ?_
 refine GL.q hK350 ?_
 refine G.ret fun F_ hF_ hM_ => hRet _ _ (bodyPost_1 rfl (RV.tmp rfl) ?_ F_ hF_ hM_)
 have H354 : Hp w [] [.row A336 (ndg x) c337 31 1 (dg (digs x))] w351 := H352.sub (List.Sublist.cons _ (List.Sublist.cons_cons _ (List.Sublist.cons _ (List.Sublist.cons _ (List.Sublist.cons _ (List.Sublist.cons _ (List.Sublist.cons _ (List.Sublist.cons _ (List.Sublist.cons _ (List.Sublist.cons _ (List.Sublist.cons _ (List.Sublist.cons _ (List.Sublist.cons _ (List.Sublist.cons _ (List.Sublist.cons _ (List.Sublist.cons _ (List.Sublist.cons _ (List.Sublist.cons _ (List.Sublist.slnil)))))))))))))))))))
 exact ⟨_, _, rfl, H354⟩
theorem Of1_calls_n (x : Nat) (hx : x < K) (w : World) : Calls Try.prog 11 #[.agg #[.int .u64 (x : Int), .int .u64 0, .int .u64 0, .int .u64 0]] w fun e w' => ∃ A c, e = .returned ((.slice A (ndg x) c)) ∧ Hp w [] [.row A (ndg x) c 31 1 (dg (digs x))] w' := by
 rw [of_fin hx]
 exact Of_calls_n x (Nat.lt_trans hx (by decide)) w
theorem CmpN_calls (a b : Nat) (A B : Option Addr) (c d : Nat) (w : World) (hr : RdS w A (dg (digs a))) (hs : RdS w B (dg (digs b))) (hna : ndg a ≤ 1000000) (hnb : ndg b ≤ 1000000) : Calls Try.prog 10 #[.slice A (ndg a) c, .slice B (ndg b) d] w fun e w' => e = .returned (.int .i64 (cmpN a b)) ∧ Hp w [] [] w' := by
 refine calls_G (args := [.slice A (ndg a) c, .slice B (ndg b) d]) Try.func10 rfl Try.ntmps10 rfl ?_
 intro Q0 hRet hNor hPan
 have H := Hp.start w
 refine G.sr fun K1 hK2 => ?_
 refine GL.r 1 1 [(0, .slice A (ndg a) c), (1, .slice B (ndg b) d)] ?_
 refine GL.q hK2 ?_
 refine G.seqK fun K3 hK4 => ?_
 refine G.sr fun K5 hK6 => ?_
 refine GL.r 7 7 [(0, .slice A (ndg a) c), (1, .slice B (ndg b) d), (5, li (IntKind.i64.wrap ((if (((ndg b) : Nat) : Int) > (((ndg a) : Nat) : Int) then (((ndg b) : Nat) : Int) else (((ndg a) : Nat) : Int)) - 1)))] ?_
 have e7 : (if (((ndg b) : Nat) : Int) > (((ndg a) : Nat) : Int) then (((ndg b) : Nat) : Int) else (((ndg a) : Nat) : Int)) = (((max (ndg a) (ndg b)) : Nat) : Int) := max_int (ndg a) (ndg b)
 have e8 : (IntKind.i64.wrap ((((max (ndg a) (ndg b)) : Nat) : Int) - 1)) = ((((max (ndg a) (ndg b)) : Nat) : Int) - 1) := in_i64 (by omega)
 rw [e7, e8]
 clear e7 e8
 refine GL.q hK6 ?_
 refine G.block ?_
 refine G.fit [0, 1, 5] (M' := [(0, .slice A (ndg a) c), (1, .slice B (ndg b) d), (5, li ((((max (ndg a) (ndg b)) : Nat) : Int) - 1))]) (by kernel_rfl) ?_
 refine G.loop (X := Nat) (fun m => [(0, .slice A (ndg a) c), (1, .slice B (ndg b) d), (5, li (((m : Nat) : Int) - 1))]) (fun m w_ => (m ≤ 1000000 ∧ a / 65536 ^ m = b / 65536 ^ m) ∧ Hp w [] [] w_) (fun m => m) (max (ndg a) (ndg b)) [0, 1, 5] (by kernel_rfl) ⟨⟨by omega, by rw [Nat.div_eq_of_lt (ndg_le.1 (Nat.le_max_left _ _)), Nat.div_eq_of_lt (ndg_le.1 (Nat.le_max_right _ _))]⟩, H⟩ ?_
 rintro m w9 ⟨hi10, H11⟩
 refine G.eq (M' := [(0, .slice A (ndg a) c), (1, .slice B (ndg b) d), (5, li (((m : Nat) : Int) - 1))]) rfl ?_
 obtain ⟨hm, hv⟩ := hi10
 refine G.seqK fun K12 hK13 => ?_
 refine G.sr fun K14 hK15 => ?_
 refine GL.r 2 2 [(0, .slice A (ndg a) c), (1, .slice B (ndg b) d), (5, li (((m : Nat) : Int) - 1)), (15, .bool (decide (0 ≤ (((m : Nat) : Int) - 1))))] ?_
 refine GL.q hK15 ?_
 cases hb16 : (decide (0 ≤ (((m : Nat) : Int) - 1)))
 · skip
   have hb16f := of_decide_eq_false hb16
   have hm0 : m = 0 := by omega
   refine G.no rfl ?_
   refine G.exitK hK4 (fun _ _ h => h) ?_
   refine G.sr fun K17 hK18 => ?_
   refine GL.r 1 1 [(4, li 0)] ?_
   refine GL.q hK18 ?_
   refine G.ret fun F_ hF_ hM_ => hRet _ _ (bodyPost_1 rfl (RV.tmp rfl) ?_ F_ hF_ hM_)
   rw [hm0, Nat.pow_zero, Nat.div_one, Nat.div_one] at hv
   rw [← cmp_eq hv]
   exact ⟨rfl, H11.sub (List.nil_sublist _)⟩
 · skip
   have hb16f := of_decide_eq_true hb16
   have hm0 : 0 < m := by omega
   have ei : (((m : Nat) : Int) - 1) = ((m - 1 : Nat) : Int) := by omega
   refine G.eq (M' := [(0, .slice A (ndg a) c), (1, .slice B (ndg b) d), (5, vi (m - 1)), (15, .bool true)]) (by rw [ei]) ?_
   refine G.yes rfl ?_
   refine G.skipK hK13 (fun _ _ h => h) ?_
   refine G.seqK fun K19 hK20 => ?_
   refine G.block ?_
   refine G.sr fun K21 hK22 => ?_
   refine GL.r 2 2 [(0, .slice A (ndg a) c), (1, .slice B (ndg b) d), (5, vi (m - 1)), (18, .slice A (ndg a) c), (19, vi (m - 1))] ?_
   refine GL.call (j := 3) (digit_calls a (m - 1) A c w9 (hr.hp H11)) (by kernel_rfl) rfl (fun e_ w23 hR => ?_)
   obtain ⟨rfl, H25⟩ := hR
   have H24 : Hp w [] [] w23 := H11.callNil H25
   refine ⟨_, rfl, [0, 1, 5, 20], [(0, .slice A (ndg a) c), (1, .slice B (ndg b) d), (5, vi (m - 1)), (20, lu ((dgt a (m - 1)) : Int))], by kernel_rfl, ?_⟩
   refine GL.r 5 2 [(0, .slice A (ndg a) c), (1, .slice B (ndg b) d), (5, vi (m - 1)), (20, lu ((dgt a (m - 1)) : Int)), (21, .slice B (ndg b) d), (22, vi (m - 1))] ?_
   refine GL.call (j := 6) (digit_calls b (m - 1) B d w23 (hs.hp H24)) (by kernel_rfl) rfl (fun e_ w26 hR => ?_)
   obtain ⟨rfl, H28⟩ := hR
   have H27 : Hp w [] [] w26 := H24.callNil H28
   refine ⟨_, rfl, [0, 1, 5, 20, 23], [(0, .slice A (ndg a) c), (1, .slice B (ndg b) d), (5, vi (m - 1)), (20, lu ((dgt a (m - 1)) : Int)), (23, lu ((dgt b (m - 1)) : Int))], by kernel_rfl, ?_⟩
   refine GL.r 8 2 [(0, .slice A (ndg a) c), (1, .slice B (ndg b) d), (5, vi (m - 1)), (6, lu ((dgt a (m - 1)) : Int)), (7, lu ((dgt b (m - 1)) : Int))] ?_
   refine GL.q hK22 ?_
   refine G.seqK fun K29 hK30 => ?_
   refine G.sr fun K31 hK32 => ?_
   refine GL.r 3 3 [(0, .slice A (ndg a) c), (1, .slice B (ndg b) d), (5, vi (m - 1)), (6, lu ((dgt a (m - 1)) : Int)), (7, lu ((dgt b (m - 1)) : Int)), (26, .bool (decide (((dgt a (m - 1)) : Int) < ((dgt b (m - 1)) : Int))))] ?_
   refine GL.q hK32 ?_
   cases hb33 : (decide (((dgt a (m - 1)) : Int) < ((dgt b (m - 1)) : Int)))
   · skip
     have hb33f := of_decide_eq_false hb33
     refine G.no rfl ?_
     refine G.skipK hK30 (fun _ _ h => h) ?_
     refine G.sr fun K34 hK35 => ?_
     refine GL.r 3 3 [(0, .slice A (ndg a) c), (1, .slice B (ndg b) d), (5, vi (m - 1)), (29, .bool (decide (((dgt b (m - 1)) : Int) < ((dgt a (m - 1)) : Int))))] ?_
     refine GL.q hK35 ?_
     cases hb36 : (decide (((dgt b (m - 1)) : Int) < ((dgt a (m - 1)) : Int)))
     · skip
       have hb36f := of_decide_eq_false hb36
       refine G.no rfl ?_
       refine G.skipK hK20 (fun _ _ h => h) ?_
       refine G.region ?_
       refine GL.r 3 3 [(0, .slice A (ndg a) c), (1, .slice B (ndg b) d), (5, li (IntKind.i64.wrap (((m - 1 : Nat) : Int) - 1)))] ?_
       have e37 : (IntKind.i64.wrap (((m - 1 : Nat) : Int) - 1)) = (((m - 1 : Nat) : Int) - 1) := in_i64 (by omega)
       rw [e37]
       clear e37
       refine GL.fit (ts := [0, 1, 5]) (M' := [(0, .slice A (ndg a) c), (1, .slice B (ndg b) d), (5, li (((m - 1 : Nat) : Int) - 1))]) (by kernel_rfl) ?_
       refine GL.eq (M' := [(0, .slice A (ndg a) c), (1, .slice B (ndg b) d), (5, li ((((m - 1) : Nat) : Int) - 1))]) (by rfl) ?_
       exact GL.again (m - 1) [0, 1, 5] rfl (by kernel_rfl) (by show (m - 1) < m; omega) ⟨⟨by omega, by rw [high_step a (m - 1), high_step b (m - 1), show m - 1 + 1 = m from by omega, hv]; omega⟩, H27⟩
     · skip
       have hb36f := of_decide_eq_true hb36
       refine G.yes rfl ?_
       refine G.sr fun K38 hK39 => ?_
       refine GL.r 1 1 [(4, li 1)] ?_
       refine GL.q hK39 ?_
       refine G.ret fun F_ hF_ hM_ => hRet _ _ (bodyPost_1 rfl (RV.tmp rfl) ?_ F_ hF_ hM_)
       rw [← cmp_gt (cmp_high (p := 65536 ^ (m - 1)) (by rw [high_step a (m - 1), high_step b (m - 1), show m - 1 + 1 = m from by omega, hv]; omega))]
       exact ⟨rfl, H27.sub (List.nil_sublist _)⟩
   · skip
     have hb33f := of_decide_eq_true hb33
     refine G.yes rfl ?_
     refine G.sr fun K40 hK41 => ?_
     refine GL.r 1 1 [(4, li (-1))] ?_
     refine GL.q hK41 ?_
     refine G.ret fun F_ hF_ hM_ => hRet _ _ (bodyPost_1 rfl (RV.tmp rfl) ?_ F_ hF_ hM_)
     rw [← cmp_lt (cmp_high (p := 65536 ^ (m - 1)) (by rw [high_step a (m - 1), high_step b (m - 1), show m - 1 + 1 = m from by omega, hv]; omega))]
     exact ⟨rfl, H27.sub (List.nil_sublist _)⟩
theorem AddN_calls (a b : Nat) (A : Option Addr) (c : Nat) (B : Option Addr) (d : Nat) (w : World) (hr : RdS w A (dg (digs a))) (hs : RdS w B (dg (digs b))) (hna : ndg a ≤ 100000) (hnb : ndg b ≤ 100000) : Calls Try.prog 47 #[.slice A (ndg a) c, .slice B (ndg b) d] w fun e w' => ∃ A c, e = .returned ((.slice A (ndg (a + b)) c)) ∧ Hp w [] [.row A (ndg (a + b)) c 31 1 (dg (digs (a + b)))] w' := by
 have hMX : MX = 4611686018427387904 := rfl
 have hK0 : K = 18446744073709551616 := rfl
 have hK40 : K4 = 115792089237316195423570985008687907853269984665640564039457584007913129639936 := rfl
 refine calls_G (args := [.slice A (ndg a) c, .slice B (ndg b) d]) Try.func47 rfl Try.ntmps47 rfl ?_
 intro Q0 hRet hNor hPan
 have H := Hp.start w
 refine G.sr fun K1 hK2 => ?_
 refine GL.r 1 1 [(0, .slice A (ndg a) c), (1, .slice B (ndg b) d)] ?_
 refine GL.q hK2 ?_
 refine G.sr fun K3 hK4 => ?_
 obtain ⟨p5, w6, r7, H8⟩ := H.madeRow (P := Try.prog) (Instr.buildSlice 35 0 #[]) (fun b_ => .slice (some ⟨b_, 0, none⟩) 0 0) [] 31 0 0 1 (by kernel_rfl) (by decide) (by decide) rfl
 refine GL.s 1 (r7) [(0, .slice A (ndg a) c), (1, .slice B (ndg b) d), (8, .slice (some ⟨p5, 0, none⟩) 0 0)] ?_
 refine GL.r 2 1 [(0, .slice A (ndg a) c), (1, .slice B (ndg b) d), (5, .slice (some ⟨p5, 0, none⟩) 0 0)] ?_
 refine GL.q hK4 ?_
 refine G.sr fun K9 hK10 => ?_
 refine GL.r 1 1 [(0, .slice A (ndg a) c), (1, .slice B (ndg b) d), (5, .slice (some ⟨p5, 0, none⟩) 0 0), (6, lu 0)] ?_
 refine GL.q hK10 ?_
 refine G.seqK fun K11 hK12 => ?_
 refine G.sr fun K13 hK14 => ?_
 refine GL.r 1 1 [(0, .slice A (ndg a) c), (1, .slice B (ndg b) d), (5, .slice (some ⟨p5, 0, none⟩) 0 0), (6, lu 0), (7, li 0)] ?_
 refine GL.q hK14 ?_
 refine G.block ?_
 refine G.fit [0, 1, 5, 6, 7] (M' := [(0, .slice A (ndg a) c), (1, .slice B (ndg b) d), (5, .slice (some ⟨p5, 0, none⟩) 0 0), (6, lu 0), (7, li 0)]) (by kernel_rfl) ?_
 refine G.loop (X := Nat × Nat × List Nat × Option Addr × Nat) (fun ⟨i, cy, xs, Z, z⟩ => [(0, .slice A (ndg a) c), (1, .slice B (ndg b) d), (5, .slice Z i z), (6, vu cy), (7, vi i)]) (fun ⟨i, cy, xs, Z, z⟩ w_ => (xs.length = i ∧ ok16 xs ∧ cy ≤ 1 ∧ i + 2 * (ndg a - i) + 2 * (ndg b - i) + cy ≤ 2 * ndg a + 2 * ndg b ∧ val xs + 65536 ^ i * cy = a % 65536 ^ i + b % 65536 ^ i) ∧ Hp w [] [.row Z i z 31 1 (dg xs)] w_) (fun ⟨i, cy, xs, Z, z⟩ => 2 * (ndg a - i) + 2 * (ndg b - i) + cy) ⟨0, 0, [], (some ⟨p5, 0, none⟩), 0⟩ [0, 1, 5, 6, 7] (by kernel_rfl) ⟨⟨rfl, ok_nil, by omega, by omega, by simp [val, Nat.mod_one]⟩, H8⟩ ?_
 rintro ⟨i, cy, xs, Z, z⟩ w15 ⟨hi16, H17⟩
 refine G.eq (M' := [(0, .slice A (ndg a) c), (1, .slice B (ndg b) d), (5, .slice Z i z), (6, vu cy), (7, vi i)]) rfl ?_
 obtain ⟨hl, hok, hc, hib, hv⟩ := hi16
 have za := @dgt_zero a i
 have zb := @dgt_zero b i
 have da := dgt_lt a i
 have db := dgt_lt b i
 refine G.seqK fun K18 hK19 => ?_
 refine G.sr fun K20 hK21 => ?_
 refine GL.r 5 5 [(0, .slice A (ndg a) c), (1, .slice B (ndg b) d), (5, .slice Z i z), (6, vu cy), (7, vi i), (13, .bool (decide ((i : Int) < (((ndg a) : Nat) : Int))))] ?_
 cases hb22 : (decide ((i : Int) < (((ndg a) : Nat) : Int)))
 · skip
   have hb22f := of_decide_eq_false hb22
   refine GL.r 11 6 [(0, .slice A (ndg a) c), (1, .slice B (ndg b) d), (5, .slice Z i z), (6, vu cy), (7, vi i), (19, .bool (decide ((i : Int) < (((ndg b) : Nat) : Int))))] ?_
   cases hb23 : (decide ((i : Int) < (((ndg b) : Nat) : Int)))
   · skip
     have hb23f := of_decide_eq_false hb23
     refine GL.r 14 3 [(0, .slice A (ndg a) c), (1, .slice B (ndg b) d), (5, .slice Z i z), (6, vu cy), (7, vi i), (22, .bool (decide (0 < (cy : Int))))] ?_
     refine GL.q hK21 ?_
     cases hb24 : (decide (0 < (cy : Int)))
     · skip
       have hb24f := of_decide_eq_false hb24
       refine G.no rfl ?_
       refine G.exitK hK12 (fun _ _ h => h) ?_
       refine G.sr fun K25 hK26 => ?_
       refine GL.r 1 1 [(41, .slice Z i z)] ?_
       have hcy : cy = 0 := by omega
       rw [hcy] at hv
       have hval : val xs = a + b := add_done (by omega) (by omega) hv
       refine GL.call (j := 2) (trim_calls xs i (hl.symm) Z z w15 (H17.rdRow 0 rfl) (hok) (H17.rowLe 0 rfl).1 (by omega)) (by kernel_rfl) rfl (fun e_ w27 hR => ?_)
       obtain ⟨rfl, H29⟩ := hR
       have H28 := (H17.callNil H29).shrinkD 0 rfl (hl.symm) (hok)
       rw [hval] at H28
       rw [hval]
       refine ⟨_, rfl, [42], [(42, .slice Z (ndg (a + b)) z)], by kernel_rfl, ?_⟩
       refine GL.r 3 1 [(4, .slice Z (ndg (a + b)) z)] ?_
       refine GL.q hK26 ?_
       refine G.ret fun F_ hF_ hM_ => hRet _ _ (bodyPost_1 rfl (RV.tmp rfl) ?_ F_ hF_ hM_)
       exact ⟨_, _, rfl, H28⟩
     · skip
       have hb24f := of_decide_eq_true hb24
       refine G.yes rfl ?_
       refine G.skipK hK19 (fun _ _ h => h) ?_
       refine G.seqK fun K30 hK31 => ?_
       refine G.block ?_
       refine G.sr fun K32 hK33 => ?_
       refine GL.r 3 3 [(0, .slice A (ndg a) c), (1, .slice B (ndg b) d), (5, .slice Z i z), (7, vi i), (25, vu cy), (26, .slice A (ndg a) c), (27, vi i)] ?_
       refine GL.call (j := 4) (digit_calls a i A c w15 (hr.hp H17)) (by kernel_rfl) rfl (fun e_ w34 hR => ?_)
       obtain ⟨rfl, H36⟩ := hR
       have H35 : Hp w [] [.row Z i z 31 1 (dg xs)] w34 := H17.callNil H36
       refine ⟨_, rfl, [0, 1, 5, 7, 25, 28], [(0, .slice A (ndg a) c), (1, .slice B (ndg b) d), (5, .slice Z i z), (7, vi i), (25, vu cy), (28, lu ((dgt a i) : Int))], by kernel_rfl, ?_⟩
       refine GL.r 7 3 [(0, .slice A (ndg a) c), (1, .slice B (ndg b) d), (5, .slice Z i z), (7, vi i), (29, lu (IntKind.u64.wrap ((cy : Int) + ((dgt a i) : Int)))), (30, .slice B (ndg b) d), (31, vi i)] ?_
       have e37 : (IntKind.u64.wrap ((cy : Int) + ((dgt a i) : Int))) = ((cy + (dgt a i) : Nat) : Int) := n_add' (a := cy) (b := (dgt a i)) (by omega)
       rw [e37]
       clear e37
       refine GL.call (j := 8) (digit_calls b i B d w34 (hs.hp H35)) (by kernel_rfl) rfl (fun e_ w38 hR => ?_)
       obtain ⟨rfl, H40⟩ := hR
       have H39 : Hp w [] [.row Z i z 31 1 (dg xs)] w38 := H35.callNil H40
       refine ⟨_, rfl, [0, 1, 5, 7, 29, 32], [(0, .slice A (ndg a) c), (1, .slice B (ndg b) d), (5, .slice Z i z), (7, vi i), (29, vu (cy + (dgt a i))), (32, lu ((dgt b i) : Int))], by kernel_rfl, ?_⟩
       refine GL.r 10 2 [(0, .slice A (ndg a) c), (1, .slice B (ndg b) d), (5, .slice Z i z), (6, lu (IntKind.u64.wrap (((cy + (dgt a i) : Nat) : Int) + ((dgt b i) : Int)))), (7, vi i)] ?_
       have e41 : (IntKind.u64.wrap (((cy + (dgt a i) : Nat) : Int) + ((dgt b i) : Int))) = (((cy + (dgt a i)) + (dgt b i) : Nat) : Int) := n_add' (a := (cy + (dgt a i))) (b := (dgt b i)) (by omega)
       rw [e41]
       clear e41
       refine GL.q hK33 ?_
       refine G.sr fun K42 hK43 => ?_
       refine GL.r 3 3 [(0, .slice A (ndg a) c), (1, .slice B (ndg b) d), (6, vu ((cy + (dgt a i)) + (dgt b i))), (7, vi i), (34, .slice Z i z), (36, lu (Int.tmod (((cy + (dgt a i)) + (dgt b i) : Nat) : Int) 65536))] ?_
       have e44 : (Int.tmod (((cy + (dgt a i)) + (dgt b i) : Nat) : Int) 65536) = ((((cy + (dgt a i)) + (dgt b i)) % 65536 : Nat) : Int) := n_rem _ 65536
       rw [e44]
       clear e44
       obtain ⟨p45, w46, r47, H48⟩ := H39.madeRow (P := Try.prog) (Instr.buildSlice 35 1 #[(0, vu (((cy + (dgt a i)) + (dgt b i)) % 65536))]) (fun b_ => .slice (some ⟨b_, 0, none⟩) 1 1) [vu (((cy + (dgt a i)) + (dgt b i)) % 65536)] 31 1 1 1 (by kernel_rfl) (by decide) (by decide) rfl
       refine GL.s 4 (r47) [(0, .slice A (ndg a) c), (1, .slice B (ndg b) d), (6, vu ((cy + (dgt a i)) + (dgt b i))), (7, vi i), (34, .slice Z i z), (37, .slice (some ⟨p45, 0, none⟩) 1 1)] ?_
       obtain ⟨A49, c50, w51, r52, H53⟩ := H48.append (P := Try.prog) (e := 31) (sz := 1) (by_ := 8) (n := i) (c := z) (m := 1) (d := 1) (t := 35) (ty := 35) (xs := dg xs) (news := dg [((cy + (dgt a i)) + (dgt b i)) % 65536]) 0 rfl (by kernel_rfl) (H48.rdRow 1 rfl) (by simp [dg_length]) (dg_one _) (by omega) (by simp only [maxLen]; omega)
       rw [← dg_append] at H53
       refine GL.s 5 (r52) [(0, .slice A (ndg a) c), (1, .slice B (ndg b) d), (6, vu ((cy + (dgt a i)) + (dgt b i))), (7, vi i), (38, .slice A49 (i + 1) c50)] ?_
       refine GL.r 6 1 [(0, .slice A (ndg a) c), (1, .slice B (ndg b) d), (5, .slice A49 (i + 1) c50), (6, vu ((cy + (dgt a i)) + (dgt b i))), (7, vi i)] ?_
       refine GL.q hK43 ?_
       refine G.region ?_
       refine GL.r 3 3 [(0, .slice A (ndg a) c), (1, .slice B (ndg b) d), (5, .slice A49 (i + 1) c50), (6, lu (IntKind.u64.wrap (Int.tdiv (((cy + (dgt a i)) + (dgt b i) : Nat) : Int) 65536))), (7, vi i)] ?_
       have e54 : (IntKind.u64.wrap (Int.tdiv (((cy + (dgt a i)) + (dgt b i) : Nat) : Int) 65536)) = ((((cy + (dgt a i)) + (dgt b i)) / 65536 : Nat) : Int) := n_quo 65536 (by omega)
       rw [e54]
       clear e54
       refine GL.q hK31 ?_
       refine G.region ?_
       refine GL.r 3 3 [(0, .slice A (ndg a) c), (1, .slice B (ndg b) d), (5, .slice A49 (i + 1) c50), (6, vu (((cy + (dgt a i)) + (dgt b i)) / 65536)), (7, li (IntKind.i64.wrap ((i : Int) + 1)))] ?_
       have e55 : (IntKind.i64.wrap ((i : Int) + 1)) = ((i + 1 : Nat) : Int) := by rw [in_i64 (by omega)]; omega
       rw [e55]
       clear e55
       have H56 : Hp w [] [.row A49 (i + 1) c50 31 1 (dg (xs ++ [((cy + (dgt a i)) + (dgt b i)) % 65536]))] w51 := H53.sub (List.Sublist.cons_cons _ (List.Sublist.cons _ (List.Sublist.slnil)))
       refine GL.fit (ts := [0, 1, 5, 6, 7]) (M' := [(0, .slice A (ndg a) c), (1, .slice B (ndg b) d), (5, .slice A49 (i + 1) c50), (6, vu (((cy + (dgt a i)) + (dgt b i)) / 65536)), (7, vi (i + 1))]) (by kernel_rfl) ?_
       refine GL.eq (M' := [(0, .slice A (ndg a) c), (1, .slice B (ndg b) d), (5, .slice A49 (i + 1) c50), (6, vu (((cy + (dgt a i)) + (dgt b i)) / 65536)), (7, vi (i + 1))]) (by rfl) ?_
       exact GL.again ⟨(i + 1), ((cy + (dgt a i)) + (dgt b i)) / 65536, (xs ++ [((cy + (dgt a i)) + (dgt b i)) % 65536]), A49, c50⟩ [0, 1, 5, 6, 7] rfl (by kernel_rfl) (by show 2 * (ndg a - (i + 1)) + 2 * (ndg b - (i + 1)) + ((cy + (dgt a i)) + (dgt b i)) / 65536 < 2 * (ndg a - i) + 2 * (ndg b - i) + cy; omega) ⟨⟨by simp [hl], ok_snoc hok (Nat.mod_lt _ (by decide)), by omega, by omega, add_round hl hv⟩, H56⟩
   · skip
     have hb23f := of_decide_eq_true hb23
     refine GL.r 14 3 [(0, .slice A (ndg a) c), (1, .slice B (ndg b) d), (5, .slice Z i z), (6, vu cy), (7, vi i), (22, .bool true)] ?_
     refine GL.q hK21 ?_
     refine G.yes rfl ?_
     refine G.skipK hK19 (fun _ _ h => h) ?_
     refine G.seqK fun K57 hK58 => ?_
     refine G.block ?_
     refine G.sr fun K59 hK60 => ?_
     refine GL.r 3 3 [(0, .slice A (ndg a) c), (1, .slice B (ndg b) d), (5, .slice Z i z), (7, vi i), (25, vu cy), (26, .slice A (ndg a) c), (27, vi i)] ?_
     refine GL.call (j := 4) (digit_calls a i A c w15 (hr.hp H17)) (by kernel_rfl) rfl (fun e_ w61 hR => ?_)
     obtain ⟨rfl, H63⟩ := hR
     have H62 : Hp w [] [.row Z i z 31 1 (dg xs)] w61 := H17.callNil H63
     refine ⟨_, rfl, [0, 1, 5, 7, 25, 28], [(0, .slice A (ndg a) c), (1, .slice B (ndg b) d), (5, .slice Z i z), (7, vi i), (25, vu cy), (28, lu ((dgt a i) : Int))], by kernel_rfl, ?_⟩
     refine GL.r 7 3 [(0, .slice A (ndg a) c), (1, .slice B (ndg b) d), (5, .slice Z i z), (7, vi i), (29, lu (IntKind.u64.wrap ((cy : Int) + ((dgt a i) : Int)))), (30, .slice B (ndg b) d), (31, vi i)] ?_
     have e64 : (IntKind.u64.wrap ((cy : Int) + ((dgt a i) : Int))) = ((cy + (dgt a i) : Nat) : Int) := n_add' (a := cy) (b := (dgt a i)) (by omega)
     rw [e64]
     clear e64
     refine GL.call (j := 8) (digit_calls b i B d w61 (hs.hp H62)) (by kernel_rfl) rfl (fun e_ w65 hR => ?_)
     obtain ⟨rfl, H67⟩ := hR
     have H66 : Hp w [] [.row Z i z 31 1 (dg xs)] w65 := H62.callNil H67
     refine ⟨_, rfl, [0, 1, 5, 7, 29, 32], [(0, .slice A (ndg a) c), (1, .slice B (ndg b) d), (5, .slice Z i z), (7, vi i), (29, vu (cy + (dgt a i))), (32, lu ((dgt b i) : Int))], by kernel_rfl, ?_⟩
     refine GL.r 10 2 [(0, .slice A (ndg a) c), (1, .slice B (ndg b) d), (5, .slice Z i z), (6, lu (IntKind.u64.wrap (((cy + (dgt a i) : Nat) : Int) + ((dgt b i) : Int)))), (7, vi i)] ?_
     have e68 : (IntKind.u64.wrap (((cy + (dgt a i) : Nat) : Int) + ((dgt b i) : Int))) = (((cy + (dgt a i)) + (dgt b i) : Nat) : Int) := n_add' (a := (cy + (dgt a i))) (b := (dgt b i)) (by omega)
     rw [e68]
     clear e68
     refine GL.q hK60 ?_
     refine G.sr fun K69 hK70 => ?_
     refine GL.r 3 3 [(0, .slice A (ndg a) c), (1, .slice B (ndg b) d), (6, vu ((cy + (dgt a i)) + (dgt b i))), (7, vi i), (34, .slice Z i z), (36, lu (Int.tmod (((cy + (dgt a i)) + (dgt b i) : Nat) : Int) 65536))] ?_
     have e71 : (Int.tmod (((cy + (dgt a i)) + (dgt b i) : Nat) : Int) 65536) = ((((cy + (dgt a i)) + (dgt b i)) % 65536 : Nat) : Int) := n_rem _ 65536
     rw [e71]
     clear e71
     obtain ⟨p72, w73, r74, H75⟩ := H66.madeRow (P := Try.prog) (Instr.buildSlice 35 1 #[(0, vu (((cy + (dgt a i)) + (dgt b i)) % 65536))]) (fun b_ => .slice (some ⟨b_, 0, none⟩) 1 1) [vu (((cy + (dgt a i)) + (dgt b i)) % 65536)] 31 1 1 1 (by kernel_rfl) (by decide) (by decide) rfl
     refine GL.s 4 (r74) [(0, .slice A (ndg a) c), (1, .slice B (ndg b) d), (6, vu ((cy + (dgt a i)) + (dgt b i))), (7, vi i), (34, .slice Z i z), (37, .slice (some ⟨p72, 0, none⟩) 1 1)] ?_
     obtain ⟨A76, c77, w78, r79, H80⟩ := H75.append (P := Try.prog) (e := 31) (sz := 1) (by_ := 8) (n := i) (c := z) (m := 1) (d := 1) (t := 35) (ty := 35) (xs := dg xs) (news := dg [((cy + (dgt a i)) + (dgt b i)) % 65536]) 0 rfl (by kernel_rfl) (H75.rdRow 1 rfl) (by simp [dg_length]) (dg_one _) (by omega) (by simp only [maxLen]; omega)
     rw [← dg_append] at H80
     refine GL.s 5 (r79) [(0, .slice A (ndg a) c), (1, .slice B (ndg b) d), (6, vu ((cy + (dgt a i)) + (dgt b i))), (7, vi i), (38, .slice A76 (i + 1) c77)] ?_
     refine GL.r 6 1 [(0, .slice A (ndg a) c), (1, .slice B (ndg b) d), (5, .slice A76 (i + 1) c77), (6, vu ((cy + (dgt a i)) + (dgt b i))), (7, vi i)] ?_
     refine GL.q hK70 ?_
     refine G.region ?_
     refine GL.r 3 3 [(0, .slice A (ndg a) c), (1, .slice B (ndg b) d), (5, .slice A76 (i + 1) c77), (6, lu (IntKind.u64.wrap (Int.tdiv (((cy + (dgt a i)) + (dgt b i) : Nat) : Int) 65536))), (7, vi i)] ?_
     have e81 : (IntKind.u64.wrap (Int.tdiv (((cy + (dgt a i)) + (dgt b i) : Nat) : Int) 65536)) = ((((cy + (dgt a i)) + (dgt b i)) / 65536 : Nat) : Int) := n_quo 65536 (by omega)
     rw [e81]
     clear e81
     refine GL.q hK58 ?_
     refine G.region ?_
     refine GL.r 3 3 [(0, .slice A (ndg a) c), (1, .slice B (ndg b) d), (5, .slice A76 (i + 1) c77), (6, vu (((cy + (dgt a i)) + (dgt b i)) / 65536)), (7, li (IntKind.i64.wrap ((i : Int) + 1)))] ?_
     have e82 : (IntKind.i64.wrap ((i : Int) + 1)) = ((i + 1 : Nat) : Int) := by rw [in_i64 (by omega)]; omega
     rw [e82]
     clear e82
     have H83 : Hp w [] [.row A76 (i + 1) c77 31 1 (dg (xs ++ [((cy + (dgt a i)) + (dgt b i)) % 65536]))] w78 := H80.sub (List.Sublist.cons_cons _ (List.Sublist.cons _ (List.Sublist.slnil)))
     refine GL.fit (ts := [0, 1, 5, 6, 7]) (M' := [(0, .slice A (ndg a) c), (1, .slice B (ndg b) d), (5, .slice A76 (i + 1) c77), (6, vu (((cy + (dgt a i)) + (dgt b i)) / 65536)), (7, vi (i + 1))]) (by kernel_rfl) ?_
     refine GL.eq (M' := [(0, .slice A (ndg a) c), (1, .slice B (ndg b) d), (5, .slice A76 (i + 1) c77), (6, vu (((cy + (dgt a i)) + (dgt b i)) / 65536)), (7, vi (i + 1))]) (by rfl) ?_
     exact GL.again ⟨(i + 1), ((cy + (dgt a i)) + (dgt b i)) / 65536, (xs ++ [((cy + (dgt a i)) + (dgt b i)) % 65536]), A76, c77⟩ [0, 1, 5, 6, 7] rfl (by kernel_rfl) (by show 2 * (ndg a - (i + 1)) + 2 * (ndg b - (i + 1)) + ((cy + (dgt a i)) + (dgt b i)) / 65536 < 2 * (ndg a - i) + 2 * (ndg b - i) + cy; omega) ⟨⟨by simp [hl], ok_snoc hok (Nat.mod_lt _ (by decide)), by omega, by omega, add_round hl hv⟩, H83⟩
 · skip
   have hb22f := of_decide_eq_true hb22
   refine GL.r 14 9 [(0, .slice A (ndg a) c), (1, .slice B (ndg b) d), (5, .slice Z i z), (6, vu cy), (7, vi i), (22, .bool true)] ?_
   refine GL.q hK21 ?_
   refine G.yes rfl ?_
   refine G.skipK hK19 (fun _ _ h => h) ?_
   refine G.seqK fun K84 hK85 => ?_
   refine G.block ?_
   refine G.sr fun K86 hK87 => ?_
   refine GL.r 3 3 [(0, .slice A (ndg a) c), (1, .slice B (ndg b) d), (5, .slice Z i z), (7, vi i), (25, vu cy), (26, .slice A (ndg a) c), (27, vi i)] ?_
   refine GL.call (j := 4) (digit_calls a i A c w15 (hr.hp H17)) (by kernel_rfl) rfl (fun e_ w88 hR => ?_)
   obtain ⟨rfl, H90⟩ := hR
   have H89 : Hp w [] [.row Z i z 31 1 (dg xs)] w88 := H17.callNil H90
   refine ⟨_, rfl, [0, 1, 5, 7, 25, 28], [(0, .slice A (ndg a) c), (1, .slice B (ndg b) d), (5, .slice Z i z), (7, vi i), (25, vu cy), (28, lu ((dgt a i) : Int))], by kernel_rfl, ?_⟩
   refine GL.r 7 3 [(0, .slice A (ndg a) c), (1, .slice B (ndg b) d), (5, .slice Z i z), (7, vi i), (29, lu (IntKind.u64.wrap ((cy : Int) + ((dgt a i) : Int)))), (30, .slice B (ndg b) d), (31, vi i)] ?_
   have e91 : (IntKind.u64.wrap ((cy : Int) + ((dgt a i) : Int))) = ((cy + (dgt a i) : Nat) : Int) := n_add' (a := cy) (b := (dgt a i)) (by omega)
   rw [e91]
   clear e91
   refine GL.call (j := 8) (digit_calls b i B d w88 (hs.hp H89)) (by kernel_rfl) rfl (fun e_ w92 hR => ?_)
   obtain ⟨rfl, H94⟩ := hR
   have H93 : Hp w [] [.row Z i z 31 1 (dg xs)] w92 := H89.callNil H94
   refine ⟨_, rfl, [0, 1, 5, 7, 29, 32], [(0, .slice A (ndg a) c), (1, .slice B (ndg b) d), (5, .slice Z i z), (7, vi i), (29, vu (cy + (dgt a i))), (32, lu ((dgt b i) : Int))], by kernel_rfl, ?_⟩
   refine GL.r 10 2 [(0, .slice A (ndg a) c), (1, .slice B (ndg b) d), (5, .slice Z i z), (6, lu (IntKind.u64.wrap (((cy + (dgt a i) : Nat) : Int) + ((dgt b i) : Int)))), (7, vi i)] ?_
   have e95 : (IntKind.u64.wrap (((cy + (dgt a i) : Nat) : Int) + ((dgt b i) : Int))) = (((cy + (dgt a i)) + (dgt b i) : Nat) : Int) := n_add' (a := (cy + (dgt a i))) (b := (dgt b i)) (by omega)
   rw [e95]
   clear e95
   refine GL.q hK87 ?_
   refine G.sr fun K96 hK97 => ?_
   refine GL.r 3 3 [(0, .slice A (ndg a) c), (1, .slice B (ndg b) d), (6, vu ((cy + (dgt a i)) + (dgt b i))), (7, vi i), (34, .slice Z i z), (36, lu (Int.tmod (((cy + (dgt a i)) + (dgt b i) : Nat) : Int) 65536))] ?_
   have e98 : (Int.tmod (((cy + (dgt a i)) + (dgt b i) : Nat) : Int) 65536) = ((((cy + (dgt a i)) + (dgt b i)) % 65536 : Nat) : Int) := n_rem _ 65536
   rw [e98]
   clear e98
   obtain ⟨p99, w100, r101, H102⟩ := H93.madeRow (P := Try.prog) (Instr.buildSlice 35 1 #[(0, vu (((cy + (dgt a i)) + (dgt b i)) % 65536))]) (fun b_ => .slice (some ⟨b_, 0, none⟩) 1 1) [vu (((cy + (dgt a i)) + (dgt b i)) % 65536)] 31 1 1 1 (by kernel_rfl) (by decide) (by decide) rfl
   refine GL.s 4 (r101) [(0, .slice A (ndg a) c), (1, .slice B (ndg b) d), (6, vu ((cy + (dgt a i)) + (dgt b i))), (7, vi i), (34, .slice Z i z), (37, .slice (some ⟨p99, 0, none⟩) 1 1)] ?_
   obtain ⟨A103, c104, w105, r106, H107⟩ := H102.append (P := Try.prog) (e := 31) (sz := 1) (by_ := 8) (n := i) (c := z) (m := 1) (d := 1) (t := 35) (ty := 35) (xs := dg xs) (news := dg [((cy + (dgt a i)) + (dgt b i)) % 65536]) 0 rfl (by kernel_rfl) (H102.rdRow 1 rfl) (by simp [dg_length]) (dg_one _) (by omega) (by simp only [maxLen]; omega)
   rw [← dg_append] at H107
   refine GL.s 5 (r106) [(0, .slice A (ndg a) c), (1, .slice B (ndg b) d), (6, vu ((cy + (dgt a i)) + (dgt b i))), (7, vi i), (38, .slice A103 (i + 1) c104)] ?_
   refine GL.r 6 1 [(0, .slice A (ndg a) c), (1, .slice B (ndg b) d), (5, .slice A103 (i + 1) c104), (6, vu ((cy + (dgt a i)) + (dgt b i))), (7, vi i)] ?_
   refine GL.q hK97 ?_
   refine G.region ?_
   refine GL.r 3 3 [(0, .slice A (ndg a) c), (1, .slice B (ndg b) d), (5, .slice A103 (i + 1) c104), (6, lu (IntKind.u64.wrap (Int.tdiv (((cy + (dgt a i)) + (dgt b i) : Nat) : Int) 65536))), (7, vi i)] ?_
   have e108 : (IntKind.u64.wrap (Int.tdiv (((cy + (dgt a i)) + (dgt b i) : Nat) : Int) 65536)) = ((((cy + (dgt a i)) + (dgt b i)) / 65536 : Nat) : Int) := n_quo 65536 (by omega)
   rw [e108]
   clear e108
   refine GL.q hK85 ?_
   refine G.region ?_
   refine GL.r 3 3 [(0, .slice A (ndg a) c), (1, .slice B (ndg b) d), (5, .slice A103 (i + 1) c104), (6, vu (((cy + (dgt a i)) + (dgt b i)) / 65536)), (7, li (IntKind.i64.wrap ((i : Int) + 1)))] ?_
   have e109 : (IntKind.i64.wrap ((i : Int) + 1)) = ((i + 1 : Nat) : Int) := by rw [in_i64 (by omega)]; omega
   rw [e109]
   clear e109
   have H110 : Hp w [] [.row A103 (i + 1) c104 31 1 (dg (xs ++ [((cy + (dgt a i)) + (dgt b i)) % 65536]))] w105 := H107.sub (List.Sublist.cons_cons _ (List.Sublist.cons _ (List.Sublist.slnil)))
   refine GL.fit (ts := [0, 1, 5, 6, 7]) (M' := [(0, .slice A (ndg a) c), (1, .slice B (ndg b) d), (5, .slice A103 (i + 1) c104), (6, vu (((cy + (dgt a i)) + (dgt b i)) / 65536)), (7, vi (i + 1))]) (by kernel_rfl) ?_
   refine GL.eq (M' := [(0, .slice A (ndg a) c), (1, .slice B (ndg b) d), (5, .slice A103 (i + 1) c104), (6, vu (((cy + (dgt a i)) + (dgt b i)) / 65536)), (7, vi (i + 1))]) (by rfl) ?_
   exact GL.again ⟨(i + 1), ((cy + (dgt a i)) + (dgt b i)) / 65536, (xs ++ [((cy + (dgt a i)) + (dgt b i)) % 65536]), A103, c104⟩ [0, 1, 5, 6, 7] rfl (by kernel_rfl) (by show 2 * (ndg a - (i + 1)) + 2 * (ndg b - (i + 1)) + ((cy + (dgt a i)) + (dgt b i)) / 65536 < 2 * (ndg a - i) + 2 * (ndg b - i) + cy; omega) ⟨⟨by simp [hl], ok_snoc hok (Nat.mod_lt _ (by decide)), by omega, by omega, add_round hl hv⟩, H110⟩
theorem SubN_calls (a b : Nat) (A : Option Addr) (c : Nat) (B : Option Addr) (d : Nat) (w : World) (hr : RdS w A (dg (digs a))) (hs : RdS w B (dg (digs b))) (hna : ndg a ≤ 100000) (hnb : ndg b ≤ 100000) (hba : b ≤ a) : Calls Try.prog 48 #[.slice A (ndg a) c, .slice B (ndg b) d] w fun e w' => ∃ A c, e = .returned ((.slice A (ndg (a - b)) c)) ∧ Hp w [] [.row A (ndg (a - b)) c 31 1 (dg (digs (a - b)))] w' := by
 have hMX : MX = 4611686018427387904 := rfl
 have hK0 : K = 18446744073709551616 := rfl
 have hK40 : K4 = 115792089237316195423570985008687907853269984665640564039457584007913129639936 := rfl
 refine calls_G (args := [.slice A (ndg a) c, .slice B (ndg b) d]) Try.func48 rfl Try.ntmps48 rfl ?_
 intro Q0 hRet hNor hPan
 have H := Hp.start w
 refine G.sr fun K1 hK2 => ?_
 refine GL.r 1 1 [(0, .slice A (ndg a) c), (1, .slice B (ndg b) d)] ?_
 refine GL.q hK2 ?_
 refine G.sr fun K3 hK4 => ?_
 obtain ⟨p5, w6, r7, H8⟩ := H.madeRow (P := Try.prog) (Instr.buildSlice 35 0 #[]) (fun b_ => .slice (some ⟨b_, 0, none⟩) 0 0) [] 31 0 0 1 (by kernel_rfl) (by decide) (by decide) rfl
 refine GL.s 1 (r7) [(0, .slice A (ndg a) c), (1, .slice B (ndg b) d), (9, .slice (some ⟨p5, 0, none⟩) 0 0)] ?_
 refine GL.r 2 1 [(0, .slice A (ndg a) c), (1, .slice B (ndg b) d), (5, .slice (some ⟨p5, 0, none⟩) 0 0)] ?_
 refine GL.q hK4 ?_
 refine G.sr fun K9 hK10 => ?_
 refine GL.r 1 1 [(0, .slice A (ndg a) c), (1, .slice B (ndg b) d), (5, .slice (some ⟨p5, 0, none⟩) 0 0), (6, lu 0)] ?_
 refine GL.q hK10 ?_
 refine G.seqK fun K11 hK12 => ?_
 refine G.sr fun K13 hK14 => ?_
 refine GL.r 3 3 [(0, .slice A (ndg a) c), (1, .slice B (ndg b) d), (5, .slice (some ⟨p5, 0, none⟩) 0 0), (6, lu 0), (11, vi (ndg a)), (12, li 0)] ?_
 refine GL.q hK14 ?_
 refine G.block ?_
 refine G.fit [0, 1, 5, 6, 11, 12] (M' := [(0, .slice A (ndg a) c), (1, .slice B (ndg b) d), (5, .slice (some ⟨p5, 0, none⟩) 0 0), (6, lu 0), (11, vi (ndg a)), (12, li 0)]) (by kernel_rfl) ?_
 refine G.loop (X := Nat × Nat × List Nat × Option Addr × Nat) (fun ⟨i, cy, xs, Z, z⟩ => [(0, .slice A (ndg a) c), (1, .slice B (ndg b) d), (5, .slice Z i z), (6, vu cy), (11, vi (ndg a)), (12, vi i)]) (fun ⟨i, cy, xs, Z, z⟩ w_ => (xs.length = i ∧ ok16 xs ∧ cy ≤ 1 ∧ i ≤ ndg a ∧ a % 65536 ^ i + 65536 ^ i * cy = b % 65536 ^ i + val xs) ∧ Hp w [] [.row Z i z 31 1 (dg xs)] w_) (fun ⟨i, cy, xs, Z, z⟩ => ndg a - i) ⟨0, 0, [], (some ⟨p5, 0, none⟩), 0⟩ [0, 1, 5, 6, 11, 12] (by kernel_rfl) ⟨⟨rfl, ok_nil, by omega, by omega, by simp [val, Nat.mod_one]⟩, H8⟩ ?_
 rintro ⟨i, cy, xs, Z, z⟩ w15 ⟨hi16, H17⟩
 refine G.eq (M' := [(0, .slice A (ndg a) c), (1, .slice B (ndg b) d), (5, .slice Z i z), (6, vu cy), (11, vi (ndg a)), (12, vi i)]) rfl ?_
 obtain ⟨hl, hok, hc, hib, hv⟩ := hi16
 have za := @dgt_zero a i
 have zb := @dgt_zero b i
 have da := dgt_lt a i
 have db := dgt_lt b i
 refine G.sr fun K18 hK19 => ?_
 refine GL.r 1 1 [(0, .slice A (ndg a) c), (1, .slice B (ndg b) d), (5, .slice Z i z), (6, vu cy), (11, vi (ndg a)), (12, vi i), (13, .bool (decide ((i : Int) < (((ndg a) : Nat) : Int))))] ?_
 refine GL.q hK19 ?_
 refine G.seqK fun K20 hK21 => ?_
 cases hb22 : (decide ((i : Int) < (((ndg a) : Nat) : Int)))
 · skip
   have hb22f := of_decide_eq_false hb22
   refine G.no rfl ?_
   refine G.exitK hK12 (fun _ _ h => h) ?_
   refine G.sr fun K23 hK24 => ?_
   refine GL.r 1 1 [(34, .slice Z i z)] ?_
   have hval : val xs = a - b := sub_done hok hl (by omega) hba hc hv
   refine GL.call (j := 2) (trim_calls xs i (hl.symm) Z z w15 (H17.rdRow 0 rfl) (hok) (H17.rowLe 0 rfl).1 (by omega)) (by kernel_rfl) rfl (fun e_ w25 hR => ?_)
   obtain ⟨rfl, H27⟩ := hR
   have H26 := (H17.callNil H27).shrinkD 0 rfl (hl.symm) (hok)
   rw [hval] at H26
   rw [hval]
   refine ⟨_, rfl, [35], [(35, .slice Z (ndg (a - b)) z)], by kernel_rfl, ?_⟩
   refine GL.r 3 1 [(4, .slice Z (ndg (a - b)) z)] ?_
   refine GL.q hK24 ?_
   refine G.ret fun F_ hF_ hM_ => hRet _ _ (bodyPost_1 rfl (RV.tmp rfl) ?_ F_ hF_ hM_)
   exact ⟨_, _, rfl, H26⟩
 · skip
   have hb22f := of_decide_eq_true hb22
   refine G.yes rfl ?_
   refine G.skipK hK21 (fun _ _ h => h) ?_
   refine G.seqK fun K28 hK29 => ?_
   refine G.block ?_
   refine G.sr fun K30 hK31 => ?_
   refine GL.r 2 2 [(0, .slice A (ndg a) c), (1, .slice B (ndg b) d), (5, .slice Z i z), (6, vu cy), (7, vi i), (11, vi (ndg a)), (12, vi i)] ?_
   refine GL.q hK31 ?_
   refine G.sr fun K32 hK33 => ?_
   refine GL.r 2 2 [(0, .slice A (ndg a) c), (1, .slice B (ndg b) d), (5, .slice Z i z), (6, vu cy), (7, vi i), (11, vi (ndg a)), (12, vi i), (15, .slice A (ndg a) c), (16, vi i)] ?_
   refine GL.call (j := 3) (digit_calls a i A c w15 (hr.hp H17)) (by kernel_rfl) rfl (fun e_ w34 hR => ?_)
   obtain ⟨rfl, H36⟩ := hR
   have H35 : Hp w [] [.row Z i z 31 1 (dg xs)] w34 := H17.callNil H36
   refine ⟨_, rfl, [0, 1, 5, 6, 7, 11, 12, 17], [(0, .slice A (ndg a) c), (1, .slice B (ndg b) d), (5, .slice Z i z), (6, vu cy), (7, vi i), (11, vi (ndg a)), (12, vi i), (17, lu ((dgt a i) : Int))], by kernel_rfl, ?_⟩
   refine GL.r 6 3 [(0, .slice A (ndg a) c), (1, .slice B (ndg b) d), (5, .slice Z i z), (6, vu cy), (11, vi (ndg a)), (12, vi i), (18, lu (IntKind.u64.wrap (65536 + ((dgt a i) : Int)))), (19, .slice B (ndg b) d), (20, vi i)] ?_
   have e37 : (IntKind.u64.wrap (65536 + ((dgt a i) : Int))) = ((65536 + (dgt a i) : Nat) : Int) := n_add' (a := 65536) (b := (dgt a i)) (by omega)
   rw [e37]
   clear e37
   refine GL.call (j := 7) (digit_calls b i B d w34 (hs.hp H35)) (by kernel_rfl) rfl (fun e_ w38 hR => ?_)
   obtain ⟨rfl, H40⟩ := hR
   have H39 : Hp w [] [.row Z i z 31 1 (dg xs)] w38 := H35.callNil H40
   refine ⟨_, rfl, [0, 1, 5, 6, 11, 12, 18, 21], [(0, .slice A (ndg a) c), (1, .slice B (ndg b) d), (5, .slice Z i z), (6, vu cy), (11, vi (ndg a)), (12, vi i), (18, vu (65536 + (dgt a i))), (21, lu ((dgt b i) : Int))], by kernel_rfl, ?_⟩
   refine GL.r 11 4 [(0, .slice A (ndg a) c), (1, .slice B (ndg b) d), (5, .slice Z i z), (8, lu (IntKind.u64.wrap ((IntKind.u64.wrap (((65536 + (dgt a i) : Nat) : Int) - ((dgt b i) : Int))) - (cy : Int)))), (11, vi (ndg a)), (12, vi i)] ?_
   have e41 : (IntKind.u64.wrap (((65536 + (dgt a i) : Nat) : Int) - ((dgt b i) : Int))) = (((65536 + (dgt a i)) - (dgt b i) : Nat) : Int) := n_sub (a := (65536 + (dgt a i))) (b := (dgt b i)) (by omega) (by omega)
   have e42 : (IntKind.u64.wrap ((((65536 + (dgt a i)) - (dgt b i) : Nat) : Int) - (cy : Int))) = ((((65536 + (dgt a i)) - (dgt b i)) - cy : Nat) : Int) := n_sub (a := ((65536 + (dgt a i)) - (dgt b i))) (b := cy) (by omega) (by omega)
   rw [e41, e42]
   clear e41 e42
   refine GL.q hK33 ?_
   refine G.sr fun K43 hK44 => ?_
   refine GL.r 4 4 [(0, .slice A (ndg a) c), (1, .slice B (ndg b) d), (5, .slice Z i z), (6, lu (IntKind.u64.wrap (1 - (IntKind.u64.wrap (Int.tdiv ((((65536 + (dgt a i)) - (dgt b i)) - cy : Nat) : Int) 65536))))), (8, vu (((65536 + (dgt a i)) - (dgt b i)) - cy)), (11, vi (ndg a)), (12, vi i)] ?_
   have e45 : (IntKind.u64.wrap (Int.tdiv ((((65536 + (dgt a i)) - (dgt b i)) - cy : Nat) : Int) 65536)) = (((((65536 + (dgt a i)) - (dgt b i)) - cy) / 65536 : Nat) : Int) := n_quo 65536 (by omega)
   have e46 : (IntKind.u64.wrap (1 - (((((65536 + (dgt a i)) - (dgt b i)) - cy) / 65536 : Nat) : Int))) = ((1 - ((((65536 + (dgt a i)) - (dgt b i)) - cy) / 65536) : Nat) : Int) := n_sub (a := 1) (b := ((((65536 + (dgt a i)) - (dgt b i)) - cy) / 65536)) (by omega) (by omega)
   rw [e45, e46]
   clear e45 e46
   refine GL.q hK44 ?_
   refine G.region ?_
   refine GL.r 3 3 [(0, .slice A (ndg a) c), (1, .slice B (ndg b) d), (6, vu (1 - ((((65536 + (dgt a i)) - (dgt b i)) - cy) / 65536))), (11, vi (ndg a)), (12, vi i), (28, .slice Z i z), (30, lu (Int.tmod ((((65536 + (dgt a i)) - (dgt b i)) - cy : Nat) : Int) 65536))] ?_
   have e47 : (Int.tmod ((((65536 + (dgt a i)) - (dgt b i)) - cy : Nat) : Int) 65536) = (((((65536 + (dgt a i)) - (dgt b i)) - cy) % 65536 : Nat) : Int) := n_rem _ 65536
   rw [e47]
   clear e47
   obtain ⟨p48, w49, r50, H51⟩ := H39.madeRow (P := Try.prog) (Instr.buildSlice 35 1 #[(0, vu ((((65536 + (dgt a i)) - (dgt b i)) - cy) % 65536))]) (fun b_ => .slice (some ⟨b_, 0, none⟩) 1 1) [vu ((((65536 + (dgt a i)) - (dgt b i)) - cy) % 65536)] 31 1 1 1 (by kernel_rfl) (by decide) (by decide) rfl
   refine GL.s 4 (r50) [(0, .slice A (ndg a) c), (1, .slice B (ndg b) d), (6, vu (1 - ((((65536 + (dgt a i)) - (dgt b i)) - cy) / 65536))), (11, vi (ndg a)), (12, vi i), (28, .slice Z i z), (31, .slice (some ⟨p48, 0, none⟩) 1 1)] ?_
   obtain ⟨A52, c53, w54, r55, H56⟩ := H51.append (P := Try.prog) (e := 31) (sz := 1) (by_ := 8) (n := i) (c := z) (m := 1) (d := 1) (t := 35) (ty := 35) (xs := dg xs) (news := dg [(((65536 + (dgt a i)) - (dgt b i)) - cy) % 65536]) 0 rfl (by kernel_rfl) (H51.rdRow 1 rfl) (by simp [dg_length]) (dg_one _) (by omega) (by simp only [maxLen]; omega)
   rw [← dg_append] at H56
   refine GL.s 5 (r55) [(0, .slice A (ndg a) c), (1, .slice B (ndg b) d), (6, vu (1 - ((((65536 + (dgt a i)) - (dgt b i)) - cy) / 65536))), (11, vi (ndg a)), (12, vi i), (32, .slice A52 (i + 1) c53)] ?_
   refine GL.r 6 1 [(0, .slice A (ndg a) c), (1, .slice B (ndg b) d), (5, .slice A52 (i + 1) c53), (6, vu (1 - ((((65536 + (dgt a i)) - (dgt b i)) - cy) / 65536))), (11, vi (ndg a)), (12, vi i)] ?_
   refine GL.q hK29 ?_
   refine G.region ?_
   refine GL.r 2 2 [(0, .slice A (ndg a) c), (1, .slice B (ndg b) d), (5, .slice A52 (i + 1) c53), (6, vu (1 - ((((65536 + (dgt a i)) - (dgt b i)) - cy) / 65536))), (11, vi (ndg a)), (12, li (IntKind.i64.wrap ((i : Int) + 1)))] ?_
   have e57 : (IntKind.i64.wrap ((i : Int) + 1)) = ((i + 1 : Nat) : Int) := by rw [in_i64 (by omega)]; omega
   rw [e57]
   clear e57
   have H58 : Hp w [] [.row A52 (i + 1) c53 31 1 (dg (xs ++ [(((65536 + (dgt a i)) - (dgt b i)) - cy) % 65536]))] w54 := H56.sub (List.Sublist.cons_cons _ (List.Sublist.cons _ (List.Sublist.slnil)))
   refine GL.fit (ts := [0, 1, 5, 6, 11, 12]) (M' := [(0, .slice A (ndg a) c), (1, .slice B (ndg b) d), (5, .slice A52 (i + 1) c53), (6, vu (1 - ((((65536 + (dgt a i)) - (dgt b i)) - cy) / 65536))), (11, vi (ndg a)), (12, vi (i + 1))]) (by kernel_rfl) ?_
   refine GL.eq (M' := [(0, .slice A (ndg a) c), (1, .slice B (ndg b) d), (5, .slice A52 (i + 1) c53), (6, vu (1 - ((((65536 + (dgt a i)) - (dgt b i)) - cy) / 65536))), (11, vi (ndg a)), (12, vi (i + 1))]) (by rfl) ?_
   exact GL.again ⟨(i + 1), 1 - ((((65536 + (dgt a i)) - (dgt b i)) - cy) / 65536), (xs ++ [(((65536 + (dgt a i)) - (dgt b i)) - cy) % 65536]), A52, c53⟩ [0, 1, 5, 6, 11, 12] rfl (by kernel_rfl) (by show ndg a - (i + 1) < ndg a - i; omega) ⟨⟨by simp [hl], ok_snoc hok (Nat.mod_lt _ (by decide)), by omega, by omega, sub_round hl hv rfl hc⟩, H58⟩
end Go.Proofs.Ytdepaaphgfapjaa
set_option maxRecDepth 100000
namespace Go.Proofs.Ytdepaaphgfapjaa
open Go.RowKit
theorem MulN_calls (a b : Nat) (A : Option Addr) (c : Nat) (B : Option Addr) (d : Nat) (w : World) (hr : RdS w A (dg (digs a))) (hs : RdS w B (dg (digs b))) (hna : ndg a ≤ 100000) (hnb : ndg b ≤ 100000) : Calls Try.prog 26 #[.slice A (ndg a) c, .slice B (ndg b) d] w fun e w' => ∃ A c, e = .returned ((.slice A (ndg (a * b)) c)) ∧ Hp w [] [.row A (ndg (a * b)) c 31 1 (dg (digs (a * b)))] w' := by
 have hMX : MX = 4611686018427387904 := rfl
 have hK0 : K = 18446744073709551616 := rfl
 have hK40 : K4 = 115792089237316195423570985008687907853269984665640564039457584007913129639936 := rfl
 refine calls_G (args := [.slice A (ndg a) c, .slice B (ndg b) d]) Try.func26 rfl Try.ntmps26 rfl ?_
 intro Q0 hRet hNor hPan
 have H := Hp.start w
 refine G.sr fun K1 hK2 => ?_
 refine GL.r 1 1 [(0, .slice A (ndg a) c), (1, .slice B (ndg b) d)] ?_
 refine GL.q hK2 ?_
 refine G.sr fun K3 hK4 => ?_
 refine GL.r 6 6 [(0, .slice A (ndg a) c), (1, .slice B (ndg b) d), (15, li (IntKind.i64.wrap ((IntKind.i64.wrap ((((ndg a) : Nat) : Int) + (((ndg b) : Nat) : Int))) + 1)))] ?_
 have e5 : (IntKind.i64.wrap ((((ndg a) : Nat) : Int) + (((ndg b) : Nat) : Int))) = (((ndg a) + (ndg b) : Nat) : Int) := by rw [in_i64 (by omega)]; omega
 have e6 : (IntKind.i64.wrap ((((ndg a) + (ndg b) : Nat) : Int) + 1)) = ((((ndg a) + (ndg b)) + 1 : Nat) : Int) := by rw [in_i64 (by omega)]; omega
 rw [e5, e6]
 clear e5 e6
 obtain ⟨p7, w8, r9, H10⟩ := H.makeD (P := Try.prog) (t := 35) (e := 31) (n := ((ndg a) + (ndg b)) + 1) (kl := .i64) (kc := .i64) (by kernel_rfl) (by omega)
 refine GL.s 7 (r9) [(0, .slice A (ndg a) c), (1, .slice B (ndg b) d), (16, .slice (some ⟨p7, 0, none⟩) (((ndg a) + (ndg b)) + 1) (((ndg a) + (ndg b)) + 1))] ?_
 refine GL.r 8 1 [(0, .slice A (ndg a) c), (1, .slice B (ndg b) d), (5, .slice (some ⟨p7, 0, none⟩) (((ndg a) + (ndg b)) + 1) (((ndg a) + (ndg b)) + 1))] ?_
 refine GL.q hK4 ?_
 refine G.seqK fun K11 hK12 => ?_
 refine G.sr fun K13 hK14 => ?_
 refine GL.r 3 3 [(1, .slice B (ndg b) d), (5, .slice (some ⟨p7, 0, none⟩) (((ndg a) + (ndg b)) + 1) (((ndg a) + (ndg b)) + 1)), (17, .slice A (ndg a) c), (18, vi (ndg a)), (19, li 0)] ?_
 refine GL.q hK14 ?_
 refine G.block ?_
 refine G.fit [1, 5, 17, 18, 19] (M' := [(1, .slice B (ndg b) d), (5, .slice (some ⟨p7, 0, none⟩) (((ndg a) + (ndg b)) + 1) (((ndg a) + (ndg b)) + 1)), (17, .slice A (ndg a) c), (18, vi (ndg a)), (19, li 0)]) (by kernel_rfl) ?_
 refine G.loop (X := Nat × List Nat) (fun ⟨i, xs⟩ => [(1, .slice B (ndg b) d), (5, .slice (some ⟨p7, 0, none⟩) (((ndg a) + (ndg b)) + 1) (((ndg a) + (ndg b)) + 1)), (17, .slice A (ndg a) c), (18, vi (ndg a)), (19, vi i)]) (fun ⟨i, xs⟩ w_ => (xs.length = ((ndg a) + (ndg b)) + 1 ∧ ok16 xs ∧ i ≤ ndg a ∧ val xs = a % 65536 ^ i * b) ∧ Hp w [] [.row (some ⟨p7, 0, none⟩) (((ndg a) + (ndg b)) + 1) (((ndg a) + (ndg b)) + 1) 31 1 (dg xs)] w_) (fun ⟨i, xs⟩ => ndg a - i) ⟨0, (List.replicate (((ndg a) + (ndg b)) + 1) 0)⟩ [1, 5, 17, 18, 19] (by kernel_rfl) ⟨⟨by simp, ok_zeros _, by omega, by rw [val_zeros]; simp [Nat.mod_one]⟩, H10⟩ ?_
 rintro ⟨i, xs⟩ w15 ⟨hi16, H17⟩
 refine G.eq (M' := [(1, .slice B (ndg b) d), (5, .slice (some ⟨p7, 0, none⟩) (((ndg a) + (ndg b)) + 1) (((ndg a) + (ndg b)) + 1)), (17, .slice A (ndg a) c), (18, vi (ndg a)), (19, vi i)]) rfl ?_
 obtain ⟨hxl, hxok, hib, hxv⟩ := hi16
 refine G.sr fun K18 hK19 => ?_
 refine GL.r 1 1 [(1, .slice B (ndg b) d), (5, .slice (some ⟨p7, 0, none⟩) (((ndg a) + (ndg b)) + 1) (((ndg a) + (ndg b)) + 1)), (17, .slice A (ndg a) c), (18, vi (ndg a)), (19, vi i), (20, .bool (decide ((i : Int) < (((ndg a) : Nat) : Int))))] ?_
 refine GL.q hK19 ?_
 refine G.seqK fun K20 hK21 => ?_
 cases hb22 : (decide ((i : Int) < (((ndg a) : Nat) : Int)))
 · skip
   have hb22f := of_decide_eq_false hb22
   refine G.no rfl ?_
   refine G.exitK hK12 (fun _ _ h => h) ?_
   refine G.sr fun K23 hK24 => ?_
   refine GL.r 1 1 [(58, .slice (some ⟨p7, 0, none⟩) (((ndg a) + (ndg b)) + 1) (((ndg a) + (ndg b)) + 1))] ?_
   have hval : val xs = a * b := mul_done (by omega) hxv
   refine GL.call (j := 2) (trim_calls xs (((ndg a) + (ndg b)) + 1) (hxl.symm) (some ⟨p7, 0, none⟩) (((ndg a) + (ndg b)) + 1) w15 (H17.rdRow 0 rfl) (hxok) (H17.rowLe 0 rfl).1 (by omega)) (by kernel_rfl) rfl (fun e_ w25 hR => ?_)
   obtain ⟨rfl, H27⟩ := hR
   have H26 := (H17.callNil H27).shrinkD 0 rfl (hxl.symm) (hxok)
   rw [hval] at H26
   rw [hval]
   refine ⟨_, rfl, [59], [(59, .slice (some ⟨p7, 0, none⟩) (ndg (a * b)) (((ndg a) + (ndg b)) + 1))], by kernel_rfl, ?_⟩
   refine GL.r 3 1 [(4, .slice (some ⟨p7, 0, none⟩) (ndg (a * b)) (((ndg a) + (ndg b)) + 1))] ?_
   refine GL.q hK24 ?_
   refine G.ret fun F_ hF_ hM_ => hRet _ _ (bodyPost_1 rfl (RV.tmp rfl) ?_ F_ hF_ hM_)
   exact ⟨_, _, rfl, H26⟩
 · skip
   have hb22f := of_decide_eq_true hb22
   refine G.yes rfl ?_
   refine G.skipK hK21 (fun _ _ h => h) ?_
   refine G.seqK fun K28 hK29 => ?_
   refine G.block ?_
   refine G.sr fun K30 hK31 => ?_
   refine GL.r 1 1 [(1, .slice B (ndg b) d), (5, .slice (some ⟨p7, 0, none⟩) (((ndg a) + (ndg b)) + 1) (((ndg a) + (ndg b)) + 1)), (17, .slice A (ndg a) c), (18, vi (ndg a)), (19, vi i), (21, vi i)] ?_
   refine GL.s 2 (run_idxRd (P := Try.prog) (k := .i64) (t := 35) (A := A) (len := (ndg a)) (cap := c) (j := i) (by kernel_rfl) rfl (hr.hp H17) (dg_digs _) (by omega)) [(1, .slice B (ndg b) d), (5, .slice (some ⟨p7, 0, none⟩) (((ndg a) + (ndg b)) + 1) (((ndg a) + (ndg b)) + 1)), (17, .slice A (ndg a) c), (18, vi (ndg a)), (19, vi i), (21, vi i), (22, .pointer (Option.map (fun x => Addr.add x i) A))] ?_
   refine GL.s 3 (run_ldRd (P := Try.prog) (ty := 31) (A := A) (j := i) (v := .int .u64 ((dgt a i) : Int)) (by kernel_rfl) (hr.hp H17) (dg_at (digs_get (by omega)))) [(1, .slice B (ndg b) d), (5, .slice (some ⟨p7, 0, none⟩) (((ndg a) + (ndg b)) + 1) (((ndg a) + (ndg b)) + 1)), (17, .slice A (ndg a) c), (18, vi (ndg a)), (19, vi i), (21, vi i), (23, lu ((dgt a i) : Int))] ?_
   refine GL.r 5 2 [(1, .slice B (ndg b) d), (5, .slice (some ⟨p7, 0, none⟩) (((ndg a) + (ndg b)) + 1) (((ndg a) + (ndg b)) + 1)), (6, vi i), (7, lu ((dgt a i) : Int)), (17, .slice A (ndg a) c), (18, vi (ndg a)), (19, vi i)] ?_
   refine GL.q hK31 ?_
   refine G.sr fun K32 hK33 => ?_
   refine GL.r 1 1 [(1, .slice B (ndg b) d), (5, .slice (some ⟨p7, 0, none⟩) (((ndg a) + (ndg b)) + 1) (((ndg a) + (ndg b)) + 1)), (6, vi i), (7, lu ((dgt a i) : Int)), (8, lu 0), (17, .slice A (ndg a) c), (18, vi (ndg a)), (19, vi i)] ?_
   refine GL.q hK33 ?_
   refine G.sr fun K34 hK35 => ?_
   refine GL.r 1 1 [(1, .slice B (ndg b) d), (5, .slice (some ⟨p7, 0, none⟩) (((ndg a) + (ndg b)) + 1) (((ndg a) + (ndg b)) + 1)), (6, vi i), (7, lu ((dgt a i) : Int)), (8, lu 0), (9, li 0), (17, .slice A (ndg a) c), (18, vi (ndg a)), (19, vi i)] ?_
   refine GL.q hK35 ?_
   refine G.block ?_
   refine G.fit [1, 5, 6, 7, 8, 9, 17, 18, 19] (M' := [(1, .slice B (ndg b) d), (5, .slice (some ⟨p7, 0, none⟩) (((ndg a) + (ndg b)) + 1) (((ndg a) + (ndg b)) + 1)), (6, vi i), (7, lu ((dgt a i) : Int)), (8, lu 0), (9, li 0), (17, .slice A (ndg a) c), (18, vi (ndg a)), (19, vi i)]) (by kernel_rfl) ?_
   refine G.loop (X := Nat × Nat × List Nat) (fun ⟨k, cy, ys⟩ => [(1, .slice B (ndg b) d), (5, .slice (some ⟨p7, 0, none⟩) (((ndg a) + (ndg b)) + 1) (((ndg a) + (ndg b)) + 1)), (6, vi i), (7, lu ((dgt a i) : Int)), (8, vu cy), (9, vi k), (17, .slice A (ndg a) c), (18, vi (ndg a)), (19, vi i)]) (fun ⟨k, cy, ys⟩ w_ => (ys.length = ((ndg a) + (ndg b)) + 1 ∧ ok16 ys ∧ cy < 65536 ∧ val ys + 65536 ^ (i + k) * cy = a % 65536 ^ i * b + dgt a i * (65536 ^ i * (b % 65536 ^ k))) ∧ Hp w [] [.row (some ⟨p7, 0, none⟩) (((ndg a) + (ndg b)) + 1) (((ndg a) + (ndg b)) + 1) 31 1 (dg ys)] w_) (fun ⟨k, cy, ys⟩ => ndg b + 1 - k) ⟨0, 0, xs⟩ [1, 5, 6, 7, 8, 9, 17, 18, 19] (by kernel_rfl) ⟨⟨hxl, hxok, by decide, mul_start hxv⟩, H17⟩ ?_
   rintro ⟨k, cy, ys⟩ w36 ⟨hi37, H38⟩
   refine G.eq (M' := [(1, .slice B (ndg b) d), (5, .slice (some ⟨p7, 0, none⟩) (((ndg a) + (ndg b)) + 1) (((ndg a) + (ndg b)) + 1)), (6, vi i), (7, lu ((dgt a i) : Int)), (8, vu cy), (9, vi k), (17, .slice A (ndg a) c), (18, vi (ndg a)), (19, vi i)]) rfl ?_
   obtain ⟨hyl, hyok, hcy, hyv⟩ := hi37
   have hms := mul_small (c := 0) (d := 0) (by decide) (by decide) (dgt_lt a i) (dgt_lt b k)
   refine G.seqK fun K39 hK40 => ?_
   refine G.sr fun K41 hK42 => ?_
   refine GL.r 5 5 [(1, .slice B (ndg b) d), (5, .slice (some ⟨p7, 0, none⟩) (((ndg a) + (ndg b)) + 1) (((ndg a) + (ndg b)) + 1)), (6, vi i), (7, lu ((dgt a i) : Int)), (8, vu cy), (9, vi k), (17, .slice A (ndg a) c), (18, vi (ndg a)), (19, vi i), (28, .bool (decide ((k : Int) < (((ndg b) : Nat) : Int))))] ?_
   cases hb43 : (decide ((k : Int) < (((ndg b) : Nat) : Int)))
   · skip
     have hb43f := of_decide_eq_false hb43
     refine GL.r 8 3 [(1, .slice B (ndg b) d), (5, .slice (some ⟨p7, 0, none⟩) (((ndg a) + (ndg b)) + 1) (((ndg a) + (ndg b)) + 1)), (6, vi i), (7, lu ((dgt a i) : Int)), (8, vu cy), (9, vi k), (17, .slice A (ndg a) c), (18, vi (ndg a)), (19, vi i), (31, .bool (decide (0 < (cy : Int))))] ?_
     refine GL.q hK42 ?_
     cases hb44 : (decide (0 < (cy : Int)))
     · skip
       have hb44f := of_decide_eq_false hb44
       have hcy0 : cy = 0 := by omega
       rw [hcy0] at hyv
       refine G.no rfl ?_
       refine G.exitK hK29 (fun _ _ h => h) ?_
       refine G.region ?_
       refine GL.r 2 2 [(1, .slice B (ndg b) d), (5, .slice (some ⟨p7, 0, none⟩) (((ndg a) + (ndg b)) + 1) (((ndg a) + (ndg b)) + 1)), (17, .slice A (ndg a) c), (18, vi (ndg a)), (19, li (IntKind.i64.wrap ((i : Int) + 1)))] ?_
       have e45 : (IntKind.i64.wrap ((i : Int) + 1)) = ((i + 1 : Nat) : Int) := by rw [in_i64 (by omega)]; omega
       rw [e45]
       clear e45
       refine GL.fit (ts := [1, 5, 17, 18, 19]) (M' := [(1, .slice B (ndg b) d), (5, .slice (some ⟨p7, 0, none⟩) (((ndg a) + (ndg b)) + 1) (((ndg a) + (ndg b)) + 1)), (17, .slice A (ndg a) c), (18, vi (ndg a)), (19, vi (i + 1))]) (by kernel_rfl) ?_
       refine GL.eq (M' := [(1, .slice B (ndg b) d), (5, .slice (some ⟨p7, 0, none⟩) (((ndg a) + (ndg b)) + 1) (((ndg a) + (ndg b)) + 1)), (17, .slice A (ndg a) c), (18, vi (ndg a)), (19, vi (i + 1))]) (by rfl) ?_
       exact GL.again ⟨(i + 1), ys⟩ [1, 5, 17, 18, 19] rfl (by kernel_rfl) (by show ndg a - (i + 1) < ndg a - i; omega) ⟨⟨hyl, hyok, by omega, mul_next (by omega) hyv⟩, H38⟩
     · skip
       have hb44f := of_decide_eq_true hb44
       have hkb : k ≤ ndg b := mul_in hyv (by omega)
       refine G.yes rfl ?_
       refine G.skipK hK40 (fun _ _ h => h) ?_
       refine G.seqK fun K46 hK47 => ?_
       refine G.block ?_
       refine G.seqK fun K48 hK49 => ?_
       refine G.draw H38 (by kernel_rfl) (by kernel_rfl) ?_
       refine GQ.r 5 5 [(1, .slice B (ndg b) d), (5, .slice (some ⟨p7, 0, none⟩) (((ndg a) + (ndg b)) + 1) (((ndg a) + (ndg b)) + 1)), (6, vi i), (7, lu ((dgt a i) : Int)), (9, vi k), (17, .slice A (ndg a) c), (18, vi (ndg a)), (19, vi i), (34, vu cy), (35, .slice (some ⟨p7, 0, none⟩) (((ndg a) + (ndg b)) + 1) (((ndg a) + (ndg b)) + 1)), (38, li (IntKind.i64.wrap ((i : Int) + (k : Int))))] ?_
       have e50 : (IntKind.i64.wrap ((i : Int) + (k : Int))) = ((i + k : Nat) : Int) := by rw [in_i64 (by omega)]; omega
       refine GQ.eq (M' := [(1, .slice B (ndg b) d), (5, .slice (some ⟨p7, 0, none⟩) (((ndg a) + (ndg b)) + 1) (((ndg a) + (ndg b)) + 1)), (6, vi i), (7, lu ((dgt a i) : Int)), (9, vi k), (17, .slice A (ndg a) c), (18, vi (ndg a)), (19, vi i), (34, vu cy), (35, .slice (some ⟨p7, 0, none⟩) (((ndg a) + (ndg b)) + 1) (((ndg a) + (ndg b)) + 1)), (38, vi (i + k))]) (by rw [e50]) ?_
       clear e50
       refine GQ.s 6 (fun w_ H_ => run_idxRd (P := Try.prog) (k := .i64) (t := 35) (A := (some ⟨p7, 0, none⟩)) (len := ((ndg a) + (ndg b)) + 1) (cap := ((ndg a) + (ndg b)) + 1) (j := i + k) (by kernel_rfl) rfl (H_.rdRow 0 rfl) (by first | exact dg_length _ | rw [dg_length]; first | rfl | assumption | (symm; assumption) | (simp; done) | (rw [List.length_take]; omega) | omega) (by omega)) [(1, .slice B (ndg b) d), (5, .slice (some ⟨p7, 0, none⟩) (((ndg a) + (ndg b)) + 1) (((ndg a) + (ndg b)) + 1)), (6, vi i), (7, lu ((dgt a i) : Int)), (9, vi k), (17, .slice A (ndg a) c), (18, vi (ndg a)), (19, vi i), (34, vu cy), (39, .pointer (Option.map (fun x => Addr.add x (i + k)) (some ⟨p7, 0, none⟩)))] ?_
       obtain ⟨d51, hd52⟩ : ∃ d : Nat, (ys)[i + k]? = some d := ⟨_, List.getElem?_eq_getElem (by omega)⟩
       have hdx := hd52
       have hdB := ok_at hyok hdx
       refine GQ.s 7 (fun w_ H_ => run_ldRd (P := Try.prog) (ty := 31) (A := (some ⟨p7, 0, none⟩)) (j := i + k) (v := vu d51) (by kernel_rfl) (H_.rdRow 0 rfl) (dg_at hd52)) [(1, .slice B (ndg b) d), (5, .slice (some ⟨p7, 0, none⟩) (((ndg a) + (ndg b)) + 1) (((ndg a) + (ndg b)) + 1)), (6, vi i), (7, lu ((dgt a i) : Int)), (9, vi k), (17, .slice A (ndg a) c), (18, vi (ndg a)), (19, vi i), (34, vu cy), (40, vu d51)] ?_
       refine GQ.r 11 4 [(1, .slice B (ndg b) d), (5, .slice (some ⟨p7, 0, none⟩) (((ndg a) + (ndg b)) + 1) (((ndg a) + (ndg b)) + 1)), (6, vi i), (7, lu ((dgt a i) : Int)), (9, vi k), (17, .slice A (ndg a) c), (18, vi (ndg a)), (19, vi i), (41, lu (IntKind.u64.wrap ((cy : Int) + (d51 : Int)))), (42, lu ((dgt a i) : Int)), (43, .slice B (ndg b) d), (44, vi k)] ?_
       have e53 : (IntKind.u64.wrap ((cy : Int) + (d51 : Int))) = ((cy + d51 : Nat) : Int) := n_add' (a := cy) (b := d51) (by omega)
       refine GQ.eq (M' := [(1, .slice B (ndg b) d), (5, .slice (some ⟨p7, 0, none⟩) (((ndg a) + (ndg b)) + 1) (((ndg a) + (ndg b)) + 1)), (6, vi i), (7, lu ((dgt a i) : Int)), (9, vi k), (17, .slice A (ndg a) c), (18, vi (ndg a)), (19, vi i), (41, vu (cy + d51)), (42, lu ((dgt a i) : Int)), (43, .slice B (ndg b) d), (44, vi k)]) (by rw [e53]) ?_
       clear e53
       refine GQ.call (fun w_ H_ => (digit_calls b k B d w_ (hs.hp H_)).mono fun e_ w2_ ⟨he_, h2_⟩ => ⟨he_, H_.callNil h2_⟩) [1, 5, 6, 7, 9, 17, 18, 19, 41, 42, 45] [(1, .slice B (ndg b) d), (5, .slice (some ⟨p7, 0, none⟩) (((ndg a) + (ndg b)) + 1) (((ndg a) + (ndg b)) + 1)), (6, vi i), (7, lu ((dgt a i) : Int)), (9, vi k), (17, .slice A (ndg a) c), (18, vi (ndg a)), (19, vi i), (41, vu (cy + d51)), (42, lu ((dgt a i) : Int)), (45, lu ((dgt b k) : Int))] (by kernel_rfl) (by kernel_rfl) (j := 12) rfl ?_
       refine GQ.r 15 3 [(1, .slice B (ndg b) d), (5, .slice (some ⟨p7, 0, none⟩) (((ndg a) + (ndg b)) + 1) (((ndg a) + (ndg b)) + 1)), (6, vi i), (7, lu ((dgt a i) : Int)), (8, lu (IntKind.u64.wrap (((cy + d51 : Nat) : Int) + (IntKind.u64.wrap (((dgt a i) : Int) * ((dgt b k) : Int)))))), (9, vi k), (17, .slice A (ndg a) c), (18, vi (ndg a)), (19, vi i)] ?_
       have e54 : (IntKind.u64.wrap (((dgt a i) : Int) * ((dgt b k) : Int))) = (((dgt a i) * (dgt b k) : Nat) : Int) := n_mul' (a := (dgt a i)) (b := (dgt b k)) (by omega)
       have e55 : (IntKind.u64.wrap (((cy + d51 : Nat) : Int) + (((dgt a i) * (dgt b k) : Nat) : Int))) = (((cy + d51) + ((dgt a i) * (dgt b k)) : Nat) : Int) := n_add' (a := (cy + d51)) (b := ((dgt a i) * (dgt b k))) (by omega)
       refine GQ.eq (M' := [(1, .slice B (ndg b) d), (5, .slice (some ⟨p7, 0, none⟩) (((ndg a) + (ndg b)) + 1) (((ndg a) + (ndg b)) + 1)), (6, vi i), (7, lu ((dgt a i) : Int)), (8, vu ((cy + d51) + ((dgt a i) * (dgt b k)))), (9, vi k), (17, .slice A (ndg a) c), (18, vi (ndg a)), (19, vi i)]) (by rw [e54, e55]) ?_
       clear e54 e55
       refine GQ.k rfl hK49 (fun _ _ h => h) (fun w56 H57 => ?_)
       refine G.sr fun K58 hK59 => ?_
       refine GL.r 6 6 [(1, .slice B (ndg b) d), (5, .slice (some ⟨p7, 0, none⟩) (((ndg a) + (ndg b)) + 1) (((ndg a) + (ndg b)) + 1)), (6, vi i), (7, lu ((dgt a i) : Int)), (8, vu ((cy + d51) + ((dgt a i) * (dgt b k)))), (9, vi k), (17, .slice A (ndg a) c), (18, vi (ndg a)), (19, vi i), (48, .slice (some ⟨p7, 0, none⟩) (((ndg a) + (ndg b)) + 1) (((ndg a) + (ndg b)) + 1)), (51, li (IntKind.i64.wrap ((i : Int) + (k : Int)))), (53, lu (Int.tmod (((cy + d51) + ((dgt a i) * (dgt b k)) : Nat) : Int) 65536))] ?_
       have e60 : (IntKind.i64.wrap ((i : Int) + (k : Int))) = ((i + k : Nat) : Int) := by rw [in_i64 (by omega)]; omega
       have e61 : (Int.tmod (((cy + d51) + ((dgt a i) * (dgt b k)) : Nat) : Int) 65536) = ((((cy + d51) + ((dgt a i) * (dgt b k))) % 65536 : Nat) : Int) := n_rem _ 65536
       rw [e60, e61]
       clear e60 e61
       refine GL.s 7 (run_idxRd (P := Try.prog) (k := .i64) (t := 35) (A := (some ⟨p7, 0, none⟩)) (len := ((ndg a) + (ndg b)) + 1) (cap := ((ndg a) + (ndg b)) + 1) (j := i + k) (by kernel_rfl) rfl (H57.rdRow 0 rfl) (by first | exact dg_length _ | rw [dg_length]; first | rfl | assumption | (symm; assumption) | (simp; done) | (rw [List.length_take]; omega) | omega) (by omega)) [(1, .slice B (ndg b) d), (5, .slice (some ⟨p7, 0, none⟩) (((ndg a) + (ndg b)) + 1) (((ndg a) + (ndg b)) + 1)), (6, vi i), (7, lu ((dgt a i) : Int)), (8, vu ((cy + d51) + ((dgt a i) * (dgt b k)))), (9, vi k), (17, .slice A (ndg a) c), (18, vi (ndg a)), (19, vi i), (53, vu (((cy + d51) + ((dgt a i) * (dgt b k))) % 65536)), (54, .pointer (Option.map (fun x => Addr.add x (i + k)) (some ⟨p7, 0, none⟩)))] ?_
       obtain ⟨w62, r63, H64⟩ := H57.stRow (P := Try.prog) (q := i + k) (ty := 31) (v := vu (((cy + d51) + ((dgt a i) * (dgt b k))) % 65536)) 0 rfl (by kernel_rfl) (by rw [dg_length]; omega) rfl
       rw [dg_set] at H64
       refine GL.u 8 r63 [(1, .slice B (ndg b) d), (5, .slice (some ⟨p7, 0, none⟩) (((ndg a) + (ndg b)) + 1) (((ndg a) + (ndg b)) + 1)), (6, vi i), (7, lu ((dgt a i) : Int)), (8, vu ((cy + d51) + ((dgt a i) * (dgt b k)))), (9, vi k), (17, .slice A (ndg a) c), (18, vi (ndg a)), (19, vi i)] ?_
       refine GL.q hK59 ?_
       refine G.region ?_
       refine GL.r 3 3 [(1, .slice B (ndg b) d), (5, .slice (some ⟨p7, 0, none⟩) (((ndg a) + (ndg b)) + 1) (((ndg a) + (ndg b)) + 1)), (6, vi i), (7, lu ((dgt a i) : Int)), (8, lu (IntKind.u64.wrap (Int.tdiv (((cy + d51) + ((dgt a i) * (dgt b k)) : Nat) : Int) 65536))), (9, vi k), (17, .slice A (ndg a) c), (18, vi (ndg a)), (19, vi i)] ?_
       have e65 : (IntKind.u64.wrap (Int.tdiv (((cy + d51) + ((dgt a i) * (dgt b k)) : Nat) : Int) 65536)) = ((((cy + d51) + ((dgt a i) * (dgt b k))) / 65536 : Nat) : Int) := n_quo 65536 (by omega)
       rw [e65]
       clear e65
       refine GL.q hK47 ?_
       refine G.region ?_
       refine GL.r 3 3 [(1, .slice B (ndg b) d), (5, .slice (some ⟨p7, 0, none⟩) (((ndg a) + (ndg b)) + 1) (((ndg a) + (ndg b)) + 1)), (6, vi i), (7, lu ((dgt a i) : Int)), (8, vu (((cy + d51) + ((dgt a i) * (dgt b k))) / 65536)), (9, li (IntKind.i64.wrap ((k : Int) + 1))), (17, .slice A (ndg a) c), (18, vi (ndg a)), (19, vi i)] ?_
       have e66 : (IntKind.i64.wrap ((k : Int) + 1)) = ((k + 1 : Nat) : Int) := by rw [in_i64 (by omega)]; omega
       rw [e66]
       clear e66
       refine GL.fit (ts := [1, 5, 6, 7, 8, 9, 17, 18, 19]) (M' := [(1, .slice B (ndg b) d), (5, .slice (some ⟨p7, 0, none⟩) (((ndg a) + (ndg b)) + 1) (((ndg a) + (ndg b)) + 1)), (6, vi i), (7, lu ((dgt a i) : Int)), (8, vu (((cy + d51) + ((dgt a i) * (dgt b k))) / 65536)), (9, vi (k + 1)), (17, .slice A (ndg a) c), (18, vi (ndg a)), (19, vi i)]) (by kernel_rfl) ?_
       refine GL.eq (M' := [(1, .slice B (ndg b) d), (5, .slice (some ⟨p7, 0, none⟩) (((ndg a) + (ndg b)) + 1) (((ndg a) + (ndg b)) + 1)), (6, vi i), (7, lu ((dgt a i) : Int)), (8, vu (((cy + d51) + ((dgt a i) * (dgt b k))) / 65536)), (9, vi (k + 1)), (17, .slice A (ndg a) c), (18, vi (ndg a)), (19, vi i)]) (by rfl) ?_
       exact GL.again ⟨(k + 1), ((cy + d51) + ((dgt a i) * (dgt b k))) / 65536, (List.set ys (i + k) (((cy + d51) + ((dgt a i) * (dgt b k))) % 65536))⟩ [1, 5, 6, 7, 8, 9, 17, 18, 19] rfl (by kernel_rfl) (by show ndg b + 1 - (k + 1) < ndg b + 1 - k; omega) ⟨⟨by simp [hyl], ok_set hyok (Nat.mod_lt _ (by decide)), by omega, mul_round hdx rfl hyv⟩, H64⟩
   · skip
     have hb43f := of_decide_eq_true hb43
     have hkb : k ≤ ndg b := mul_in hyv (by omega)
     refine GL.r 8 3 [(1, .slice B (ndg b) d), (5, .slice (some ⟨p7, 0, none⟩) (((ndg a) + (ndg b)) + 1) (((ndg a) + (ndg b)) + 1)), (6, vi i), (7, lu ((dgt a i) : Int)), (8, vu cy), (9, vi k), (17, .slice A (ndg a) c), (18, vi (ndg a)), (19, vi i), (31, .bool true)] ?_
     refine GL.q hK42 ?_
     refine G.yes rfl ?_
     refine G.skipK hK40 (fun _ _ h => h) ?_
     refine G.seqK fun K67 hK68 => ?_
     refine G.block ?_
     refine G.seqK fun K69 hK70 => ?_
     refine G.draw H38 (by kernel_rfl) (by kernel_rfl) ?_
     refine GQ.r 5 5 [(1, .slice B (ndg b) d), (5, .slice (some ⟨p7, 0, none⟩) (((ndg a) + (ndg b)) + 1) (((ndg a) + (ndg b)) + 1)), (6, vi i), (7, lu ((dgt a i) : Int)), (9, vi k), (17, .slice A (ndg a) c), (18, vi (ndg a)), (19, vi i), (34, vu cy), (35, .slice (some ⟨p7, 0, none⟩) (((ndg a) + (ndg b)) + 1) (((ndg a) + (ndg b)) + 1)), (38, li (IntKind.i64.wrap ((i : Int) + (k : Int))))] ?_
     have e71 : (IntKind.i64.wrap ((i : Int) + (k : Int))) = ((i + k : Nat) : Int) := by rw [in_i64 (by omega)]; omega
     refine GQ.eq (M' := [(1, .slice B (ndg b) d), (5, .slice (some ⟨p7, 0, none⟩) (((ndg a) + (ndg b)) + 1) (((ndg a) + (ndg b)) + 1)), (6, vi i), (7, lu ((dgt a i) : Int)), (9, vi k), (17, .slice A (ndg a) c), (18, vi (ndg a)), (19, vi i), (34, vu cy), (35, .slice (some ⟨p7, 0, none⟩) (((ndg a) + (ndg b)) + 1) (((ndg a) + (ndg b)) + 1)), (38, vi (i + k))]) (by rw [e71]) ?_
     clear e71
     refine GQ.s 6 (fun w_ H_ => run_idxRd (P := Try.prog) (k := .i64) (t := 35) (A := (some ⟨p7, 0, none⟩)) (len := ((ndg a) + (ndg b)) + 1) (cap := ((ndg a) + (ndg b)) + 1) (j := i + k) (by kernel_rfl) rfl (H_.rdRow 0 rfl) (by first | exact dg_length _ | rw [dg_length]; first | rfl | assumption | (symm; assumption) | (simp; done) | (rw [List.length_take]; omega) | omega) (by omega)) [(1, .slice B (ndg b) d), (5, .slice (some ⟨p7, 0, none⟩) (((ndg a) + (ndg b)) + 1) (((ndg a) + (ndg b)) + 1)), (6, vi i), (7, lu ((dgt a i) : Int)), (9, vi k), (17, .slice A (ndg a) c), (18, vi (ndg a)), (19, vi i), (34, vu cy), (39, .pointer (Option.map (fun x => Addr.add x (i + k)) (some ⟨p7, 0, none⟩)))] ?_
     obtain ⟨d72, hd73⟩ : ∃ d : Nat, (ys)[i + k]? = some d := ⟨_, List.getElem?_eq_getElem (by omega)⟩
     have hdx := hd73
     have hdB := ok_at hyok hdx
     refine GQ.s 7 (fun w_ H_ => run_ldRd (P := Try.prog) (ty := 31) (A := (some ⟨p7, 0, none⟩)) (j := i + k) (v := vu d72) (by kernel_rfl) (H_.rdRow 0 rfl) (dg_at hd73)) [(1, .slice B (ndg b) d), (5, .slice (some ⟨p7, 0, none⟩) (((ndg a) + (ndg b)) + 1) (((ndg a) + (ndg b)) + 1)), (6, vi i), (7, lu ((dgt a i) : Int)), (9, vi k), (17, .slice A (ndg a) c), (18, vi (ndg a)), (19, vi i), (34, vu cy), (40, vu d72)] ?_
     refine GQ.r 11 4 [(1, .slice B (ndg b) d), (5, .slice (some ⟨p7, 0, none⟩) (((ndg a) + (ndg b)) + 1) (((ndg a) + (ndg b)) + 1)), (6, vi i), (7, lu ((dgt a i) : Int)), (9, vi k), (17, .slice A (ndg a) c), (18, vi (ndg a)), (19, vi i), (41, lu (IntKind.u64.wrap ((cy : Int) + (d72 : Int)))), (42, lu ((dgt a i) : Int)), (43, .slice B (ndg b) d), (44, vi k)] ?_
     have e74 : (IntKind.u64.wrap ((cy : Int) + (d72 : Int))) = ((cy + d72 : Nat) : Int) := n_add' (a := cy) (b := d72) (by omega)
     refine GQ.eq (M' := [(1, .slice B (ndg b) d), (5, .slice (some ⟨p7, 0, none⟩) (((ndg a) + (ndg b)) + 1) (((ndg a) + (ndg b)) + 1)), (6, vi i), (7, lu ((dgt a i) : Int)), (9, vi k), (17, .slice A (ndg a) c), (18, vi (ndg a)), (19, vi i), (41, vu (cy + d72)), (42, lu ((dgt a i) : Int)), (43, .slice B (ndg b) d), (44, vi k)]) (by rw [e74]) ?_
     clear e74
     refine GQ.call (fun w_ H_ => (digit_calls b k B d w_ (hs.hp H_)).mono fun e_ w2_ ⟨he_, h2_⟩ => ⟨he_, H_.callNil h2_⟩) [1, 5, 6, 7, 9, 17, 18, 19, 41, 42, 45] [(1, .slice B (ndg b) d), (5, .slice (some ⟨p7, 0, none⟩) (((ndg a) + (ndg b)) + 1) (((ndg a) + (ndg b)) + 1)), (6, vi i), (7, lu ((dgt a i) : Int)), (9, vi k), (17, .slice A (ndg a) c), (18, vi (ndg a)), (19, vi i), (41, vu (cy + d72)), (42, lu ((dgt a i) : Int)), (45, lu ((dgt b k) : Int))] (by kernel_rfl) (by kernel_rfl) (j := 12) rfl ?_
     refine GQ.r 15 3 [(1, .slice B (ndg b) d), (5, .slice (some ⟨p7, 0, none⟩) (((ndg a) + (ndg b)) + 1) (((ndg a) + (ndg b)) + 1)), (6, vi i), (7, lu ((dgt a i) : Int)), (8, lu (IntKind.u64.wrap (((cy + d72 : Nat) : Int) + (IntKind.u64.wrap (((dgt a i) : Int) * ((dgt b k) : Int)))))), (9, vi k), (17, .slice A (ndg a) c), (18, vi (ndg a)), (19, vi i)] ?_
     have e75 : (IntKind.u64.wrap (((dgt a i) : Int) * ((dgt b k) : Int))) = (((dgt a i) * (dgt b k) : Nat) : Int) := n_mul' (a := (dgt a i)) (b := (dgt b k)) (by omega)
     have e76 : (IntKind.u64.wrap (((cy + d72 : Nat) : Int) + (((dgt a i) * (dgt b k) : Nat) : Int))) = (((cy + d72) + ((dgt a i) * (dgt b k)) : Nat) : Int) := n_add' (a := (cy + d72)) (b := ((dgt a i) * (dgt b k))) (by omega)
     refine GQ.eq (M' := [(1, .slice B (ndg b) d), (5, .slice (some ⟨p7, 0, none⟩) (((ndg a) + (ndg b)) + 1) (((ndg a) + (ndg b)) + 1)), (6, vi i), (7, lu ((dgt a i) : Int)), (8, vu ((cy + d72) + ((dgt a i) * (dgt b k)))), (9, vi k), (17, .slice A (ndg a) c), (18, vi (ndg a)), (19, vi i)]) (by rw [e75, e76]) ?_
     clear e75 e76
     refine GQ.k rfl hK70 (fun _ _ h => h) (fun w77 H78 => ?_)
     refine G.sr fun K79 hK80 => ?_
     refine GL.r 6 6 [(1, .slice B (ndg b) d), (5, .slice (some ⟨p7, 0, none⟩) (((ndg a) + (ndg b)) + 1) (((ndg a) + (ndg b)) + 1)), (6, vi i), (7, lu ((dgt a i) : Int)), (8, vu ((cy + d72) + ((dgt a i) * (dgt b k)))), (9, vi k), (17, .slice A (ndg a) c), (18, vi (ndg a)), (19, vi i), (48, .slice (some ⟨p7, 0, none⟩) (((ndg a) + (ndg b)) + 1) (((ndg a) + (ndg b)) + 1)), (51, li (IntKind.i64.wrap ((i : Int) + (k : Int)))), (53, lu (Int.tmod (((cy + d72) + ((dgt a i) * (dgt b k)) : Nat) : Int) 65536))] ?_
     have e81 : (IntKind.i64.wrap ((i : Int) + (k : Int))) = ((i + k : Nat) : Int) := by rw [in_i64 (by omega)]; omega
     have e82 : (Int.tmod (((cy + d72) + ((dgt a i) * (dgt b k)) : Nat) : Int) 65536) = ((((cy + d72) + ((dgt a i) * (dgt b k))) % 65536 : Nat) : Int) := n_rem _ 65536
     rw [e81, e82]
     clear e81 e82
     refine GL.s 7 (run_idxRd (P := Try.prog) (k := .i64) (t := 35) (A := (some ⟨p7, 0, none⟩)) (len := ((ndg a) + (ndg b)) + 1) (cap := ((ndg a) + (ndg b)) + 1) (j := i + k) (by kernel_rfl) rfl (H78.rdRow 0 rfl) (by first | exact dg_length _ | rw [dg_length]; first | rfl | assumption | (symm; assumption) | (simp; done) | (rw [List.length_take]; omega) | omega) (by omega)) [(1, .slice B (ndg b) d), (5, .slice (some ⟨p7, 0, none⟩) (((ndg a) + (ndg b)) + 1) (((ndg a) + (ndg b)) + 1)), (6, vi i), (7, lu ((dgt a i) : Int)), (8, vu ((cy + d72) + ((dgt a i) * (dgt b k)))), (9, vi k), (17, .slice A (ndg a) c), (18, vi (ndg a)), (19, vi i), (53, vu (((cy + d72) + ((dgt a i) * (dgt b k))) % 65536)), (54, .pointer (Option.map (fun x => Addr.add x (i + k)) (some ⟨p7, 0, none⟩)))] ?_
     obtain ⟨w83, r84, H85⟩ := H78.stRow (P := Try.prog) (q := i + k) (ty := 31) (v := vu (((cy + d72) + ((dgt a i) * (dgt b k))) % 65536)) 0 rfl (by kernel_rfl) (by rw [dg_length]; omega) rfl
     rw [dg_set] at H85
     refine GL.u 8 r84 [(1, .slice B (ndg b) d), (5, .slice (some ⟨p7, 0, none⟩) (((ndg a) + (ndg b)) + 1) (((ndg a) + (ndg b)) + 1)), (6, vi i), (7, lu ((dgt a i) : Int)), (8, vu ((cy + d72) + ((dgt a i) * (dgt b k)))), (9, vi k), (17, .slice A (ndg a) c), (18, vi (ndg a)), (19, vi i)] ?_
     refine GL.q hK80 ?_
     refine G.region ?_
     refine GL.r 3 3 [(1, .slice B (ndg b) d), (5, .slice (some ⟨p7, 0, none⟩) (((ndg a) + (ndg b)) + 1) (((ndg a) + (ndg b)) + 1)), (6, vi i), (7, lu ((dgt a i) : Int)), (8, lu (IntKind.u64.wrap (Int.tdiv (((cy + d72) + ((dgt a i) * (dgt b k)) : Nat) : Int) 65536))), (9, vi k), (17, .slice A (ndg a) c), (18, vi (ndg a)), (19, vi i)] ?_
     have e86 : (IntKind.u64.wrap (Int.tdiv (((cy + d72) + ((dgt a i) * (dgt b k)) : Nat) : Int) 65536)) = ((((cy + d72) + ((dgt a i) * (dgt b k))) / 65536 : Nat) : Int) := n_quo 65536 (by omega)
     rw [e86]
     clear e86
     refine GL.q hK68 ?_
     refine G.region ?_
     refine GL.r 3 3 [(1, .slice B (ndg b) d), (5, .slice (some ⟨p7, 0, none⟩) (((ndg a) + (ndg b)) + 1) (((ndg a) + (ndg b)) + 1)), (6, vi i), (7, lu ((dgt a i) : Int)), (8, vu (((cy + d72) + ((dgt a i) * (dgt b k))) / 65536)), (9, li (IntKind.i64.wrap ((k : Int) + 1))), (17, .slice A (ndg a) c), (18, vi (ndg a)), (19, vi i)] ?_
     have e87 : (IntKind.i64.wrap ((k : Int) + 1)) = ((k + 1 : Nat) : Int) := by rw [in_i64 (by omega)]; omega
     rw [e87]
     clear e87
     refine GL.fit (ts := [1, 5, 6, 7, 8, 9, 17, 18, 19]) (M' := [(1, .slice B (ndg b) d), (5, .slice (some ⟨p7, 0, none⟩) (((ndg a) + (ndg b)) + 1) (((ndg a) + (ndg b)) + 1)), (6, vi i), (7, lu ((dgt a i) : Int)), (8, vu (((cy + d72) + ((dgt a i) * (dgt b k))) / 65536)), (9, vi (k + 1)), (17, .slice A (ndg a) c), (18, vi (ndg a)), (19, vi i)]) (by kernel_rfl) ?_
     refine GL.eq (M' := [(1, .slice B (ndg b) d), (5, .slice (some ⟨p7, 0, none⟩) (((ndg a) + (ndg b)) + 1) (((ndg a) + (ndg b)) + 1)), (6, vi i), (7, lu ((dgt a i) : Int)), (8, vu (((cy + d72) + ((dgt a i) * (dgt b k))) / 65536)), (9, vi (k + 1)), (17, .slice A (ndg a) c), (18, vi (ndg a)), (19, vi i)]) (by rfl) ?_
     exact GL.again ⟨(k + 1), ((cy + d72) + ((dgt a i) * (dgt b k))) / 65536, (List.set ys (i + k) (((cy + d72) + ((dgt a i) * (dgt b k))) % 65536))⟩ [1, 5, 6, 7, 8, 9, 17, 18, 19] rfl (by kernel_rfl) (by show ndg b + 1 - (k + 1) < ndg b + 1 - k; omega) ⟨⟨by simp [hyl], ok_set hyok (Nat.mod_lt _ (by decide)), by omega, mul_round hdx rfl hyv⟩, H85⟩
theorem HalfN_calls (a : Nat) (A : Option Addr) (c : Nat) (w : World) (hr : RdS w A (dg (digs a))) (hna : ndg a ≤ 100000) : Calls Try.prog 64 #[.slice A (ndg a) c] w fun e w' => ∃ A c, e = .returned (.tuple #[(.slice A (ndg (a / 2)) c), .int .u64 ((a % 2 : Nat) : Int)]) ∧ Hp w [] [.row A (ndg (a / 2)) c 31 1 (dg (digs (a / 2)))] w' := by
 have hMX : MX = 4611686018427387904 := rfl
 have hK0 : K = 18446744073709551616 := rfl
 have hK40 : K4 = 115792089237316195423570985008687907853269984665640564039457584007913129639936 := rfl
 refine calls_G (args := [.slice A (ndg a) c]) Try.func64 rfl Try.ntmps64 rfl ?_
 intro Q0 hRet hNor hPan
 have H := Hp.start w
 refine G.sr fun K1 hK2 => ?_
 refine GL.r 2 2 [(0, .slice A (ndg a) c)] ?_
 refine GL.q hK2 ?_
 refine G.sr fun K3 hK4 => ?_
 refine GL.r 2 2 [(0, .slice A (ndg a) c), (9, vi (ndg a))] ?_
 obtain ⟨p5, w6, r7, H8⟩ := H.makeD (P := Try.prog) (t := 35) (e := 31) (n := (ndg a)) (kl := .i64) (kc := .i64) (by kernel_rfl) (by omega)
 refine GL.s 3 (r7) [(0, .slice A (ndg a) c), (10, .slice (some ⟨p5, 0, none⟩) (ndg a) (ndg a))] ?_
 refine GL.r 4 1 [(0, .slice A (ndg a) c), (4, .slice (some ⟨p5, 0, none⟩) (ndg a) (ndg a))] ?_
 refine GL.q hK4 ?_
 refine G.sr fun K9 hK10 => ?_
 refine GL.r 1 1 [(0, .slice A (ndg a) c), (4, .slice (some ⟨p5, 0, none⟩) (ndg a) (ndg a)), (5, lu 0)] ?_
 refine GL.q hK10 ?_
 refine G.seqK fun K11 hK12 => ?_
 refine G.sr fun K13 hK14 => ?_
 refine GL.r 4 4 [(0, .slice A (ndg a) c), (4, .slice (some ⟨p5, 0, none⟩) (ndg a) (ndg a)), (5, lu 0), (6, li (IntKind.i64.wrap ((((ndg a) : Nat) : Int) - 1)))] ?_
 have e15 : (IntKind.i64.wrap ((((ndg a) : Nat) : Int) - 1)) = ((((ndg a) : Nat) : Int) - 1) := in_i64 (by omega)
 rw [e15]
 clear e15
 refine GL.q hK14 ?_
 refine G.block ?_
 refine G.fit [0, 4, 5, 6] (M' := [(0, .slice A (ndg a) c), (4, .slice (some ⟨p5, 0, none⟩) (ndg a) (ndg a)), (5, lu 0), (6, li ((((ndg a) : Nat) : Int) - 1))]) (by kernel_rfl) ?_
 refine G.loop (X := Nat × Nat × List Nat) (fun ⟨m, r, xs⟩ => [(0, .slice A (ndg a) c), (4, .slice (some ⟨p5, 0, none⟩) (ndg a) (ndg a)), (5, vu r), (6, li (((m : Nat) : Int) - 1))]) (fun ⟨m, r, xs⟩ w_ => (xs.length = ndg a ∧ ok16 xs ∧ m ≤ ndg a ∧ r < 2 ∧ (∀ k, k < m → xs[k]? = some 0) ∧ 2 * val xs + r * 65536 ^ m = a / 65536 ^ m * 65536 ^ m) ∧ Hp w [] [.row (some ⟨p5, 0, none⟩) (ndg a) (ndg a) 31 1 (dg xs)] w_) (fun ⟨m, r, xs⟩ => m) ⟨(ndg a), 0, (List.replicate (ndg a) 0)⟩ [0, 4, 5, 6] (by kernel_rfl) ⟨⟨by simp, ok_zeros _, Nat.le_refl _, by decide, zeros_get _, by rw [val_zeros, Nat.div_eq_of_lt (ndg_pow a)]; simp⟩, H8⟩ ?_
 rintro ⟨m, r, xs⟩ w16 ⟨hi17, H18⟩
 refine G.eq (M' := [(0, .slice A (ndg a) c), (4, .slice (some ⟨p5, 0, none⟩) (ndg a) (ndg a)), (5, vu r), (6, li (((m : Nat) : Int) - 1))]) rfl ?_
 obtain ⟨hxl, hxok, hib, hr2, hz, hv⟩ := hi17
 have hdl := dgt_lt a (m - 1)
 refine G.seqK fun K19 hK20 => ?_
 refine G.sr fun K21 hK22 => ?_
 refine GL.r 2 2 [(0, .slice A (ndg a) c), (4, .slice (some ⟨p5, 0, none⟩) (ndg a) (ndg a)), (5, vu r), (6, li (((m : Nat) : Int) - 1)), (15, .bool (decide (0 ≤ (((m : Nat) : Int) - 1))))] ?_
 refine GL.q hK22 ?_
 cases hb23 : (decide (0 ≤ (((m : Nat) : Int) - 1)))
 · skip
   have hb23f := of_decide_eq_false hb23
   have hm0 : m = 0 := by omega
   refine G.no rfl ?_
   refine G.exitK hK12 (fun _ _ h => h) ?_
   refine G.sr fun K24 hK25 => ?_
   refine GL.r 1 1 [(5, vu r), (32, .slice (some ⟨p5, 0, none⟩) (ndg a) (ndg a))] ?_
   obtain ⟨hval, hrest⟩ := half_done hm0 hr2 hv
   refine GL.call (j := 2) (trim_calls xs (ndg a) (hxl.symm) (some ⟨p5, 0, none⟩) (ndg a) w16 (H18.rdRow 0 rfl) (hxok) (H18.rowLe 0 rfl).1 (by omega)) (by kernel_rfl) rfl (fun e_ w26 hR => ?_)
   obtain ⟨rfl, H28⟩ := hR
   have H27 := (H18.callNil H28).shrinkD 0 rfl (hxl.symm) (hxok)
   rw [hval] at H27
   rw [hval]
   refine ⟨_, rfl, [5, 33], [(5, vu r), (33, .slice (some ⟨p5, 0, none⟩) (ndg (a / 2)) (ndg a))], by kernel_rfl, ?_⟩
   refine GL.r 5 3 [(2, .slice (some ⟨p5, 0, none⟩) (ndg (a / 2)) (ndg a)), (3, vu r)] ?_
   refine GL.q hK25 ?_
   refine G.ret fun F_ hF_ hM_ => hRet _ _ (bodyPost_2 rfl (RV.tmp rfl) (RV.tmp rfl) ?_ F_ hF_ hM_)
   rw [hrest]
   exact ⟨_, _, rfl, H27⟩
 · skip
   have hb23f := of_decide_eq_true hb23
   have hm0 : 0 < m := by omega
   have ei : (((m : Nat) : Int) - 1) = ((m - 1 : Nat) : Int) := by omega
   refine G.eq (M' := [(0, .slice A (ndg a) c), (4, .slice (some ⟨p5, 0, none⟩) (ndg a) (ndg a)), (5, vu r), (6, vi (m - 1)), (15, .bool true)]) (by rw [ei]) ?_
   have h0 := hz (m - 1) (by omega)
   refine G.yes rfl ?_
   refine G.skipK hK20 (fun _ _ h => h) ?_
   refine G.seqK fun K29 hK30 => ?_
   refine G.block ?_
   refine G.sr fun K31 hK32 => ?_
   refine GL.r 4 4 [(0, .slice A (ndg a) c), (4, .slice (some ⟨p5, 0, none⟩) (ndg a) (ndg a)), (6, vi (m - 1)), (19, lu (IntKind.u64.wrap ((r : Int) * 65536))), (20, .slice A (ndg a) c), (21, vi (m - 1))] ?_
   have e33 : (IntKind.u64.wrap ((r : Int) * 65536)) = ((r * 65536 : Nat) : Int) := n_mul' (a := r) (b := 65536) (by omega)
   rw [e33]
   clear e33
   refine GL.s 5 (run_idxRd (P := Try.prog) (k := .i64) (t := 35) (A := A) (len := (ndg a)) (cap := c) (j := m - 1) (by kernel_rfl) rfl (hr.hp H18) (dg_digs _) (by omega)) [(0, .slice A (ndg a) c), (4, .slice (some ⟨p5, 0, none⟩) (ndg a) (ndg a)), (6, vi (m - 1)), (19, vu (r * 65536)), (22, .pointer (Option.map (fun x => Addr.add x (m - 1)) A))] ?_
   refine GL.s 6 (run_ldRd (P := Try.prog) (ty := 31) (A := A) (j := m - 1) (v := .int .u64 ((dgt a (m - 1)) : Int)) (by kernel_rfl) (hr.hp H18) (dg_at (digs_get (by omega)))) [(0, .slice A (ndg a) c), (4, .slice (some ⟨p5, 0, none⟩) (ndg a) (ndg a)), (6, vi (m - 1)), (19, vu (r * 65536)), (23, lu ((dgt a (m - 1)) : Int))] ?_
   refine GL.r 8 2 [(0, .slice A (ndg a) c), (4, .slice (some ⟨p5, 0, none⟩) (ndg a) (ndg a)), (6, vi (m - 1)), (7, lu (IntKind.u64.wrap (((r * 65536 : Nat) : Int) + ((dgt a (m - 1)) : Int))))] ?_
   have e34 : (IntKind.u64.wrap (((r * 65536 : Nat) : Int) + ((dgt a (m - 1)) : Int))) = (((r * 65536) + (dgt a (m - 1)) : Nat) : Int) := n_add' (a := (r * 65536)) (b := (dgt a (m - 1))) (by omega)
   rw [e34]
   clear e34
   refine GL.q hK32 ?_
   refine G.sr fun K35 hK36 => ?_
   refine GL.r 4 4 [(0, .slice A (ndg a) c), (4, .slice (some ⟨p5, 0, none⟩) (ndg a) (ndg a)), (6, vi (m - 1)), (7, vu ((r * 65536) + (dgt a (m - 1)))), (25, .slice (some ⟨p5, 0, none⟩) (ndg a) (ndg a)), (26, vi (m - 1)), (28, lu (IntKind.u64.wrap (Int.tdiv (((r * 65536) + (dgt a (m - 1)) : Nat) : Int) 2)))] ?_
   have e37 : (IntKind.u64.wrap (Int.tdiv (((r * 65536) + (dgt a (m - 1)) : Nat) : Int) 2)) = ((((r * 65536) + (dgt a (m - 1))) / 2 : Nat) : Int) := n_quo 2 (by omega)
   rw [e37]
   clear e37
   refine GL.s 5 (run_idxRd (P := Try.prog) (k := .i64) (t := 35) (A := (some ⟨p5, 0, none⟩)) (len := (ndg a)) (cap := (ndg a)) (j := m - 1) (by kernel_rfl) rfl (H18.rdRow 0 rfl) (by first | exact dg_length _ | rw [dg_length]; first | rfl | assumption | (symm; assumption) | (simp; done) | (rw [List.length_take]; omega) | omega) (by omega)) [(0, .slice A (ndg a) c), (4, .slice (some ⟨p5, 0, none⟩) (ndg a) (ndg a)), (6, vi (m - 1)), (7, vu ((r * 65536) + (dgt a (m - 1)))), (28, vu (((r * 65536) + (dgt a (m - 1))) / 2)), (29, .pointer (Option.map (fun x => Addr.add x (m - 1)) (some ⟨p5, 0, none⟩)))] ?_
   obtain ⟨w38, r39, H40⟩ := H18.stRow (P := Try.prog) (q := m - 1) (ty := 31) (v := vu (((r * 65536) + (dgt a (m - 1))) / 2)) 0 rfl (by kernel_rfl) (by rw [dg_length]; omega) rfl
   rw [dg_set] at H40
   refine GL.u 6 r39 [(0, .slice A (ndg a) c), (4, .slice (some ⟨p5, 0, none⟩) (ndg a) (ndg a)), (6, vi (m - 1)), (7, vu ((r * 65536) + (dgt a (m - 1))))] ?_
   refine GL.q hK36 ?_
   refine G.region ?_
   refine GL.r 3 3 [(0, .slice A (ndg a) c), (4, .slice (some ⟨p5, 0, none⟩) (ndg a) (ndg a)), (5, lu (Int.tmod (((r * 65536) + (dgt a (m - 1)) : Nat) : Int) 2)), (6, vi (m - 1))] ?_
   have e41 : (Int.tmod (((r * 65536) + (dgt a (m - 1)) : Nat) : Int) 2) = ((((r * 65536) + (dgt a (m - 1))) % 2 : Nat) : Int) := n_rem _ 2
   rw [e41]
   clear e41
   refine GL.q hK30 ?_
   refine G.region ?_
   refine GL.r 3 3 [(0, .slice A (ndg a) c), (4, .slice (some ⟨p5, 0, none⟩) (ndg a) (ndg a)), (5, vu (((r * 65536) + (dgt a (m - 1))) % 2)), (6, li (IntKind.i64.wrap (((m - 1 : Nat) : Int) - 1)))] ?_
   have e42 : (IntKind.i64.wrap (((m - 1 : Nat) : Int) - 1)) = (((m - 1 : Nat) : Int) - 1) := in_i64 (by omega)
   rw [e42]
   clear e42
   refine GL.fit (ts := [0, 4, 5, 6]) (M' := [(0, .slice A (ndg a) c), (4, .slice (some ⟨p5, 0, none⟩) (ndg a) (ndg a)), (5, vu (((r * 65536) + (dgt a (m - 1))) % 2)), (6, li (((m - 1 : Nat) : Int) - 1))]) (by kernel_rfl) ?_
   refine GL.eq (M' := [(0, .slice A (ndg a) c), (4, .slice (some ⟨p5, 0, none⟩) (ndg a) (ndg a)), (5, vu (((r * 65536) + (dgt a (m - 1))) % 2)), (6, li ((((m - 1) : Nat) : Int) - 1))]) (by rfl) ?_
   exact GL.again ⟨(m - 1), ((r * 65536) + (dgt a (m - 1))) % 2, (List.set xs (m - 1) (((r * 65536) + (dgt a (m - 1))) / 2))⟩ [0, 4, 5, 6] rfl (by kernel_rfl) (by show (m - 1) < m; omega) ⟨⟨by simp [hxl], ok_set hxok (by omega), by omega, by omega, zero_set hz (by omega), half_round hm0 h0 rfl hv⟩, H40⟩
end Go.Proofs.Ytdepaaphgfapjaa
set_option maxRecDepth 100000
namespace Go.Proofs.Ytdepaaphgfapjaa
open Go.RowKit
theorem BitsN_calls (a : Nat) (A : Option Addr) (c : Nat) (w : World) (hr : RdS w A (dg (digs a))) (hna : ndg a ≤ 100000) : Calls Try.prog 46 #[.slice A (ndg a) c] w fun e w' => ∃ A c, e = .returned (.slice A (bl a) c) ∧ Hp w [] [.row A (bl a) c 31 1 (dg (bitsL a))] w' := by
 have hMX : MX = 4611686018427387904 := rfl
 have hK0 : K = 18446744073709551616 := rfl
 have hK40 : K4 = 115792089237316195423570985008687907853269984665640564039457584007913129639936 := rfl
 have hbl := ndg_bl hna
 refine calls_G (args := [.slice A (ndg a) c]) Try.func46 rfl Try.ntmps46 rfl ?_
 intro Q0 hRet hNor hPan
 have H := Hp.start w
 refine G.sr fun K1 hK2 => ?_
 refine GL.r 1 1 [(0, .slice A (ndg a) c)] ?_
 refine GL.q hK2 ?_
 refine G.sr fun K3 hK4 => ?_
 obtain ⟨p5, w6, r7, H8⟩ := H.madeRow (P := Try.prog) (Instr.buildSlice 34 0 #[]) (fun b_ => .slice (some ⟨b_, 0, none⟩) 0 0) [] 31 0 0 1 (by kernel_rfl) (by decide) (by decide) rfl
 refine GL.s 1 (r7) [(0, .slice A (ndg a) c), (5, .slice (some ⟨p5, 0, none⟩) 0 0)] ?_
 refine GL.r 2 1 [(0, .slice A (ndg a) c), (3, .slice (some ⟨p5, 0, none⟩) 0 0)] ?_
 refine GL.q hK4 ?_
 refine G.seqK fun K9 hK10 => ?_
 refine G.block ?_
 refine G.fit [0, 3] (M' := [(0, .slice A (ndg a) c), (3, .slice (some ⟨p5, 0, none⟩) 0 0)]) (by kernel_rfl) ?_
 refine G.loop (X := Nat × Nat × Option Addr × Nat × Option Addr × Nat) (fun ⟨i, V, Z, z, B, y⟩ => [(0, .slice Z (ndg V) z), (3, .slice B i y)]) (fun ⟨i, V, Z, z, B, y⟩ w_ => (i ≤ bl a ∧ V = a / 2 ^ i ∧ ndg V ≤ 100000 ∧ (RdS w Z (dg (digs V)) ∨ Hp w [] [.row B i y 31 1 (dg ((List.range i).map fun j => a / 2 ^ j % 2)), .row Z (ndg V) z 31 1 (dg (digs V))] w_)) ∧ Hp w [] [.row B i y 31 1 (dg ((List.range i).map fun j => a / 2 ^ j % 2))] w_) (fun ⟨i, V, Z, z, B, y⟩ => bl a - i) ⟨0, a, A, c, (some ⟨p5, 0, none⟩), 0⟩ [0, 3] (by kernel_rfl) ⟨⟨Nat.zero_le _, by simp, hna, .inl hr⟩, H8⟩ ?_
 rintro ⟨i, V, Z, z, B, y⟩ w11 ⟨hi12, H13⟩
 refine G.eq (M' := [(0, .slice Z (ndg V) z), (3, .slice B i y)]) rfl ?_
 obtain ⟨hib, hV, hVn, hrd⟩ := hi12
 rcases hrd with hrd | hrd
 · skip
   refine G.seqK fun K14 hK15 => ?_
   refine G.sr fun K16 hK17 => ?_
   refine GL.r 3 3 [(0, .slice Z (ndg V) z), (3, .slice B i y), (8, .bool (decide (0 < (((ndg V) : Nat) : Int))))] ?_
   refine GL.q hK17 ?_
   cases hb18 : (decide (0 < (((ndg V) : Nat) : Int)))
   · skip
     have hb18f := of_decide_eq_false hb18
     have hV0 : V = 0 := by have := @ndg_pos V; omega
     refine G.no rfl ?_
     refine G.exitK hK10 (fun _ _ h => h) ?_
     refine G.sr fun K19 hK20 => ?_
     refine GL.r 2 2 [(2, .slice B i y)] ?_
     refine GL.q hK20 ?_
     refine G.ret fun F_ hF_ hM_ => hRet _ _ (bodyPost_1 rfl (RV.tmp rfl) ?_ F_ hF_ hM_)
     have hV1 : a / 2 ^ i = 0 := by rw [← hV]; exact hV0
     have ebl : bl a = i := Nat.le_antisymm (bl_end hV1) hib
     have HF := H13
     rw [bits_done hib hV1, ← ebl] at HF
     rw [← ebl]
     exact ⟨_, _, rfl, HF⟩
   · skip
     have hb18f := of_decide_eq_true hb18
     have hV0 : V ≠ 0 := ndg_pos.1 (by omega)
     have hib2 : i < bl a := bl_more (by rw [← hV]; exact hV0)
     refine G.yes rfl ?_
     refine G.skipK hK15 (fun _ _ h => h) ?_
     refine G.block ?_
     refine G.sr fun K21 hK22 => ?_
     refine GL.r 1 1 [(0, .slice Z (ndg V) z), (3, .slice B i y)] ?_
     refine GL.q hK22 ?_
     refine G.sr fun K23 hK24 => ?_
     refine GL.r 1 1 [(3, .slice B i y), (10, .slice Z (ndg V) z)] ?_
     refine GL.call (j := 2) (HalfN_calls V Z z w11 (hrd.hp H13) (by omega)) (by kernel_rfl) rfl (fun e_ w29 hR => ?_)
     obtain ⟨A25, c26, rfl, H28⟩ := hR
     have H27 : Hp w [] [.row B i y 31 1 (dg ((List.range i).map fun j => a / 2 ^ j % 2)), .row A25 (ndg (V / 2)) c26 31 1 (dg (digs (V / 2)))] w29 := H13.callNew H28
     refine ⟨_, rfl, [3, 11], [(3, .slice B i y), (11, .tuple #[.slice A25 (ndg (V / 2)) c26, vu (V % 2)])], by kernel_rfl, ?_⟩
     refine GL.r 7 5 [(0, .slice A25 (ndg (V / 2)) c26), (3, .slice B i y), (4, vu (V % 2))] ?_
     refine GL.q hK24 ?_
     refine G.region ?_
     refine GL.r 2 2 [(0, .slice A25 (ndg (V / 2)) c26), (14, .slice B i y), (15, vu (V % 2))] ?_
     obtain ⟨p30, w31, r32, H33⟩ := H27.madeRow (P := Try.prog) (Instr.buildSlice 34 1 #[(0, vu (V % 2))]) (fun b_ => .slice (some ⟨b_, 0, none⟩) 1 1) [vu (V % 2)] 31 1 1 1 (by kernel_rfl) (by decide) (by decide) rfl
     refine GL.s 3 (r32) [(0, .slice A25 (ndg (V / 2)) c26), (14, .slice B i y), (16, .slice (some ⟨p30, 0, none⟩) 1 1)] ?_
     obtain ⟨A34, c35, w36, r37, H38⟩ := H33.append (P := Try.prog) (e := 31) (sz := 1) (by_ := 8) (n := i) (c := y) (m := 1) (d := 1) (t := 34) (ty := 34) (xs := dg ((List.range i).map fun j => a / 2 ^ j % 2)) (news := dg [(V % 2)]) 0 rfl (by kernel_rfl) (H33.rdRow 2 rfl) (by simp [dg_length]) (dg_one _) (by omega) (by simp only [maxLen]; omega)
     rw [← dg_append] at H38
     refine GL.s 4 (r37) [(0, .slice A25 (ndg (V / 2)) c26), (17, .slice A34 (i + 1) c35)] ?_
     refine GL.r 5 1 [(0, .slice A25 (ndg (V / 2)) c26), (3, .slice A34 (i + 1) c35)] ?_
     have H39 : Hp w [] [.row A34 (i + 1) c35 31 1 (dg (((List.range i).map fun j => a / 2 ^ j % 2) ++ [(V % 2)])), .row A25 (ndg (V / 2)) c26 31 1 (dg (digs (V / 2)))] w36 := H38.sub (List.Sublist.cons_cons _ (List.Sublist.cons_cons _ (List.Sublist.cons _ (List.Sublist.slnil))))
     have eb : ((List.range i).map fun j => a / 2 ^ j % 2) ++ [(V % 2)] = ((List.range (i + 1)).map fun j => a / 2 ^ j % 2) := by rw [hV]; exact bits_next a i
     have H40 : Hp w [] [.row A34 (i + 1) c35 31 1 (dg ((List.range (i + 1)).map fun j => a / 2 ^ j % 2)), .row A25 (ndg (V / 2)) c26 31 1 (dg (digs (V / 2)))] w36 := by rw [← eb]; exact H39
     have H41 : Hp w [] [.row A34 (i + 1) c35 31 1 (dg ((List.range (i + 1)).map fun j => a / 2 ^ j % 2))] w36 := H40.sub (List.Sublist.cons_cons _ (List.Sublist.cons _ (List.Sublist.slnil)))
     exact GL.againB ⟨(i + 1), (V / 2), A25, c26, A34, c35⟩ [0, 3] rfl (by kernel_rfl) (by show bl a - (i + 1) < bl a - i; omega) ⟨⟨by omega, by rw [hV, half_pow], Nat.le_trans (ndg_mono (Nat.div_le_self _ _)) hVn, .inr H40⟩, H41⟩
 · skip
   have H42 : Hp w [] [.row B i y 31 1 (dg ((List.range i).map fun j => a / 2 ^ j % 2)), .row Z (ndg V) z 31 1 (dg (digs V))] w11 := hrd
   refine G.seqK fun K43 hK44 => ?_
   refine G.sr fun K45 hK46 => ?_
   refine GL.r 3 3 [(0, .slice Z (ndg V) z), (3, .slice B i y), (8, .bool (decide (0 < (((ndg V) : Nat) : Int))))] ?_
   refine GL.q hK46 ?_
   cases hb47 : (decide (0 < (((ndg V) : Nat) : Int)))
   · skip
     have hb47f := of_decide_eq_false hb47
     have hV0 : V = 0 := by have := @ndg_pos V; omega
     refine G.no rfl ?_
     refine G.exitK hK10 (fun _ _ h => h) ?_
     refine G.sr fun K48 hK49 => ?_
     refine GL.r 2 2 [(2, .slice B i y)] ?_
     refine GL.q hK49 ?_
     refine G.ret fun F_ hF_ hM_ => hRet _ _ (bodyPost_1 rfl (RV.tmp rfl) ?_ F_ hF_ hM_)
     have H50 : Hp w [] [.row B i y 31 1 (dg ((List.range i).map fun j => a / 2 ^ j % 2))] w11 := H42.sub (List.Sublist.cons_cons _ (List.Sublist.cons _ (List.Sublist.slnil)))
     have hV1 : a / 2 ^ i = 0 := by rw [← hV]; exact hV0
     have ebl : bl a = i := Nat.le_antisymm (bl_end hV1) hib
     have HF := H50
     rw [bits_done hib hV1, ← ebl] at HF
     rw [← ebl]
     exact ⟨_, _, rfl, HF⟩
   · skip
     have hb47f := of_decide_eq_true hb47
     have hV0 : V ≠ 0 := ndg_pos.1 (by omega)
     have hib2 : i < bl a := bl_more (by rw [← hV]; exact hV0)
     refine G.yes rfl ?_
     refine G.skipK hK44 (fun _ _ h => h) ?_
     refine G.block ?_
     refine G.sr fun K51 hK52 => ?_
     refine GL.r 1 1 [(0, .slice Z (ndg V) z), (3, .slice B i y)] ?_
     refine GL.q hK52 ?_
     refine G.sr fun K53 hK54 => ?_
     refine GL.r 1 1 [(3, .slice B i y), (10, .slice Z (ndg V) z)] ?_
     refine GL.call (j := 2) (HalfN_calls V Z z w11 (H42.rdRow 1 rfl) (by omega)) (by kernel_rfl) rfl (fun e_ w59 hR => ?_)
     obtain ⟨A55, c56, rfl, H58⟩ := hR
     have H57 : Hp w [] [.row B i y 31 1 (dg ((List.range i).map fun j => a / 2 ^ j % 2)), .row Z (ndg V) z 31 1 (dg (digs V)), .row A55 (ndg (V / 2)) c56 31 1 (dg (digs (V / 2)))] w59 := H42.callNew H58
     refine ⟨_, rfl, [3, 11], [(3, .slice B i y), (11, .tuple #[.slice A55 (ndg (V / 2)) c56, vu (V % 2)])], by kernel_rfl, ?_⟩
     refine GL.r 7 5 [(0, .slice A55 (ndg (V / 2)) c56), (3, .slice B i y), (4, vu (V % 2))] ?_
     refine GL.q hK54 ?_
     refine G.region ?_
     refine GL.r 2 2 [(0, .slice A55 (ndg (V / 2)) c56), (14, .slice B i y), (15, vu (V % 2))] ?_
     obtain ⟨p60, w61, r62, H63⟩ := H57.madeRow (P := Try.prog) (Instr.buildSlice 34 1 #[(0, vu (V % 2))]) (fun b_ => .slice (some ⟨b_, 0, none⟩) 1 1) [vu (V % 2)] 31 1 1 1 (by kernel_rfl) (by decide) (by decide) rfl
     refine GL.s 3 (r62) [(0, .slice A55 (ndg (V / 2)) c56), (14, .slice B i y), (16, .slice (some ⟨p60, 0, none⟩) 1 1)] ?_
     obtain ⟨A64, c65, w66, r67, H68⟩ := H63.append (P := Try.prog) (e := 31) (sz := 1) (by_ := 8) (n := i) (c := y) (m := 1) (d := 1) (t := 34) (ty := 34) (xs := dg ((List.range i).map fun j => a / 2 ^ j % 2)) (news := dg [(V % 2)]) 0 rfl (by kernel_rfl) (H63.rdRow 3 rfl) (by simp [dg_length]) (dg_one _) (by omega) (by simp only [maxLen]; omega)
     rw [← dg_append] at H68
     refine GL.s 4 (r67) [(0, .slice A55 (ndg (V / 2)) c56), (17, .slice A64 (i + 1) c65)] ?_
     refine GL.r 5 1 [(0, .slice A55 (ndg (V / 2)) c56), (3, .slice A64 (i + 1) c65)] ?_
     have H69 : Hp w [] [.row A64 (i + 1) c65 31 1 (dg (((List.range i).map fun j => a / 2 ^ j % 2) ++ [(V % 2)])), .row A55 (ndg (V / 2)) c56 31 1 (dg (digs (V / 2)))] w66 := H68.sub (List.Sublist.cons_cons _ (List.Sublist.cons _ (List.Sublist.cons_cons _ (List.Sublist.cons _ (List.Sublist.slnil)))))
     have eb : ((List.range i).map fun j => a / 2 ^ j % 2) ++ [(V % 2)] = ((List.range (i + 1)).map fun j => a / 2 ^ j % 2) := by rw [hV]; exact bits_next a i
     have H70 : Hp w [] [.row A64 (i + 1) c65 31 1 (dg ((List.range (i + 1)).map fun j => a / 2 ^ j % 2)), .row A55 (ndg (V / 2)) c56 31 1 (dg (digs (V / 2)))] w66 := by rw [← eb]; exact H69
     have H71 : Hp w [] [.row A64 (i + 1) c65 31 1 (dg ((List.range (i + 1)).map fun j => a / 2 ^ j % 2))] w66 := H70.sub (List.Sublist.cons_cons _ (List.Sublist.cons _ (List.Sublist.slnil)))
     exact GL.againB ⟨(i + 1), (V / 2), A55, c56, A64, c65⟩ [0, 3] rfl (by kernel_rfl) (by show bl a - (i + 1) < bl a - i; omega) ⟨⟨by omega, by rw [hV, half_pow], Nat.le_trans (ndg_mono (Nat.div_le_self _ _)) hVn, .inr H70⟩, H71⟩
theorem FromBitsN_calls (ls : List Nat) (n : Nat) (hn : n = ls.length) (A : Option Addr) (c : Nat) (w : World) (hr : RdS w A (dg ls)) (hl : ls.length ≤ 20000) : Calls Try.prog 49 #[.slice A n c] w fun e w' => ∃ A c, e = .returned ((.slice A (ndg (bval ls)) c)) ∧ Hp w [] [.row A (ndg (bval ls)) c 31 1 (dg (digs (bval ls)))] w' := by
 subst hn
 have hMX : MX = 4611686018427387904 := rfl
 have hK0 : K = 18446744073709551616 := rfl
 have hK40 : K4 = 115792089237316195423570985008687907853269984665640564039457584007913129639936 := rfl
 refine calls_G (args := [.slice A ls.length c]) Try.func49 rfl Try.ntmps49 rfl ?_
 intro Q0 hRet hNor hPan
 have H := Hp.start w
 refine G.sr fun K1 hK2 => ?_
 refine GL.r 1 1 [(0, .slice A ls.length c)] ?_
 refine GL.q hK2 ?_
 refine G.sr fun K3 hK4 => ?_
 obtain ⟨p5, w6, r7, H8⟩ := H.madeRow (P := Try.prog) (Instr.buildSlice 35 0 #[]) (fun b_ => .slice (some ⟨b_, 0, none⟩) 0 0) [] 31 0 0 1 (by kernel_rfl) (by decide) (by decide) rfl
 refine GL.s 1 (r7) [(0, .slice A ls.length c), (5, .slice (some ⟨p5, 0, none⟩) 0 0)] ?_
 refine GL.r 2 1 [(0, .slice A ls.length c), (3, .slice (some ⟨p5, 0, none⟩) 0 0)] ?_
 refine GL.q hK4 ?_
 refine G.seqK fun K9 hK10 => ?_
 refine G.sr fun K11 hK12 => ?_
 refine GL.r 4 4 [(0, .slice A ls.length c), (3, .slice (some ⟨p5, 0, none⟩) 0 0), (4, li (IntKind.i64.wrap ((ls.length : Int) - 1)))] ?_
 have e13 : (IntKind.i64.wrap ((ls.length : Int) - 1)) = ((ls.length : Int) - 1) := in_i64 (by omega)
 rw [e13]
 clear e13
 refine GL.q hK12 ?_
 refine G.block ?_
 refine G.fit [0, 3, 4] (M' := [(0, .slice A ls.length c), (3, .slice (some ⟨p5, 0, none⟩) 0 0), (4, li ((ls.length : Int) - 1))]) (by kernel_rfl) ?_
 refine G.eq (M' := [(0, .slice A ls.length c), (3, .slice (some ⟨p5, 0, none⟩) (ndg 0) 0), (4, li (((ls.length : Nat) : Int) - 1))]) (by rfl) ?_
 refine G.loop (X := Nat × Nat × Option Addr × Nat) (fun ⟨m, V, Z, z⟩ => [(0, .slice A ls.length c), (3, .slice Z (ndg V) z), (4, li (((m : Nat) : Int) - 1))]) (fun ⟨m, V, Z, z⟩ w_ => (m ≤ ls.length ∧ V = bval (ls.drop m)) ∧ Hp w [] [.row Z (ndg V) z 31 1 (dg (digs V))] w_) (fun ⟨m, V, Z, z⟩ => m) ⟨ls.length, 0, (some ⟨p5, 0, none⟩), 0⟩ [0, 3, 4] (by kernel_rfl) ⟨⟨Nat.le_refl _, by rw [List.drop_length]; rfl⟩, H8⟩ ?_
 rintro ⟨m, V, Z, z⟩ w14 ⟨hi15, H16⟩
 refine G.eq (M' := [(0, .slice A ls.length c), (3, .slice Z (ndg V) z), (4, li (((m : Nat) : Int) - 1))]) rfl ?_
 obtain ⟨hml, hV⟩ := hi15
 have nV : ndg V ≤ 20000 := by rw [hV]; exact Nat.le_trans (ndg_bval _) (by rw [List.length_drop]; omega)
 have n2 : ndg (V + V) ≤ 20001 := Nat.le_trans (ndg_two_mul (b := V) (by omega)) (by omega)
 refine G.seqK fun K17 hK18 => ?_
 refine G.sr fun K19 hK20 => ?_
 refine GL.r 2 2 [(0, .slice A ls.length c), (3, .slice Z (ndg V) z), (4, li (((m : Nat) : Int) - 1)), (10, .bool (decide (0 ≤ (((m : Nat) : Int) - 1))))] ?_
 refine GL.q hK20 ?_
 cases hb21 : (decide (0 ≤ (((m : Nat) : Int) - 1)))
 · skip
   have hb21f := of_decide_eq_false hb21
   have hm0 : m = 0 := by omega
   refine G.no rfl ?_
   refine G.exitK hK10 (fun _ _ h => h) ?_
   refine G.sr fun K22 hK23 => ?_
   refine GL.r 2 2 [(2, .slice Z (ndg V) z)] ?_
   refine GL.q hK23 ?_
   refine G.ret fun F_ hF_ hM_ => hRet _ _ (bodyPost_1 rfl (RV.tmp rfl) ?_ F_ hF_ hM_)
   rw [hm0, List.drop_zero] at hV
   rw [← hV]
   exact ⟨_, _, rfl, H16⟩
 · skip
   have hb21f := of_decide_eq_true hb21
   have hm0 : 0 < m := by omega
   have ei : (((m : Nat) : Int) - 1) = ((m - 1 : Nat) : Int) := by omega
   refine G.eq (M' := [(0, .slice A ls.length c), (3, .slice Z (ndg V) z), (4, vi (m - 1)), (10, .bool true)]) (by rw [ei]) ?_
   refine G.yes rfl ?_
   refine G.skipK hK18 (fun _ _ h => h) ?_
   refine G.seqK fun K24 hK25 => ?_
   refine G.block ?_
   refine G.sr fun K26 hK27 => ?_
   refine GL.r 2 2 [(0, .slice A ls.length c), (4, vi (m - 1)), (13, .slice Z (ndg V) z), (14, .slice Z (ndg V) z)] ?_
   refine GL.call (j := 3) (AddN_calls V V Z z Z z w14 (H16.rdRow 0 rfl) (H16.rdRow 0 rfl) (by omega) (by omega)) (by kernel_rfl) rfl (fun e_ w32 hR => ?_)
   obtain ⟨A28, c29, rfl, H31⟩ := hR
   have H30 : Hp w [] [.row Z (ndg V) z 31 1 (dg (digs V)), .row A28 (ndg (V + V)) c29 31 1 (dg (digs (V + V)))] w32 := H16.callNew H31
   refine ⟨_, rfl, [0, 4, 15], [(0, .slice A ls.length c), (4, vi (m - 1)), (15, .slice A28 (ndg (V + V)) c29)], by kernel_rfl, ?_⟩
   refine GL.r 4 1 [(0, .slice A ls.length c), (3, .slice A28 (ndg (V + V)) c29), (4, vi (m - 1))] ?_
   refine GL.q hK27 ?_
   refine G.sr fun K33 hK34 => ?_
   refine GL.r 2 2 [(0, .slice A ls.length c), (3, .slice A28 (ndg (V + V)) c29), (4, vi (m - 1)), (16, .slice A ls.length c), (17, vi (m - 1))] ?_
   refine GL.s 3 (run_idxRd (P := Try.prog) (k := .i64) (t := 34) (A := A) (len := ls.length) (cap := c) (j := m - 1) (by kernel_rfl) rfl (hr.hp H30) (by first | exact dg_length _ | rw [dg_length]; first | rfl | assumption | (symm; assumption) | (simp; done) | (rw [List.length_take]; omega) | omega) (by first | rfl | omega | (simp only [List.length_cons, List.length_nil, List.length_drop, List.length_take, List.length_append] <;> omega))) [(0, .slice A ls.length c), (3, .slice A28 (ndg (V + V)) c29), (4, vi (m - 1)), (18, .pointer (Option.map (fun x => Addr.add x (m - 1)) A))] ?_
   obtain ⟨d35, hd36⟩ : ∃ d : Nat, (ls)[m - 1]? = some d := ⟨_, List.getElem?_eq_getElem (by omega)⟩
   have hdx := hd36
   refine GL.s 4 (run_ldRd (P := Try.prog) (ty := 31) (A := A) (j := m - 1) (v := vu d35) (by kernel_rfl) (hr.hp H30) (dg_at hd36)) [(0, .slice A ls.length c), (3, .slice A28 (ndg (V + V)) c29), (4, vi (m - 1)), (19, vu d35)] ?_
   refine GL.r 5 1 [(0, .slice A ls.length c), (3, .slice A28 (ndg (V + V)) c29), (4, vi (m - 1)), (20, .bool ((d35 : Int) == 1))] ?_
   refine GL.q hK34 ?_
   cases hb37 : ((d35 : Int) == 1)
   · skip
     have hb37f := ne_of_beq_false hb37
     refine G.no rfl ?_
     refine G.skipK hK25 (fun _ _ h => h) ?_
     refine G.region ?_
     refine GL.r 3 3 [(0, .slice A ls.length c), (3, .slice A28 (ndg (V + V)) c29), (4, li (IntKind.i64.wrap (((m - 1 : Nat) : Int) - 1)))] ?_
     have e38 : (IntKind.i64.wrap (((m - 1 : Nat) : Int) - 1)) = (((m - 1 : Nat) : Int) - 1) := in_i64 (by omega)
     rw [e38]
     clear e38
     have H39 : Hp w [] [.row A28 (ndg (V + V)) c29 31 1 (dg (digs (V + V)))] w32 := H30.sub (List.Sublist.cons _ (List.Sublist.cons_cons _ (List.Sublist.slnil)))
     refine GL.fit (ts := [0, 3, 4]) (M' := [(0, .slice A ls.length c), (3, .slice A28 (ndg (V + V)) c29), (4, li (((m - 1 : Nat) : Int) - 1))]) (by kernel_rfl) ?_
     refine GL.eq (M' := [(0, .slice A ls.length c), (3, .slice A28 (ndg (V + V)) c29), (4, li ((((m - 1) : Nat) : Int) - 1))]) (by rfl) ?_
     exact GL.again ⟨(m - 1), (V + V), A28, c29⟩ [0, 3, 4] rfl (by kernel_rfl) (by show (m - 1) < m; omega) ⟨⟨by omega, by rw [bval_drop hm0 hdx, ← hV, if_neg (by omega)]; omega⟩, H39⟩
   · skip
     have hb37f := eq_of_beq hb37
     refine G.yes rfl ?_
     refine G.region ?_
     refine GL.r 1 1 [(0, .slice A ls.length c), (4, vi (m - 1)), (21, .slice A28 (ndg (V + V)) c29)] ?_
     obtain ⟨p40, w41, r42, H43⟩ := H30.madeRow (P := Try.prog) (Instr.buildSlice 35 1 #[(0, lu 1)]) (fun b_ => .slice (some ⟨b_, 0, none⟩) 1 1) [lu 1] 31 1 1 1 (by kernel_rfl) (by decide) (by decide) rfl
     refine GL.s 2 (r42) [(0, .slice A ls.length c), (4, vi (m - 1)), (21, .slice A28 (ndg (V + V)) c29), (22, .slice (some ⟨p40, 0, none⟩) 1 1)] ?_
     refine GL.call (j := 3) (AddN_calls (V + V) 1 A28 c29 (some ⟨p40, 0, none⟩) 1 w41 (H43.rdRow 1 rfl) (H43.rdRow 2 rfl) (by omega) (by decide)) (by kernel_rfl) rfl (fun e_ w48 hR => ?_)
     obtain ⟨A44, c45, rfl, H47⟩ := hR
     have H46 : Hp w [] [.row Z (ndg V) z 31 1 (dg (digs V)), .row A28 (ndg (V + V)) c29 31 1 (dg (digs (V + V))), .row (some ⟨p40, 0, none⟩) 1 1 31 1 (dg [1]), .row A44 (ndg ((V + V) + 1)) c45 31 1 (dg (digs ((V + V) + 1)))] w48 := H43.callNew H47
     refine ⟨_, rfl, [0, 4, 23], [(0, .slice A ls.length c), (4, vi (m - 1)), (23, .slice A44 (ndg ((V + V) + 1)) c45)], by kernel_rfl, ?_⟩
     refine GL.r 4 1 [(0, .slice A ls.length c), (3, .slice A44 (ndg ((V + V) + 1)) c45), (4, vi (m - 1))] ?_
     refine GL.q hK25 ?_
     refine G.region ?_
     refine GL.r 3 3 [(0, .slice A ls.length c), (3, .slice A44 (ndg ((V + V) + 1)) c45), (4, li (IntKind.i64.wrap (((m - 1 : Nat) : Int) - 1)))] ?_
     have e49 : (IntKind.i64.wrap (((m - 1 : Nat) : Int) - 1)) = (((m - 1 : Nat) : Int) - 1) := in_i64 (by omega)
     rw [e49]
     clear e49
     have H50 : Hp w [] [.row A44 (ndg ((V + V) + 1)) c45 31 1 (dg (digs ((V + V) + 1)))] w48 := H46.sub (List.Sublist.cons _ (List.Sublist.cons _ (List.Sublist.cons _ (List.Sublist.cons_cons _ (List.Sublist.slnil)))))
     refine GL.fit (ts := [0, 3, 4]) (M' := [(0, .slice A ls.length c), (3, .slice A44 (ndg ((V + V) + 1)) c45), (4, li (((m - 1 : Nat) : Int) - 1))]) (by kernel_rfl) ?_
     refine GL.eq (M' := [(0, .slice A ls.length c), (3, .slice A44 (ndg ((V + V) + 1)) c45), (4, li ((((m - 1) : Nat) : Int) - 1))]) (by rfl) ?_
     exact GL.again ⟨(m - 1), ((V + V) + 1), A44, c45⟩ [0, 3, 4] rfl (by kernel_rfl) (by show (m - 1) < m; omega) ⟨⟨by omega, by rw [bval_drop hm0 hdx, ← hV, if_pos (by omega)]; omega⟩, H50⟩
theorem DivN_calls (a b : Nat) (A : Option Addr) (c : Nat) (B : Option Addr) (d : Nat) (w : World) (hr : RdS w A (dg (digs a))) (hs : RdS w B (dg (digs b))) (hna : ndg a ≤ 1000) (hnb : ndg b ≤ 50000) (hb0 : b ≠ 0) : Calls Try.prog 27 #[.slice A (ndg a) c, .slice B (ndg b) d] w fun e w' => ∃ A c B d, e = .returned (.tuple #[.slice A (ndg (a / b)) c, .slice B (ndg (a % b)) d]) ∧ Hp w [] [.row B (ndg (a % b)) d 31 1 (dg (digs (a % b))), .row A (ndg (a / b)) c 31 1 (dg (digs (a / b)))] w' := by
 have hMX : MX = 4611686018427387904 := rfl
 have hK0 : K = 18446744073709551616 := rfl
 have hK40 : K4 = 115792089237316195423570985008687907853269984665640564039457584007913129639936 := rfl
 have hbl := ndg_bl hna
 refine calls_G (args := [.slice A (ndg a) c, .slice B (ndg b) d]) Try.func27 rfl Try.ntmps27 rfl ?_
 intro Q0 hRet hNor hPan
 have H := Hp.start w
 refine G.sr fun K1 hK2 => ?_
 refine GL.r 2 2 [(0, .slice A (ndg a) c), (1, .slice B (ndg b) d)] ?_
 refine GL.q hK2 ?_
 refine G.sr fun K3 hK4 => ?_
 refine GL.r 1 1 [(1, .slice B (ndg b) d), (10, .slice A (ndg a) c)] ?_
 refine GL.call (j := 2) (BitsN_calls a A c w (hr.hp H) (by omega)) (by kernel_rfl) rfl (fun e_ w9 hR => ?_)
 obtain ⟨A5, c6, rfl, H8⟩ := hR
 have H7 : Hp w [] [.row A5 (bl a) c6 31 1 (dg (bitsL a))] w9 := H.callNew H8
 refine ⟨_, rfl, [1, 11], [(1, .slice B (ndg b) d), (11, .slice A5 (bl a) c6)], by kernel_rfl, ?_⟩
 refine GL.r 3 1 [(1, .slice B (ndg b) d), (6, .slice A5 (bl a) c6)] ?_
 refine GL.q hK4 ?_
 refine G.sr fun K10 hK11 => ?_
 refine GL.r 2 2 [(1, .slice B (ndg b) d), (6, .slice A5 (bl a) c6), (13, vi (bl a))] ?_
 obtain ⟨p12, w13, r14, H15⟩ := H7.makeD (P := Try.prog) (t := 34) (e := 31) (n := (bl a)) (kl := .i64) (kc := .i64) (by kernel_rfl) (by omega)
 refine GL.s 3 (r14) [(1, .slice B (ndg b) d), (6, .slice A5 (bl a) c6), (14, .slice (some ⟨p12, 0, none⟩) (bl a) (bl a))] ?_
 refine GL.r 4 1 [(1, .slice B (ndg b) d), (6, .slice A5 (bl a) c6), (7, .slice (some ⟨p12, 0, none⟩) (bl a) (bl a))] ?_
 refine GL.q hK11 ?_
 refine G.sr fun K16 hK17 => ?_
 obtain ⟨p18, w19, r20, H21⟩ := H15.madeRow (P := Try.prog) (Instr.buildSlice 35 0 #[]) (fun b_ => .slice (some ⟨b_, 0, none⟩) 0 0) [] 31 0 0 1 (by kernel_rfl) (by decide) (by decide) rfl
 refine GL.s 1 (r20) [(1, .slice B (ndg b) d), (6, .slice A5 (bl a) c6), (7, .slice (some ⟨p12, 0, none⟩) (bl a) (bl a)), (15, .slice (some ⟨p18, 0, none⟩) 0 0)] ?_
 refine GL.r 2 1 [(1, .slice B (ndg b) d), (6, .slice A5 (bl a) c6), (7, .slice (some ⟨p12, 0, none⟩) (bl a) (bl a)), (8, .slice (some ⟨p18, 0, none⟩) 0 0)] ?_
 refine GL.q hK17 ?_
 refine G.seqK fun K22 hK23 => ?_
 refine G.sr fun K24 hK25 => ?_
 refine GL.r 4 4 [(1, .slice B (ndg b) d), (6, .slice A5 (bl a) c6), (7, .slice (some ⟨p12, 0, none⟩) (bl a) (bl a)), (8, .slice (some ⟨p18, 0, none⟩) 0 0), (9, li (IntKind.i64.wrap ((((bl a) : Nat) : Int) - 1)))] ?_
 have e26 : (IntKind.i64.wrap ((((bl a) : Nat) : Int) - 1)) = ((((bl a) : Nat) : Int) - 1) := in_i64 (by omega)
 rw [e26]
 clear e26
 refine GL.q hK25 ?_
 refine G.block ?_
 refine G.fit [1, 6, 7, 8, 9] (M' := [(1, .slice B (ndg b) d), (6, .slice A5 (bl a) c6), (7, .slice (some ⟨p12, 0, none⟩) (bl a) (bl a)), (8, .slice (some ⟨p18, 0, none⟩) 0 0), (9, li ((((bl a) : Nat) : Int) - 1))]) (by kernel_rfl) ?_
 refine G.eq (M' := [(1, .slice B (ndg b) d), (6, .slice A5 (bl a) c6), (7, .slice (some ⟨p12, 0, none⟩) (bl a) (bl a)), (8, .slice (some ⟨p18, 0, none⟩) (ndg 0) 0), (9, li ((((bl a) : Nat) : Int) - 1))]) (by rfl) ?_
 refine G.loop (X := Nat × List Nat × Nat × Option Addr × Nat) (fun ⟨m, qs, R, Z, z⟩ => [(1, .slice B (ndg b) d), (6, .slice A5 (bl a) c6), (7, .slice (some ⟨p12, 0, none⟩) (bl a) (bl a)), (8, .slice Z (ndg R) z), (9, li (((m : Nat) : Int) - 1))]) (fun ⟨m, qs, R, Z, z⟩ w_ => (m ≤ bl a ∧ qs.length = bl a ∧ R = a / 2 ^ m % b ∧ bval qs = a / 2 ^ m / b * 2 ^ m ∧ (∀ k, k < m → qs[k]? = some 0)) ∧ Hp w [] [.row A5 (bl a) c6 31 1 (dg (bitsL a)), .row (some ⟨p12, 0, none⟩) (bl a) (bl a) 31 1 (dg qs), .row Z (ndg R) z 31 1 (dg (digs R))] w_) (fun ⟨m, qs, R, Z, z⟩ => m) ⟨(bl a), (List.replicate (bl a) 0), 0, (some ⟨p18, 0, none⟩), 0⟩ [1, 6, 7, 8, 9] (by kernel_rfl) ⟨⟨Nat.le_refl _, by simp, by rw [Nat.div_eq_of_lt (bl_lt a), Nat.zero_mod], by rw [bval_zeros, Nat.div_eq_of_lt (bl_lt a), Nat.zero_div, Nat.zero_mul], zeros_get _⟩, H21⟩ ?_
 rintro ⟨m, qs, R, Z, z⟩ w27 ⟨hi28, H29⟩
 refine G.eq (M' := [(1, .slice B (ndg b) d), (6, .slice A5 (bl a) c6), (7, .slice (some ⟨p12, 0, none⟩) (bl a) (bl a)), (8, .slice Z (ndg R) z), (9, li (((m : Nat) : Int) - 1))]) rfl ?_
 obtain ⟨hml, hql, hR, hqv, hz⟩ := hi28
 have hRb : R < b := by rw [hR]; exact Nat.mod_lt _ (by omega)
 have nR : ndg R ≤ 50000 := Nat.le_trans (ndg_mono (b := b) (by omega)) hnb
 have n2 : ndg (R + R) ≤ 50001 := Nat.le_trans (ndg_two_mul (b := R) (by omega)) (by omega)
 have n3 : ndg ((R + R) + 1) ≤ 50001 := Nat.le_trans (ndg_two_mul (b := R) (by omega)) (by omega)
 refine G.seqK fun K30 hK31 => ?_
 refine G.sr fun K32 hK33 => ?_
 refine GL.r 2 2 [(1, .slice B (ndg b) d), (6, .slice A5 (bl a) c6), (7, .slice (some ⟨p12, 0, none⟩) (bl a) (bl a)), (8, .slice Z (ndg R) z), (9, li (((m : Nat) : Int) - 1)), (20, .bool (decide (0 ≤ (((m : Nat) : Int) - 1))))] ?_
 refine GL.q hK33 ?_
 cases hb34 : (decide (0 ≤ (((m : Nat) : Int) - 1)))
 · skip
   have hb34f := of_decide_eq_false hb34
   have hm0 : m = 0 := by omega
   refine G.no rfl ?_
   refine G.exitK hK23 (fun _ _ h => h) ?_
   refine G.sr fun K35 hK36 => ?_
   refine GL.r 1 1 [(8, .slice Z (ndg R) z), (44, .slice (some ⟨p12, 0, none⟩) (bl a) (bl a))] ?_
   have hval : bval qs = a / b := by rw [hqv, hm0, Nat.pow_zero, Nat.div_one, Nat.mul_one]
   refine GL.call (j := 2) (FromBitsN_calls qs (bl a) (hql.symm) (some ⟨p12, 0, none⟩) (bl a) w27 (H29.rdRow 1 rfl) (by omega)) (by kernel_rfl) rfl (fun e_ w41 hR => ?_)
   obtain ⟨A37, c38, rfl, H40⟩ := hR
   rw [hval] at H40
   rw [hval]
   have H39 : Hp w [] [.row A5 (bl a) c6 31 1 (dg (bitsL a)), .row (some ⟨p12, 0, none⟩) (bl a) (bl a) 31 1 (dg qs), .row Z (ndg R) z 31 1 (dg (digs R)), .row A37 (ndg (a / b)) c38 31 1 (dg (digs (a / b)))] w41 := H29.callNew H40
   refine ⟨_, rfl, [8, 45], [(8, .slice Z (ndg R) z), (45, .slice A37 (ndg (a / b)) c38)], by kernel_rfl, ?_⟩
   refine GL.r 5 3 [(4, .slice A37 (ndg (a / b)) c38), (5, .slice Z (ndg R) z)] ?_
   refine GL.q hK36 ?_
   refine G.ret fun F_ hF_ hM_ => hRet _ _ (bodyPost_2 rfl (RV.tmp rfl) (RV.tmp rfl) ?_ F_ hF_ hM_)
   have hRR : R = a % b := by rw [hR, hm0, Nat.pow_zero, Nat.div_one]
   have H42 : Hp w [] [.row Z (ndg R) z 31 1 (dg (digs R)), .row A37 (ndg (a / b)) c38 31 1 (dg (digs (a / b)))] w41 := H39.sub (List.Sublist.cons _ (List.Sublist.cons _ (List.Sublist.cons_cons _ (List.Sublist.cons_cons _ (List.Sublist.slnil)))))
   rw [← hRR]
   exact ⟨_, _, _, _, rfl, H42⟩
 · skip
   have hb34f := of_decide_eq_true hb34
   have hm0 : 0 < m := by omega
   have ei : (((m : Nat) : Int) - 1) = ((m - 1 : Nat) : Int) := by omega
   refine G.eq (M' := [(1, .slice B (ndg b) d), (6, .slice A5 (bl a) c6), (7, .slice (some ⟨p12, 0, none⟩) (bl a) (bl a)), (8, .slice Z (ndg R) z), (9, vi (m - 1)), (20, .bool true)]) (by rw [ei]) ?_
   have h0 := hz (m - 1) (by omega)
   refine G.yes rfl ?_
   refine G.skipK hK31 (fun _ _ h => h) ?_
   refine G.seqK fun K43 hK44 => ?_
   refine G.block ?_
   refine G.sr fun K45 hK46 => ?_
   refine GL.r 2 2 [(1, .slice B (ndg b) d), (6, .slice A5 (bl a) c6), (7, .slice (some ⟨p12, 0, none⟩) (bl a) (bl a)), (9, vi (m - 1)), (23, .slice Z (ndg R) z), (24, .slice Z (ndg R) z)] ?_
   refine GL.call (j := 3) (AddN_calls R R Z z Z z w27 (H29.rdRow 2 rfl) (H29.rdRow 2 rfl) (by omega) (by omega)) (by kernel_rfl) rfl (fun e_ w51 hR => ?_)
   obtain ⟨A47, c48, rfl, H50⟩ := hR
   have H49 : Hp w [] [.row A5 (bl a) c6 31 1 (dg (bitsL a)), .row (some ⟨p12, 0, none⟩) (bl a) (bl a) 31 1 (dg qs), .row Z (ndg R) z 31 1 (dg (digs R)), .row A47 (ndg (R + R)) c48 31 1 (dg (digs (R + R)))] w51 := H29.callNew H50
   refine ⟨_, rfl, [1, 6, 7, 9, 25], [(1, .slice B (ndg b) d), (6, .slice A5 (bl a) c6), (7, .slice (some ⟨p12, 0, none⟩) (bl a) (bl a)), (9, vi (m - 1)), (25, .slice A47 (ndg (R + R)) c48)], by kernel_rfl, ?_⟩
   refine GL.r 4 1 [(1, .slice B (ndg b) d), (6, .slice A5 (bl a) c6), (7, .slice (some ⟨p12, 0, none⟩) (bl a) (bl a)), (8, .slice A47 (ndg (R + R)) c48), (9, vi (m - 1))] ?_
   refine GL.q hK46 ?_
   refine G.seqK fun K52 hK53 => ?_
   refine G.sr fun K54 hK55 => ?_
   refine GL.r 2 2 [(1, .slice B (ndg b) d), (6, .slice A5 (bl a) c6), (7, .slice (some ⟨p12, 0, none⟩) (bl a) (bl a)), (8, .slice A47 (ndg (R + R)) c48), (9, vi (m - 1)), (26, .slice A5 (bl a) c6), (27, vi (m - 1))] ?_
   refine GL.s 3 (run_idxRd (P := Try.prog) (k := .i64) (t := 34) (A := A5) (len := (bl a)) (cap := c6) (j := m - 1) (by kernel_rfl) rfl (H49.rdRow 0 rfl) (by rw [dg_length, bitsL_length]) (by omega)) [(1, .slice B (ndg b) d), (6, .slice A5 (bl a) c6), (7, .slice (some ⟨p12, 0, none⟩) (bl a) (bl a)), (8, .slice A47 (ndg (R + R)) c48), (9, vi (m - 1)), (28, .pointer (Option.map (fun x => Addr.add x (m - 1)) A5))] ?_
   refine GL.s 4 (run_ldRd (P := Try.prog) (ty := 31) (A := A5) (j := m - 1) (v := vu (a / 2 ^ (m - 1) % 2)) (by kernel_rfl) (H49.rdRow 0 rfl) (dg_at (bitsL_get (by omega)))) [(1, .slice B (ndg b) d), (6, .slice A5 (bl a) c6), (7, .slice (some ⟨p12, 0, none⟩) (bl a) (bl a)), (8, .slice A47 (ndg (R + R)) c48), (9, vi (m - 1)), (29, vu (a / 2 ^ (m - 1) % 2))] ?_
   refine GL.r 5 1 [(1, .slice B (ndg b) d), (6, .slice A5 (bl a) c6), (7, .slice (some ⟨p12, 0, none⟩) (bl a) (bl a)), (8, .slice A47 (ndg (R + R)) c48), (9, vi (m - 1)), (30, .bool ((((a / 2 ^ (m - 1) % 2) : Nat) : Int) == 1))] ?_
   refine GL.q hK55 ?_
   cases hb56 : ((((a / 2 ^ (m - 1) % 2) : Nat) : Int) == 1)
   · skip
     have hb56f := ne_of_beq_false hb56
     have hbit : a / 2 ^ (m - 1) % 2 = 0 := (Nat.mod_two_eq_zero_or_one _).resolve_right (fun h => hb56f (by rw [h]; rfl))
     refine G.no rfl ?_
     refine G.skipK hK53 (fun _ _ h => h) ?_
     refine G.sr fun K57 hK58 => ?_
     refine GL.r 2 2 [(1, .slice B (ndg b) d), (6, .slice A5 (bl a) c6), (7, .slice (some ⟨p12, 0, none⟩) (bl a) (bl a)), (8, .slice A47 (ndg (R + R)) c48), (9, vi (m - 1)), (34, .slice A47 (ndg (R + R)) c48), (35, .slice B (ndg b) d)] ?_
     refine GL.call (j := 3) (CmpN_calls (R + R) b A47 B c48 d w51 (H49.rdRow 3 rfl) (hs.hp H49) (by omega) (by omega)) (by kernel_rfl) rfl (fun e_ w59 hR => ?_)
     obtain ⟨rfl, H61⟩ := hR
     have H60 : Hp w [] [.row A5 (bl a) c6 31 1 (dg (bitsL a)), .row (some ⟨p12, 0, none⟩) (bl a) (bl a) 31 1 (dg qs), .row Z (ndg R) z 31 1 (dg (digs R)), .row A47 (ndg (R + R)) c48 31 1 (dg (digs (R + R)))] w59 := H49.callNil H61
     refine ⟨_, rfl, [1, 6, 7, 8, 9, 36], [(1, .slice B (ndg b) d), (6, .slice A5 (bl a) c6), (7, .slice (some ⟨p12, 0, none⟩) (bl a) (bl a)), (8, .slice A47 (ndg (R + R)) c48), (9, vi (m - 1)), (36, li (cmpN (R + R) b))], by kernel_rfl, ?_⟩
     refine GL.r 4 1 [(1, .slice B (ndg b) d), (6, .slice A5 (bl a) c6), (7, .slice (some ⟨p12, 0, none⟩) (bl a) (bl a)), (8, .slice A47 (ndg (R + R)) c48), (9, vi (m - 1)), (37, .bool (decide (0 ≤ (cmpN (R + R) b))))] ?_
     refine GL.q hK58 ?_
     cases hb62 : (decide (0 ≤ (cmpN (R + R) b)))
     · skip
       have hb62f := of_decide_eq_false hb62
       have hge : ¬ b ≤ (R + R) := fun h => hb62f (cmp_ge.2 h)
       refine G.no rfl ?_
       refine G.skipK hK44 (fun _ _ h => h) ?_
       refine G.region ?_
       refine GL.r 3 3 [(1, .slice B (ndg b) d), (6, .slice A5 (bl a) c6), (7, .slice (some ⟨p12, 0, none⟩) (bl a) (bl a)), (8, .slice A47 (ndg (R + R)) c48), (9, li (IntKind.i64.wrap (((m - 1 : Nat) : Int) - 1)))] ?_
       have e63 : (IntKind.i64.wrap (((m - 1 : Nat) : Int) - 1)) = (((m - 1 : Nat) : Int) - 1) := in_i64 (by omega)
       rw [e63]
       clear e63
       have H64 : Hp w [] [.row A5 (bl a) c6 31 1 (dg (bitsL a)), .row (some ⟨p12, 0, none⟩) (bl a) (bl a) 31 1 (dg qs), .row A47 (ndg (R + R)) c48 31 1 (dg (digs (R + R)))] w59 := H60.sub (List.Sublist.cons_cons _ (List.Sublist.cons_cons _ (List.Sublist.cons _ (List.Sublist.cons_cons _ (List.Sublist.slnil)))))
       obtain ⟨e1, e2⟩ := quo_down (q := (R + R)) (by omega) hm0 hR (by rw [hbit]; omega) hqv (by omega)
       refine GL.fit (ts := [1, 6, 7, 8, 9]) (M' := [(1, .slice B (ndg b) d), (6, .slice A5 (bl a) c6), (7, .slice (some ⟨p12, 0, none⟩) (bl a) (bl a)), (8, .slice A47 (ndg (R + R)) c48), (9, li (((m - 1 : Nat) : Int) - 1))]) (by kernel_rfl) ?_
       refine GL.eq (M' := [(1, .slice B (ndg b) d), (6, .slice A5 (bl a) c6), (7, .slice (some ⟨p12, 0, none⟩) (bl a) (bl a)), (8, .slice A47 (ndg (R + R)) c48), (9, li ((((m - 1) : Nat) : Int) - 1))]) (by rfl) ?_
       exact GL.again ⟨(m - 1), qs, (R + R), A47, c48⟩ [1, 6, 7, 8, 9] rfl (by kernel_rfl) (by show (m - 1) < m; omega) ⟨⟨by omega, hql, e1, e2, fun k hk => hz k (by omega)⟩, H64⟩
     · skip
       have hb62f := of_decide_eq_true hb62
       have hge : b ≤ (R + R) := cmp_ge.1 hb62f
       refine G.yes rfl ?_
       refine G.sr fun K65 hK66 => ?_
       refine GL.r 2 2 [(1, .slice B (ndg b) d), (6, .slice A5 (bl a) c6), (7, .slice (some ⟨p12, 0, none⟩) (bl a) (bl a)), (9, vi (m - 1)), (38, .slice A47 (ndg (R + R)) c48), (39, .slice B (ndg b) d)] ?_
       refine GL.call (j := 3) (SubN_calls (R + R) b A47 c48 B d w59 (H60.rdRow 3 rfl) (hs.hp H60) (by omega) (by omega) (by omega)) (by kernel_rfl) rfl (fun e_ w71 hR => ?_)
       obtain ⟨A67, c68, rfl, H70⟩ := hR
       have H69 : Hp w [] [.row A5 (bl a) c6 31 1 (dg (bitsL a)), .row (some ⟨p12, 0, none⟩) (bl a) (bl a) 31 1 (dg qs), .row Z (ndg R) z 31 1 (dg (digs R)), .row A47 (ndg (R + R)) c48 31 1 (dg (digs (R + R))), .row A67 (ndg ((R + R) - b)) c68 31 1 (dg (digs ((R + R) - b)))] w71 := H60.callNew H70
       refine ⟨_, rfl, [1, 6, 7, 9, 40], [(1, .slice B (ndg b) d), (6, .slice A5 (bl a) c6), (7, .slice (some ⟨p12, 0, none⟩) (bl a) (bl a)), (9, vi (m - 1)), (40, .slice A67 (ndg ((R + R) - b)) c68)], by kernel_rfl, ?_⟩
       refine GL.r 4 1 [(1, .slice B (ndg b) d), (6, .slice A5 (bl a) c6), (7, .slice (some ⟨p12, 0, none⟩) (bl a) (bl a)), (8, .slice A67 (ndg ((R + R) - b)) c68), (9, vi (m - 1))] ?_
       refine GL.q hK66 ?_
       refine G.region ?_
       refine GL.r 2 2 [(1, .slice B (ndg b) d), (6, .slice A5 (bl a) c6), (7, .slice (some ⟨p12, 0, none⟩) (bl a) (bl a)), (8, .slice A67 (ndg ((R + R) - b)) c68), (9, vi (m - 1)), (41, .slice (some ⟨p12, 0, none⟩) (bl a) (bl a)), (42, vi (m - 1))] ?_
       refine GL.s 3 (run_idxRd (P := Try.prog) (k := .i64) (t := 34) (A := (some ⟨p12, 0, none⟩)) (len := (bl a)) (cap := (bl a)) (j := m - 1) (by kernel_rfl) rfl (H69.rdRow 1 rfl) (by first | exact dg_length _ | rw [dg_length]; first | rfl | assumption | (symm; assumption) | (simp; done) | (rw [List.length_take]; omega) | omega) (by omega)) [(1, .slice B (ndg b) d), (6, .slice A5 (bl a) c6), (7, .slice (some ⟨p12, 0, none⟩) (bl a) (bl a)), (8, .slice A67 (ndg ((R + R) - b)) c68), (9, vi (m - 1)), (43, .pointer (Option.map (fun x => Addr.add x (m - 1)) (some ⟨p12, 0, none⟩)))] ?_
       obtain ⟨w72, r73, H74⟩ := H69.stRow (P := Try.prog) (q := m - 1) (ty := 31) (v := .int .u64 1) 1 rfl (by kernel_rfl) (by rw [dg_length]; omega) rfl
       rw [show (Value.int .u64 1) = Value.int .u64 ((1 : Nat) : Int) from rfl] at H74
       rw [dg_set] at H74
       refine GL.u 4 r73 [(1, .slice B (ndg b) d), (6, .slice A5 (bl a) c6), (7, .slice (some ⟨p12, 0, none⟩) (bl a) (bl a)), (8, .slice A67 (ndg ((R + R) - b)) c68), (9, vi (m - 1))] ?_
       refine GL.q hK44 ?_
       refine G.region ?_
       refine GL.r 3 3 [(1, .slice B (ndg b) d), (6, .slice A5 (bl a) c6), (7, .slice (some ⟨p12, 0, none⟩) (bl a) (bl a)), (8, .slice A67 (ndg ((R + R) - b)) c68), (9, li (IntKind.i64.wrap (((m - 1 : Nat) : Int) - 1)))] ?_
       have e75 : (IntKind.i64.wrap (((m - 1 : Nat) : Int) - 1)) = (((m - 1 : Nat) : Int) - 1) := in_i64 (by omega)
       rw [e75]
       clear e75
       have H76 : Hp w [] [.row A5 (bl a) c6 31 1 (dg (bitsL a)), .row (some ⟨p12, 0, none⟩) (bl a) (bl a) 31 1 (dg (List.set qs (m - 1) 1)), .row A67 (ndg ((R + R) - b)) c68 31 1 (dg (digs ((R + R) - b)))] w72 := H74.sub (List.Sublist.cons_cons _ (List.Sublist.cons_cons _ (List.Sublist.cons _ (List.Sublist.cons _ (List.Sublist.cons_cons _ (List.Sublist.slnil))))))
       obtain ⟨e1, e2⟩ := quo_up (q := (R + R)) (by omega) hm0 h0 hR (by rw [hbit]; omega) hqv hge
       refine GL.fit (ts := [1, 6, 7, 8, 9]) (M' := [(1, .slice B (ndg b) d), (6, .slice A5 (bl a) c6), (7, .slice (some ⟨p12, 0, none⟩) (bl a) (bl a)), (8, .slice A67 (ndg ((R + R) - b)) c68), (9, li (((m - 1 : Nat) : Int) - 1))]) (by kernel_rfl) ?_
       refine GL.eq (M' := [(1, .slice B (ndg b) d), (6, .slice A5 (bl a) c6), (7, .slice (some ⟨p12, 0, none⟩) (bl a) (bl a)), (8, .slice A67 (ndg ((R + R) - b)) c68), (9, li ((((m - 1) : Nat) : Int) - 1))]) (by rfl) ?_
       exact GL.again ⟨(m - 1), (List.set qs (m - 1) 1), ((R + R) - b), A67, c68⟩ [1, 6, 7, 8, 9] rfl (by kernel_rfl) (by show (m - 1) < m; omega) ⟨⟨by omega, by simp [hql], e1, e2, zero_set hz (by omega)⟩, H76⟩
   · skip
     have hb56f := eq_of_beq hb56
     have hbit : a / 2 ^ (m - 1) % 2 = 1 := (Int.ofNat_inj (m := a / 2 ^ (m - 1) % 2) (n := 1)).1 hb56f
     refine G.yes rfl ?_
     refine G.region ?_
     refine GL.r 1 1 [(1, .slice B (ndg b) d), (6, .slice A5 (bl a) c6), (7, .slice (some ⟨p12, 0, none⟩) (bl a) (bl a)), (9, vi (m - 1)), (31, .slice A47 (ndg (R + R)) c48)] ?_
     obtain ⟨p77, w78, r79, H80⟩ := H49.madeRow (P := Try.prog) (Instr.buildSlice 35 1 #[(0, lu 1)]) (fun b_ => .slice (some ⟨b_, 0, none⟩) 1 1) [lu 1] 31 1 1 1 (by kernel_rfl) (by decide) (by decide) rfl
     refine GL.s 2 (r79) [(1, .slice B (ndg b) d), (6, .slice A5 (bl a) c6), (7, .slice (some ⟨p12, 0, none⟩) (bl a) (bl a)), (9, vi (m - 1)), (31, .slice A47 (ndg (R + R)) c48), (32, .slice (some ⟨p77, 0, none⟩) 1 1)] ?_
     refine GL.call (j := 3) (AddN_calls (R + R) 1 A47 c48 (some ⟨p77, 0, none⟩) 1 w78 (H80.rdRow 3 rfl) (H80.rdRow 4 rfl) (by omega) (by decide)) (by kernel_rfl) rfl (fun e_ w85 hR => ?_)
     obtain ⟨A81, c82, rfl, H84⟩ := hR
     have H83 : Hp w [] [.row A5 (bl a) c6 31 1 (dg (bitsL a)), .row (some ⟨p12, 0, none⟩) (bl a) (bl a) 31 1 (dg qs), .row Z (ndg R) z 31 1 (dg (digs R)), .row A47 (ndg (R + R)) c48 31 1 (dg (digs (R + R))), .row (some ⟨p77, 0, none⟩) 1 1 31 1 (dg [1]), .row A81 (ndg ((R + R) + 1)) c82 31 1 (dg (digs ((R + R) + 1)))] w85 := H80.callNew H84
     refine ⟨_, rfl, [1, 6, 7, 9, 33], [(1, .slice B (ndg b) d), (6, .slice A5 (bl a) c6), (7, .slice (some ⟨p12, 0, none⟩) (bl a) (bl a)), (9, vi (m - 1)), (33, .slice A81 (ndg ((R + R) + 1)) c82)], by kernel_rfl, ?_⟩
     refine GL.r 4 1 [(1, .slice B (ndg b) d), (6, .slice A5 (bl a) c6), (7, .slice (some ⟨p12, 0, none⟩) (bl a) (bl a)), (8, .slice A81 (ndg ((R + R) + 1)) c82), (9, vi (m - 1))] ?_
     refine GL.q hK53 ?_
     refine G.sr fun K86 hK87 => ?_
     refine GL.r 2 2 [(1, .slice B (ndg b) d), (6, .slice A5 (bl a) c6), (7, .slice (some ⟨p12, 0, none⟩) (bl a) (bl a)), (8, .slice A81 (ndg ((R + R) + 1)) c82), (9, vi (m - 1)), (34, .slice A81 (ndg ((R + R) + 1)) c82), (35, .slice B (ndg b) d)] ?_
     refine GL.call (j := 3) (CmpN_calls ((R + R) + 1) b A81 B c82 d w85 (H83.rdRow 5 rfl) (hs.hp H83) (by omega) (by omega)) (by kernel_rfl) rfl (fun e_ w88 hR => ?_)
     obtain ⟨rfl, H90⟩ := hR
     have H89 : Hp w [] [.row A5 (bl a) c6 31 1 (dg (bitsL a)), .row (some ⟨p12, 0, none⟩) (bl a) (bl a) 31 1 (dg qs), .row Z (ndg R) z 31 1 (dg (digs R)), .row A47 (ndg (R + R)) c48 31 1 (dg (digs (R + R))), .row (some ⟨p77, 0, none⟩) 1 1 31 1 (dg [1]), .row A81 (ndg ((R + R) + 1)) c82 31 1 (dg (digs ((R + R) + 1)))] w88 := H83.callNil H90
     refine ⟨_, rfl, [1, 6, 7, 8, 9, 36], [(1, .slice B (ndg b) d), (6, .slice A5 (bl a) c6), (7, .slice (some ⟨p12, 0, none⟩) (bl a) (bl a)), (8, .slice A81 (ndg ((R + R) + 1)) c82), (9, vi (m - 1)), (36, li (cmpN ((R + R) + 1) b))], by kernel_rfl, ?_⟩
     refine GL.r 4 1 [(1, .slice B (ndg b) d), (6, .slice A5 (bl a) c6), (7, .slice (some ⟨p12, 0, none⟩) (bl a) (bl a)), (8, .slice A81 (ndg ((R + R) + 1)) c82), (9, vi (m - 1)), (37, .bool (decide (0 ≤ (cmpN ((R + R) + 1) b))))] ?_
     refine GL.q hK87 ?_
     cases hb91 : (decide (0 ≤ (cmpN ((R + R) + 1) b)))
     · skip
       have hb91f := of_decide_eq_false hb91
       have hge : ¬ b ≤ ((R + R) + 1) := fun h => hb91f (cmp_ge.2 h)
       refine G.no rfl ?_
       refine G.skipK hK44 (fun _ _ h => h) ?_
       refine G.region ?_
       refine GL.r 3 3 [(1, .slice B (ndg b) d), (6, .slice A5 (bl a) c6), (7, .slice (some ⟨p12, 0, none⟩) (bl a) (bl a)), (8, .slice A81 (ndg ((R + R) + 1)) c82), (9, li (IntKind.i64.wrap (((m - 1 : Nat) : Int) - 1)))] ?_
       have e92 : (IntKind.i64.wrap (((m - 1 : Nat) : Int) - 1)) = (((m - 1 : Nat) : Int) - 1) := in_i64 (by omega)
       rw [e92]
       clear e92
       have H93 : Hp w [] [.row A5 (bl a) c6 31 1 (dg (bitsL a)), .row (some ⟨p12, 0, none⟩) (bl a) (bl a) 31 1 (dg qs), .row A81 (ndg ((R + R) + 1)) c82 31 1 (dg (digs ((R + R) + 1)))] w88 := H89.sub (List.Sublist.cons_cons _ (List.Sublist.cons_cons _ (List.Sublist.cons _ (List.Sublist.cons _ (List.Sublist.cons _ (List.Sublist.cons_cons _ (List.Sublist.slnil)))))))
       obtain ⟨e1, e2⟩ := quo_down (q := ((R + R) + 1)) (by omega) hm0 hR (by rw [hbit]; omega) hqv (by omega)
       refine GL.fit (ts := [1, 6, 7, 8, 9]) (M' := [(1, .slice B (ndg b) d), (6, .slice A5 (bl a) c6), (7, .slice (some ⟨p12, 0, none⟩) (bl a) (bl a)), (8, .slice A81 (ndg ((R + R) + 1)) c82), (9, li (((m - 1 : Nat) : Int) - 1))]) (by kernel_rfl) ?_
       refine GL.eq (M' := [(1, .slice B (ndg b) d), (6, .slice A5 (bl a) c6), (7, .slice (some ⟨p12, 0, none⟩) (bl a) (bl a)), (8, .slice A81 (ndg ((R + R) + 1)) c82), (9, li ((((m - 1) : Nat) : Int) - 1))]) (by rfl) ?_
       exact GL.again ⟨(m - 1), qs, ((R + R) + 1), A81, c82⟩ [1, 6, 7, 8, 9] rfl (by kernel_rfl) (by show (m - 1) < m; omega) ⟨⟨by omega, hql, e1, e2, fun k hk => hz k (by omega)⟩, H93⟩
     · skip
       have hb91f := of_decide_eq_true hb91
       have hge : b ≤ ((R + R) + 1) := cmp_ge.1 hb91f
       refine G.yes rfl ?_
       refine G.sr fun K94 hK95 => ?_
       refine GL.r 2 2 [(1, .slice B (ndg b) d), (6, .slice A5 (bl a) c6), (7, .slice (some ⟨p12, 0, none⟩) (bl a) (bl a)), (9, vi (m - 1)), (38, .slice A81 (ndg ((R + R) + 1)) c82), (39, .slice B (ndg b) d)] ?_
       refine GL.call (j := 3) (SubN_calls ((R + R) + 1) b A81 c82 B d w88 (H89.rdRow 5 rfl) (hs.hp H89) (by omega) (by omega) (by omega)) (by kernel_rfl) rfl (fun e_ w100 hR => ?_)
       obtain ⟨A96, c97, rfl, H99⟩ := hR
       have H98 : Hp w [] [.row A5 (bl a) c6 31 1 (dg (bitsL a)), .row (some ⟨p12, 0, none⟩) (bl a) (bl a) 31 1 (dg qs), .row Z (ndg R) z 31 1 (dg (digs R)), .row A47 (ndg (R + R)) c48 31 1 (dg (digs (R + R))), .row (some ⟨p77, 0, none⟩) 1 1 31 1 (dg [1]), .row A81 (ndg ((R + R) + 1)) c82 31 1 (dg (digs ((R + R) + 1))), .row A96 (ndg (((R + R) + 1) - b)) c97 31 1 (dg (digs (((R + R) + 1) - b)))] w100 := H89.callNew H99
       refine ⟨_, rfl, [1, 6, 7, 9, 40], [(1, .slice B (ndg b) d), (6, .slice A5 (bl a) c6), (7, .slice (some ⟨p12, 0, none⟩) (bl a) (bl a)), (9, vi (m - 1)), (40, .slice A96 (ndg (((R + R) + 1) - b)) c97)], by kernel_rfl, ?_⟩
       refine GL.r 4 1 [(1, .slice B (ndg b) d), (6, .slice A5 (bl a) c6), (7, .slice (some ⟨p12, 0, none⟩) (bl a) (bl a)), (8, .slice A96 (ndg (((R + R) + 1) - b)) c97), (9, vi (m - 1))] ?_
       refine GL.q hK95 ?_
       refine G.region ?_
       refine GL.r 2 2 [(1, .slice B (ndg b) d), (6, .slice A5 (bl a) c6), (7, .slice (some ⟨p12, 0, none⟩) (bl a) (bl a)), (8, .slice A96 (ndg (((R + R) + 1) - b)) c97), (9, vi (m - 1)), (41, .slice (some ⟨p12, 0, none⟩) (bl a) (bl a)), (42, vi (m - 1))] ?_
       refine GL.s 3 (run_idxRd (P := Try.prog) (k := .i64) (t := 34) (A := (some ⟨p12, 0, none⟩)) (len := (bl a)) (cap := (bl a)) (j := m - 1) (by kernel_rfl) rfl (H98.rdRow 1 rfl) (by first | exact dg_length _ | rw [dg_length]; first | rfl | assumption | (symm; assumption) | (simp; done) | (rw [List.length_take]; omega) | omega) (by omega)) [(1, .slice B (ndg b) d), (6, .slice A5 (bl a) c6), (7, .slice (some ⟨p12, 0, none⟩) (bl a) (bl a)), (8, .slice A96 (ndg (((R + R) + 1) - b)) c97), (9, vi (m - 1)), (43, .pointer (Option.map (fun x => Addr.add x (m - 1)) (some ⟨p12, 0, none⟩)))] ?_
       obtain ⟨w101, r102, H103⟩ := H98.stRow (P := Try.prog) (q := m - 1) (ty := 31) (v := .int .u64 1) 1 rfl (by kernel_rfl) (by rw [dg_length]; omega) rfl
       rw [show (Value.int .u64 1) = Value.int .u64 ((1 : Nat) : Int) from rfl] at H103
       rw [dg_set] at H103
       refine GL.u 4 r102 [(1, .slice B (ndg b) d), (6, .slice A5 (bl a) c6), (7, .slice (some ⟨p12, 0, none⟩) (bl a) (bl a)), (8, .slice A96 (ndg (((R + R) + 1) - b)) c97), (9, vi (m - 1))] ?_
       refine GL.q hK44 ?_
       refine G.region ?_
       refine GL.r 3 3 [(1, .slice B (ndg b) d), (6, .slice A5 (bl a) c6), (7, .slice (some ⟨p12, 0, none⟩) (bl a) (bl a)), (8, .slice A96 (ndg (((R + R) + 1) - b)) c97), (9, li (IntKind.i64.wrap (((m - 1 : Nat) : Int) - 1)))] ?_
       have e104 : (IntKind.i64.wrap (((m - 1 : Nat) : Int) - 1)) = (((m - 1 : Nat) : Int) - 1) := in_i64 (by omega)
       rw [e104]
       clear e104
       have H105 : Hp w [] [.row A5 (bl a) c6 31 1 (dg (bitsL a)), .row (some ⟨p12, 0, none⟩) (bl a) (bl a) 31 1 (dg (List.set qs (m - 1) 1)), .row A96 (ndg (((R + R) + 1) - b)) c97 31 1 (dg (digs (((R + R) + 1) - b)))] w101 := H103.sub (List.Sublist.cons_cons _ (List.Sublist.cons_cons _ (List.Sublist.cons _ (List.Sublist.cons _ (List.Sublist.cons _ (List.Sublist.cons _ (List.Sublist.cons_cons _ (List.Sublist.slnil))))))))
       obtain ⟨e1, e2⟩ := quo_up (q := ((R + R) + 1)) (by omega) hm0 h0 hR (by rw [hbit]; omega) hqv hge
       refine GL.fit (ts := [1, 6, 7, 8, 9]) (M' := [(1, .slice B (ndg b) d), (6, .slice A5 (bl a) c6), (7, .slice (some ⟨p12, 0, none⟩) (bl a) (bl a)), (8, .slice A96 (ndg (((R + R) + 1) - b)) c97), (9, li (((m - 1 : Nat) : Int) - 1))]) (by kernel_rfl) ?_
       refine GL.eq (M' := [(1, .slice B (ndg b) d), (6, .slice A5 (bl a) c6), (7, .slice (some ⟨p12, 0, none⟩) (bl a) (bl a)), (8, .slice A96 (ndg (((R + R) + 1) - b)) c97), (9, li ((((m - 1) : Nat) : Int) - 1))]) (by rfl) ?_
       exact GL.again ⟨(m - 1), (List.set qs (m - 1) 1), (((R + R) + 1) - b), A96, c97⟩ [1, 6, 7, 8, 9] rfl (by kernel_rfl) (by show (m - 1) < m; omega) ⟨⟨by omega, by simp [hql], e1, e2, zero_set hz (by omega)⟩, H105⟩
end Go.Proofs.Ytdepaaphgfapjaa
set_option maxRecDepth 100000
namespace Go.Proofs.Ytdepaaphgfapjaa
open Go.RowKit
theorem one_calls (x : Nat) (hx : x < K) (w : World) : Calls Try.prog 25 #[.int .u64 (x : Int)] w fun e w' => ∃ A c, e = .returned ((.slice A (ndg x) c)) ∧ Hp w [] [.row A (ndg x) c 31 1 (dg (digs x))] w' := by
 refine calls_G (args := [vu x]) Try.func25 rfl Try.ntmps25 rfl ?_
 intro Q0 hRet hNor hPan
 have H := Hp.start w
 refine G.sr fun K1 hK2 => ?_
 refine GL.r 1 1 [(0, vu x)] ?_
 refine GL.q hK2 ?_
 refine G.sr fun K3 hK4 => ?_
 refine GL.r 2 2 [(4, .agg #[vu x, lu 0, lu 0, lu 0])] ?_
 have hN10 : ndg x ≤ 4 := ndg_K hx
 refine GL.call (j := 3) (Of1_calls_n x hx w) (by kernel_rfl) rfl (fun e_ w9 hR => ?_)
 obtain ⟨A5, c6, rfl, H8⟩ := hR
 have H7 : Hp w [] [.row A5 (ndg x) c6 31 1 (dg (digs x))] w9 := H.callNew H8
 refine ⟨_, rfl, [5], [(5, .slice A5 (ndg x) c6)], by kernel_rfl, ?_⟩
 refine GL.r 4 1 [(2, .slice A5 (ndg x) c6)] ?_
 refine GL.q hK4 ?_
 refine G.ret fun F_ hF_ hM_ => hRet _ _ (bodyPost_1 rfl (RV.tmp rfl) ?_ F_ hF_ hM_)
 exact ⟨_, _, rfl, H7⟩
end Go.Proofs.Ytdepaaphgfapjaa
