/- The document's numbers: products, halves, words. -/
import Derived.Test.YtjfllmkihfidcaaNum
namespace Go.Proofs.Ytjfllmkihfidcaa
open Go.RowKit
theorem MulN_calls (a b : Nat) (A : Option Addr) (c : Nat) (B : Option Addr) (d : Nat) (w : World) (hr : RdS w A (dg (digs a))) (hs : RdS w B (dg (digs b))) (hna : ndg a ≤ 100000) (hnb : ndg b ≤ 100000) : Calls Try.prog 14 #[.slice A (ndg a) c, .slice B (ndg b) d] w fun e w' => ∃ A c, e = .returned ((.slice A (ndg (a * b)) c)) ∧ Hp w [] [.row A (ndg (a * b)) c 22 1 (dg (digs (a * b)))] w' := by
  have hMX : MX = 4611686018427387904 := rfl
  have hK0 : K = 18446744073709551616 := rfl
  have hK40 : K4 = 115792089237316195423570985008687907853269984665640564039457584007913129639936 := rfl
  refine calls_G (args := [.slice A (ndg a) c, .slice B (ndg b) d]) Try.func14 rfl Try.ntmps14 rfl ?_
  intro Q0 hRet hNor hPan
  have H := Hp.start w
  have H : Hp w [] [] w := H
  refine G.seqK fun K1 hK2 => ?_
  refine G.region ?_
  refine GL.run (j := 1) 1 [0, 1] [(0, .slice A (ndg a) c), (1, .slice B (ndg b) d)] (by kernel_rfl) rfl ?_
  refine GL.k rfl hK2 (fun _ _ h => h) ?_
  refine G.seqK fun K3 hK4 => ?_
  refine G.region ?_
  refine GL.run (j := 6) 6 [0, 1, 15] [(0, .slice A (ndg a) c), (1, .slice B (ndg b) d), (15, .int .i64 (IntKind.i64.wrap ((IntKind.i64.wrap ((((ndg a) : Nat) : Int) + (((ndg b) : Nat) : Int))) + 1)))] (by kernel_rfl) rfl ?_
  have e5 : (IntKind.i64.wrap ((((ndg a) : Nat) : Int) + (((ndg b) : Nat) : Int))) = (((ndg a) + (ndg b) : Nat) : Int) := by rw [in_i64 (by omega)]; omega
  have e6 : (IntKind.i64.wrap ((((ndg a) + (ndg b) : Nat) : Int) + 1)) = ((((ndg a) + (ndg b)) + 1 : Nat) : Int) := by rw [in_i64 (by omega)]; omega
  refine GL.eq (M' := [(0, .slice A (ndg a) c), (1, .slice B (ndg b) d), (15, .int .i64 ((((ndg a) + (ndg b)) + 1 : Nat) : Int))]) (by rw [e5, e6]) ?_
  clear e5 e6
  obtain ⟨p7, w8, r9, H10⟩ := H.makeD (P := Try.prog) (t := 31) (e := 22) (n := ((ndg a) + (ndg b)) + 1) (kl := .i64) (kc := .i64) (by kernel_rfl) (by omega)
  have H10 : Hp w [] [.row (some ⟨p7, 0, none⟩) (((ndg a) + (ndg b)) + 1) (((ndg a) + (ndg b)) + 1) 22 1 (dg (List.replicate (((ndg a) + (ndg b)) + 1) 0))] w8 := H10
  refine GL.sem (j := 7) (r9) [0, 1, 16] [(0, .slice A (ndg a) c), (1, .slice B (ndg b) d), (16, .slice (some ⟨p7, 0, none⟩) (((ndg a) + (ndg b)) + 1) (((ndg a) + (ndg b)) + 1))] (by kernel_rfl) (by kernel_rfl) rfl ?_
  refine GL.run (j := 8) 1 [0, 1, 5] [(0, .slice A (ndg a) c), (1, .slice B (ndg b) d), (5, .slice (some ⟨p7, 0, none⟩) (((ndg a) + (ndg b)) + 1) (((ndg a) + (ndg b)) + 1))] (by kernel_rfl) rfl ?_
  refine GL.k rfl hK4 (fun _ _ h => h) ?_
  refine G.seqK fun K11 hK12 => ?_
  refine G.seqK fun K13 hK14 => ?_
  refine G.region ?_
  refine GL.run (j := 3) 3 [1, 5, 17, 18, 19] [(1, .slice B (ndg b) d), (5, .slice (some ⟨p7, 0, none⟩) (((ndg a) + (ndg b)) + 1) (((ndg a) + (ndg b)) + 1)), (17, .slice A (ndg a) c), (18, .int .i64 (((ndg a) : Nat) : Int)), (19, .int .i64 0)] (by kernel_rfl) rfl ?_
  refine GL.k rfl hK14 (fun _ _ h => h) ?_
  refine G.block ?_
  refine G.fit [1, 5, 17, 18, 19] (M' := [(1, .slice B (ndg b) d), (5, .slice (some ⟨p7, 0, none⟩) (((ndg a) + (ndg b)) + 1) (((ndg a) + (ndg b)) + 1)), (17, .slice A (ndg a) c), (18, .int .i64 (((ndg a) : Nat) : Int)), (19, .int .i64 0)]) (by kernel_rfl) ?_
  refine G.loop (X := Nat × List Nat) (fun ⟨i, xs⟩ => [(1, .slice B (ndg b) d), (5, .slice (some ⟨p7, 0, none⟩) (((ndg a) + (ndg b)) + 1) (((ndg a) + (ndg b)) + 1)), (17, .slice A (ndg a) c), (18, .int .i64 (((ndg a) : Nat) : Int)), (19, .int .i64 (i : Int))]) (fun ⟨i, xs⟩ w_ => (xs.length = ((ndg a) + (ndg b)) + 1 ∧ ok16 xs ∧ i ≤ ndg a ∧ val xs = a % 65536 ^ i * b) ∧ Hp w [] [.row (some ⟨p7, 0, none⟩) (((ndg a) + (ndg b)) + 1) (((ndg a) + (ndg b)) + 1) 22 1 (dg xs)] w_) (fun ⟨i, xs⟩ => ndg a - i) ⟨0, (List.replicate (((ndg a) + (ndg b)) + 1) 0)⟩ [1, 5, 17, 18, 19] (by kernel_rfl) ⟨⟨by simp, ok_zeros _, by omega, by rw [val_zeros]; simp [Nat.mod_one]⟩, H10⟩ ?_
  rintro ⟨i, xs⟩ w15 ⟨hi16, H17⟩
  refine G.eq (M' := [(1, .slice B (ndg b) d), (5, .slice (some ⟨p7, 0, none⟩) (((ndg a) + (ndg b)) + 1) (((ndg a) + (ndg b)) + 1)), (17, .slice A (ndg a) c), (18, .int .i64 (((ndg a) : Nat) : Int)), (19, .int .i64 (i : Int))]) rfl ?_
  have H17 : Hp w [] [.row (some ⟨p7, 0, none⟩) (((ndg a) + (ndg b)) + 1) (((ndg a) + (ndg b)) + 1) 22 1 (dg xs)] w15 := H17
  obtain ⟨hxl, hxok, hib, hxv⟩ := hi16
  refine G.seqK fun K18 hK19 => ?_
  refine G.region ?_
  refine GL.run (j := 1) 1 [1, 5, 17, 18, 19, 20] [(1, .slice B (ndg b) d), (5, .slice (some ⟨p7, 0, none⟩) (((ndg a) + (ndg b)) + 1) (((ndg a) + (ndg b)) + 1)), (17, .slice A (ndg a) c), (18, .int .i64 (((ndg a) : Nat) : Int)), (19, .int .i64 (i : Int)), (20, .bool (decide ((i : Int) < (((ndg a) : Nat) : Int))))] (by kernel_rfl) rfl ?_
  refine GL.k rfl hK19 (fun _ _ h => h) ?_
  refine G.seqK fun K20 hK21 => ?_
  cases hb22 : (decide ((i : Int) < (((ndg a) : Nat) : Int)))
  · skip
    have hb22f := of_decide_eq_false hb22
    refine G.no rfl ?_
    refine G.exitK hK12 (fun _ _ h => h) ?_
    refine G.seqK fun K23 hK24 => ?_
    refine G.region ?_
    refine GL.run (j := 1) 1 [58] [(58, .slice (some ⟨p7, 0, none⟩) (((ndg a) + (ndg b)) + 1) (((ndg a) + (ndg b)) + 1))] (by kernel_rfl) rfl ?_
    have hval : val xs = a * b := mul_done (by omega) hxv
    refine GL.call (j := 2) (trim_calls xs (((ndg a) + (ndg b)) + 1) (hxl.symm) (some ⟨p7, 0, none⟩) (((ndg a) + (ndg b)) + 1) w15 (H17.rdRow 0 rfl) (hxok) (H17.rowLe 0 rfl).1 (by omega)) (by kernel_rfl) rfl (fun e_ w25 hR => ?_)
    obtain ⟨rfl, H27⟩ := hR
    have H26 := (H17.callNil H27).shrinkD 0 rfl (hxl.symm) (hxok)
    rw [hval] at H26
    rw [hval]
    have H26 : Hp w [] [.row (some ⟨p7, 0, none⟩) (ndg (a * b)) (((ndg a) + (ndg b)) + 1) 22 1 (dg (digs (a * b)))] w25 := H26
    refine ⟨_, rfl, [59], [(59, .slice (some ⟨p7, 0, none⟩) (ndg (a * b)) (((ndg a) + (ndg b)) + 1))], by kernel_rfl, ?_⟩
    refine GL.run (j := 3) 1 [4] [(4, .slice (some ⟨p7, 0, none⟩) (ndg (a * b)) (((ndg a) + (ndg b)) + 1))] (by kernel_rfl) rfl ?_
    refine GL.k rfl hK24 (fun _ _ h => h) ?_
    refine G.ret ?_
    intro F_ hF_ hM_
    refine hRet _ _ (bodyPost_1 rfl (RV.tmp rfl) ?_ F_ hF_ hM_)
    exact ⟨_, _, rfl, H26⟩
  · skip
    have hb22f := of_decide_eq_true hb22
    refine G.yes rfl ?_
    refine G.skipK hK21 (fun _ _ h => h) ?_
    refine G.seqK fun K28 hK29 => ?_
    refine G.block ?_
    refine G.seqK fun K30 hK31 => ?_
    refine G.region ?_
    refine GL.run (j := 1) 1 [1, 5, 17, 18, 19, 21] [(1, .slice B (ndg b) d), (5, .slice (some ⟨p7, 0, none⟩) (((ndg a) + (ndg b)) + 1) (((ndg a) + (ndg b)) + 1)), (17, .slice A (ndg a) c), (18, .int .i64 (((ndg a) : Nat) : Int)), (19, .int .i64 (i : Int)), (21, .int .i64 (i : Int))] (by kernel_rfl) rfl ?_
    refine GL.sem (j := 2) (run_idxRd (P := Try.prog) (k := .i64) (t := 31) (A := A) (len := (ndg a)) (cap := c) (j := i) (by kernel_rfl) rfl (hr.hp H17) (dg_digs _) (by omega)) [1, 5, 17, 18, 19, 21, 22] [(1, .slice B (ndg b) d), (5, .slice (some ⟨p7, 0, none⟩) (((ndg a) + (ndg b)) + 1) (((ndg a) + (ndg b)) + 1)), (17, .slice A (ndg a) c), (18, .int .i64 (((ndg a) : Nat) : Int)), (19, .int .i64 (i : Int)), (21, .int .i64 (i : Int)), (22, .pointer (Option.map (fun x => Addr.add x i) A))] (by kernel_rfl) (by kernel_rfl) rfl ?_
    refine GL.sem (j := 3) (run_ldRd (P := Try.prog) (ty := 22) (A := A) (j := i) (v := .int .u64 ((dgt a i) : Int)) (by kernel_rfl) (hr.hp H17) (dg_at (digs_get (by omega)))) [1, 5, 17, 18, 19, 21, 23] [(1, .slice B (ndg b) d), (5, .slice (some ⟨p7, 0, none⟩) (((ndg a) + (ndg b)) + 1) (((ndg a) + (ndg b)) + 1)), (17, .slice A (ndg a) c), (18, .int .i64 (((ndg a) : Nat) : Int)), (19, .int .i64 (i : Int)), (21, .int .i64 (i : Int)), (23, .int .u64 ((dgt a i) : Int))] (by kernel_rfl) (by kernel_rfl) rfl ?_
    refine GL.run (j := 5) 2 [1, 5, 6, 7, 17, 18, 19] [(1, .slice B (ndg b) d), (5, .slice (some ⟨p7, 0, none⟩) (((ndg a) + (ndg b)) + 1) (((ndg a) + (ndg b)) + 1)), (6, .int .i64 (i : Int)), (7, .int .u64 ((dgt a i) : Int)), (17, .slice A (ndg a) c), (18, .int .i64 (((ndg a) : Nat) : Int)), (19, .int .i64 (i : Int))] (by kernel_rfl) rfl ?_
    refine GL.k rfl hK31 (fun _ _ h => h) ?_
    refine G.seqK fun K32 hK33 => ?_
    refine G.region ?_
    refine GL.run (j := 1) 1 [1, 5, 6, 7, 8, 17, 18, 19] [(1, .slice B (ndg b) d), (5, .slice (some ⟨p7, 0, none⟩) (((ndg a) + (ndg b)) + 1) (((ndg a) + (ndg b)) + 1)), (6, .int .i64 (i : Int)), (7, .int .u64 ((dgt a i) : Int)), (8, .int .u64 0), (17, .slice A (ndg a) c), (18, .int .i64 (((ndg a) : Nat) : Int)), (19, .int .i64 (i : Int))] (by kernel_rfl) rfl ?_
    refine GL.k rfl hK33 (fun _ _ h => h) ?_
    refine G.seqK fun K34 hK35 => ?_
    refine G.region ?_
    refine GL.run (j := 1) 1 [1, 5, 6, 7, 8, 9, 17, 18, 19] [(1, .slice B (ndg b) d), (5, .slice (some ⟨p7, 0, none⟩) (((ndg a) + (ndg b)) + 1) (((ndg a) + (ndg b)) + 1)), (6, .int .i64 (i : Int)), (7, .int .u64 ((dgt a i) : Int)), (8, .int .u64 0), (9, .int .i64 0), (17, .slice A (ndg a) c), (18, .int .i64 (((ndg a) : Nat) : Int)), (19, .int .i64 (i : Int))] (by kernel_rfl) rfl ?_
    refine GL.k rfl hK35 (fun _ _ h => h) ?_
    refine G.block ?_
    refine G.fit [1, 5, 6, 7, 8, 9, 17, 18, 19] (M' := [(1, .slice B (ndg b) d), (5, .slice (some ⟨p7, 0, none⟩) (((ndg a) + (ndg b)) + 1) (((ndg a) + (ndg b)) + 1)), (6, .int .i64 (i : Int)), (7, .int .u64 ((dgt a i) : Int)), (8, .int .u64 0), (9, .int .i64 0), (17, .slice A (ndg a) c), (18, .int .i64 (((ndg a) : Nat) : Int)), (19, .int .i64 (i : Int))]) (by kernel_rfl) ?_
    refine G.loop (X := Nat × Nat × List Nat) (fun ⟨k, cy, ys⟩ => [(1, .slice B (ndg b) d), (5, .slice (some ⟨p7, 0, none⟩) (((ndg a) + (ndg b)) + 1) (((ndg a) + (ndg b)) + 1)), (6, .int .i64 (i : Int)), (7, .int .u64 ((dgt a i) : Int)), (8, .int .u64 (cy : Int)), (9, .int .i64 (k : Int)), (17, .slice A (ndg a) c), (18, .int .i64 (((ndg a) : Nat) : Int)), (19, .int .i64 (i : Int))]) (fun ⟨k, cy, ys⟩ w_ => (ys.length = ((ndg a) + (ndg b)) + 1 ∧ ok16 ys ∧ cy < 65536 ∧ val ys + 65536 ^ (i + k) * cy = a % 65536 ^ i * b + dgt a i * (65536 ^ i * (b % 65536 ^ k))) ∧ Hp w [] [.row (some ⟨p7, 0, none⟩) (((ndg a) + (ndg b)) + 1) (((ndg a) + (ndg b)) + 1) 22 1 (dg ys)] w_) (fun ⟨k, cy, ys⟩ => ndg b + 1 - k) ⟨0, 0, xs⟩ [1, 5, 6, 7, 8, 9, 17, 18, 19] (by kernel_rfl) ⟨⟨hxl, hxok, by decide, mul_start hxv⟩, H17⟩ ?_
    rintro ⟨k, cy, ys⟩ w36 ⟨hi37, H38⟩
    refine G.eq (M' := [(1, .slice B (ndg b) d), (5, .slice (some ⟨p7, 0, none⟩) (((ndg a) + (ndg b)) + 1) (((ndg a) + (ndg b)) + 1)), (6, .int .i64 (i : Int)), (7, .int .u64 ((dgt a i) : Int)), (8, .int .u64 (cy : Int)), (9, .int .i64 (k : Int)), (17, .slice A (ndg a) c), (18, .int .i64 (((ndg a) : Nat) : Int)), (19, .int .i64 (i : Int))]) rfl ?_
    have H38 : Hp w [] [.row (some ⟨p7, 0, none⟩) (((ndg a) + (ndg b)) + 1) (((ndg a) + (ndg b)) + 1) 22 1 (dg ys)] w36 := H38
    obtain ⟨hyl, hyok, hcy, hyv⟩ := hi37
    have hms := mul_small (c := 0) (d := 0) (by decide) (by decide) (dgt_lt a i) (dgt_lt b k)
    refine G.seqK fun K39 hK40 => ?_
    refine G.seqK fun K41 hK42 => ?_
    refine G.region ?_
    refine GL.run (j := 5) 5 [1, 5, 6, 7, 8, 9, 17, 18, 19, 28] [(1, .slice B (ndg b) d), (5, .slice (some ⟨p7, 0, none⟩) (((ndg a) + (ndg b)) + 1) (((ndg a) + (ndg b)) + 1)), (6, .int .i64 (i : Int)), (7, .int .u64 ((dgt a i) : Int)), (8, .int .u64 (cy : Int)), (9, .int .i64 (k : Int)), (17, .slice A (ndg a) c), (18, .int .i64 (((ndg a) : Nat) : Int)), (19, .int .i64 (i : Int)), (28, .bool (decide ((k : Int) < (((ndg b) : Nat) : Int))))] (by kernel_rfl) rfl ?_
    cases hb43 : (decide ((k : Int) < (((ndg b) : Nat) : Int)))
    · skip
      have hb43f := of_decide_eq_false hb43
      refine GL.run (j := 8) 3 [1, 5, 6, 7, 8, 9, 17, 18, 19, 31] [(1, .slice B (ndg b) d), (5, .slice (some ⟨p7, 0, none⟩) (((ndg a) + (ndg b)) + 1) (((ndg a) + (ndg b)) + 1)), (6, .int .i64 (i : Int)), (7, .int .u64 ((dgt a i) : Int)), (8, .int .u64 (cy : Int)), (9, .int .i64 (k : Int)), (17, .slice A (ndg a) c), (18, .int .i64 (((ndg a) : Nat) : Int)), (19, .int .i64 (i : Int)), (31, .bool (decide (0 < (cy : Int))))] (by kernel_rfl) rfl ?_
      refine GL.k rfl hK42 (fun _ _ h => h) ?_
      cases hb44 : (decide (0 < (cy : Int)))
      · skip
        have hb44f := of_decide_eq_false hb44
        have hcy0 : cy = 0 := by omega
        rw [hcy0] at hyv
        refine G.no rfl ?_
        refine G.exitK hK29 (fun _ _ h => h) ?_
        refine G.region ?_
        refine GL.run (j := 2) 2 [1, 5, 17, 18, 19] [(1, .slice B (ndg b) d), (5, .slice (some ⟨p7, 0, none⟩) (((ndg a) + (ndg b)) + 1) (((ndg a) + (ndg b)) + 1)), (17, .slice A (ndg a) c), (18, .int .i64 (((ndg a) : Nat) : Int)), (19, .int .i64 (IntKind.i64.wrap ((i : Int) + 1)))] (by kernel_rfl) rfl ?_
        have e45 : (IntKind.i64.wrap ((i : Int) + 1)) = ((i + 1 : Nat) : Int) := by rw [in_i64 (by omega)]; omega
        refine GL.eq (M' := [(1, .slice B (ndg b) d), (5, .slice (some ⟨p7, 0, none⟩) (((ndg a) + (ndg b)) + 1) (((ndg a) + (ndg b)) + 1)), (17, .slice A (ndg a) c), (18, .int .i64 (((ndg a) : Nat) : Int)), (19, .int .i64 ((i + 1 : Nat) : Int))]) (by rw [e45]) ?_
        clear e45
        refine GL.fit (ts := [1, 5, 17, 18, 19]) (M' := [(1, .slice B (ndg b) d), (5, .slice (some ⟨p7, 0, none⟩) (((ndg a) + (ndg b)) + 1) (((ndg a) + (ndg b)) + 1)), (17, .slice A (ndg a) c), (18, .int .i64 (((ndg a) : Nat) : Int)), (19, .int .i64 ((i + 1 : Nat) : Int))]) (by kernel_rfl) ?_
        refine GL.eq (M' := [(1, .slice B (ndg b) d), (5, .slice (some ⟨p7, 0, none⟩) (((ndg a) + (ndg b)) + 1) (((ndg a) + (ndg b)) + 1)), (17, .slice A (ndg a) c), (18, .int .i64 (((ndg a) : Nat) : Int)), (19, .int .i64 (((i + 1) : Nat) : Int))]) (by rfl) ?_
        exact GL.again ⟨(i + 1), ys⟩ [1, 5, 17, 18, 19] rfl (by kernel_rfl) (by show ndg a - (i + 1) < ndg a - i; omega) ⟨⟨hyl, hyok, by omega, mul_next (by omega) hyv⟩, H38⟩
      · skip
        have hb44f := of_decide_eq_true hb44
        have hkb : k ≤ ndg b := mul_in hyv (by omega)
        refine G.yes rfl ?_
        refine G.skipK hK40 (fun _ _ h => h) ?_
        refine G.seqK fun K46 hK47 => ?_
        refine G.block ?_
        refine G.seqK fun K48 hK49 => ?_
        refine G.draw H38 (by kernel_rfl) (by kernel_rfl) ?_
        refine GQ.run (j := 5) 5 [1, 5, 6, 7, 9, 17, 18, 19, 34, 35, 38] [(1, .slice B (ndg b) d), (5, .slice (some ⟨p7, 0, none⟩) (((ndg a) + (ndg b)) + 1) (((ndg a) + (ndg b)) + 1)), (6, .int .i64 (i : Int)), (7, .int .u64 ((dgt a i) : Int)), (9, .int .i64 (k : Int)), (17, .slice A (ndg a) c), (18, .int .i64 (((ndg a) : Nat) : Int)), (19, .int .i64 (i : Int)), (34, .int .u64 (cy : Int)), (35, .slice (some ⟨p7, 0, none⟩) (((ndg a) + (ndg b)) + 1) (((ndg a) + (ndg b)) + 1)), (38, .int .i64 (IntKind.i64.wrap ((i : Int) + (k : Int))))] (by kernel_rfl) rfl ?_
        have e50 : (IntKind.i64.wrap ((i : Int) + (k : Int))) = ((i + k : Nat) : Int) := by rw [in_i64 (by omega)]; omega
        refine GQ.eq (M' := [(1, .slice B (ndg b) d), (5, .slice (some ⟨p7, 0, none⟩) (((ndg a) + (ndg b)) + 1) (((ndg a) + (ndg b)) + 1)), (6, .int .i64 (i : Int)), (7, .int .u64 ((dgt a i) : Int)), (9, .int .i64 (k : Int)), (17, .slice A (ndg a) c), (18, .int .i64 (((ndg a) : Nat) : Int)), (19, .int .i64 (i : Int)), (34, .int .u64 (cy : Int)), (35, .slice (some ⟨p7, 0, none⟩) (((ndg a) + (ndg b)) + 1) (((ndg a) + (ndg b)) + 1)), (38, .int .i64 ((i + k : Nat) : Int))]) (by rw [e50]) ?_
        clear e50
        refine GQ.sem (j := 6) (fun w_ H_ => run_idxRd (P := Try.prog) (k := .i64) (t := 31) (A := (some ⟨p7, 0, none⟩)) (len := ((ndg a) + (ndg b)) + 1) (cap := ((ndg a) + (ndg b)) + 1) (j := i + k) (by kernel_rfl) rfl (H_.rdRow 0 rfl) (by first | exact dg_length _ | rw [dg_length]; first | rfl | assumption | (symm; assumption) | (simp; done) | (rw [List.length_take]; omega) | omega) (by omega)) [1, 5, 6, 7, 9, 17, 18, 19, 34, 39] [(1, .slice B (ndg b) d), (5, .slice (some ⟨p7, 0, none⟩) (((ndg a) + (ndg b)) + 1) (((ndg a) + (ndg b)) + 1)), (6, .int .i64 (i : Int)), (7, .int .u64 ((dgt a i) : Int)), (9, .int .i64 (k : Int)), (17, .slice A (ndg a) c), (18, .int .i64 (((ndg a) : Nat) : Int)), (19, .int .i64 (i : Int)), (34, .int .u64 (cy : Int)), (39, .pointer (Option.map (fun x => Addr.add x (i + k)) (some ⟨p7, 0, none⟩)))] (by kernel_rfl) (by kernel_rfl) rfl ?_
        obtain ⟨d51, hd52⟩ : ∃ d : Nat, (ys)[i + k]? = some d := ⟨_, List.getElem?_eq_getElem (by omega)⟩
        have hdx := hd52
        have hdB := ok_at hyok hdx
        refine GQ.sem (j := 7) (fun w_ H_ => run_ldRd (P := Try.prog) (ty := 22) (A := (some ⟨p7, 0, none⟩)) (j := i + k) (v := .int .u64 (d51 : Int)) (by kernel_rfl) (H_.rdRow 0 rfl) (dg_at hd52)) [1, 5, 6, 7, 9, 17, 18, 19, 34, 40] [(1, .slice B (ndg b) d), (5, .slice (some ⟨p7, 0, none⟩) (((ndg a) + (ndg b)) + 1) (((ndg a) + (ndg b)) + 1)), (6, .int .i64 (i : Int)), (7, .int .u64 ((dgt a i) : Int)), (9, .int .i64 (k : Int)), (17, .slice A (ndg a) c), (18, .int .i64 (((ndg a) : Nat) : Int)), (19, .int .i64 (i : Int)), (34, .int .u64 (cy : Int)), (40, .int .u64 (d51 : Int))] (by kernel_rfl) (by kernel_rfl) rfl ?_
        refine GQ.run (j := 11) 4 [1, 5, 6, 7, 9, 17, 18, 19, 41, 42, 43, 44] [(1, .slice B (ndg b) d), (5, .slice (some ⟨p7, 0, none⟩) (((ndg a) + (ndg b)) + 1) (((ndg a) + (ndg b)) + 1)), (6, .int .i64 (i : Int)), (7, .int .u64 ((dgt a i) : Int)), (9, .int .i64 (k : Int)), (17, .slice A (ndg a) c), (18, .int .i64 (((ndg a) : Nat) : Int)), (19, .int .i64 (i : Int)), (41, .int .u64 (IntKind.u64.wrap ((cy : Int) + (d51 : Int)))), (42, .int .u64 ((dgt a i) : Int)), (43, .slice B (ndg b) d), (44, .int .i64 (k : Int))] (by kernel_rfl) rfl ?_
        have e53 : (IntKind.u64.wrap ((cy : Int) + (d51 : Int))) = ((cy + d51 : Nat) : Int) := n_add' (a := cy) (b := d51) (by omega)
        refine GQ.eq (M' := [(1, .slice B (ndg b) d), (5, .slice (some ⟨p7, 0, none⟩) (((ndg a) + (ndg b)) + 1) (((ndg a) + (ndg b)) + 1)), (6, .int .i64 (i : Int)), (7, .int .u64 ((dgt a i) : Int)), (9, .int .i64 (k : Int)), (17, .slice A (ndg a) c), (18, .int .i64 (((ndg a) : Nat) : Int)), (19, .int .i64 (i : Int)), (41, .int .u64 ((cy + d51 : Nat) : Int)), (42, .int .u64 ((dgt a i) : Int)), (43, .slice B (ndg b) d), (44, .int .i64 (k : Int))]) (by rw [e53]) ?_
        clear e53
        refine GQ.call (fun w_ H_ => (digit_calls b k B d w_ (hs.hp H_)).mono fun e_ w2_ ⟨he_, h2_⟩ => ⟨he_, H_.callNil h2_⟩) [1, 5, 6, 7, 9, 17, 18, 19, 41, 42, 45] [(1, .slice B (ndg b) d), (5, .slice (some ⟨p7, 0, none⟩) (((ndg a) + (ndg b)) + 1) (((ndg a) + (ndg b)) + 1)), (6, .int .i64 (i : Int)), (7, .int .u64 ((dgt a i) : Int)), (9, .int .i64 (k : Int)), (17, .slice A (ndg a) c), (18, .int .i64 (((ndg a) : Nat) : Int)), (19, .int .i64 (i : Int)), (41, .int .u64 ((cy + d51 : Nat) : Int)), (42, .int .u64 ((dgt a i) : Int)), (45, .int .u64 ((dgt b k) : Int))] (by kernel_rfl) (by kernel_rfl) (j := 12) rfl ?_
        refine GQ.run (j := 15) 3 [1, 5, 6, 7, 8, 9, 17, 18, 19] [(1, .slice B (ndg b) d), (5, .slice (some ⟨p7, 0, none⟩) (((ndg a) + (ndg b)) + 1) (((ndg a) + (ndg b)) + 1)), (6, .int .i64 (i : Int)), (7, .int .u64 ((dgt a i) : Int)), (8, .int .u64 (IntKind.u64.wrap (((cy + d51 : Nat) : Int) + (IntKind.u64.wrap (((dgt a i) : Int) * ((dgt b k) : Int)))))), (9, .int .i64 (k : Int)), (17, .slice A (ndg a) c), (18, .int .i64 (((ndg a) : Nat) : Int)), (19, .int .i64 (i : Int))] (by kernel_rfl) rfl ?_
        have e54 : (IntKind.u64.wrap (((dgt a i) : Int) * ((dgt b k) : Int))) = (((dgt a i) * (dgt b k) : Nat) : Int) := n_mul' (a := (dgt a i)) (b := (dgt b k)) (by omega)
        have e55 : (IntKind.u64.wrap (((cy + d51 : Nat) : Int) + (((dgt a i) * (dgt b k) : Nat) : Int))) = (((cy + d51) + ((dgt a i) * (dgt b k)) : Nat) : Int) := n_add' (a := (cy + d51)) (b := ((dgt a i) * (dgt b k))) (by omega)
        refine GQ.eq (M' := [(1, .slice B (ndg b) d), (5, .slice (some ⟨p7, 0, none⟩) (((ndg a) + (ndg b)) + 1) (((ndg a) + (ndg b)) + 1)), (6, .int .i64 (i : Int)), (7, .int .u64 ((dgt a i) : Int)), (8, .int .u64 (((cy + d51) + ((dgt a i) * (dgt b k)) : Nat) : Int)), (9, .int .i64 (k : Int)), (17, .slice A (ndg a) c), (18, .int .i64 (((ndg a) : Nat) : Int)), (19, .int .i64 (i : Int))]) (by rw [e54, e55]) ?_
        clear e54 e55
        refine GQ.k rfl hK49 (fun _ _ h => h) (fun w56 H57 => ?_)
        refine G.seqK fun K58 hK59 => ?_
        refine G.region ?_
        refine GL.run (j := 6) 6 [1, 5, 6, 7, 8, 9, 17, 18, 19, 48, 51, 53] [(1, .slice B (ndg b) d), (5, .slice (some ⟨p7, 0, none⟩) (((ndg a) + (ndg b)) + 1) (((ndg a) + (ndg b)) + 1)), (6, .int .i64 (i : Int)), (7, .int .u64 ((dgt a i) : Int)), (8, .int .u64 (((cy + d51) + ((dgt a i) * (dgt b k)) : Nat) : Int)), (9, .int .i64 (k : Int)), (17, .slice A (ndg a) c), (18, .int .i64 (((ndg a) : Nat) : Int)), (19, .int .i64 (i : Int)), (48, .slice (some ⟨p7, 0, none⟩) (((ndg a) + (ndg b)) + 1) (((ndg a) + (ndg b)) + 1)), (51, .int .i64 (IntKind.i64.wrap ((i : Int) + (k : Int)))), (53, .int .u64 (Int.tmod (((cy + d51) + ((dgt a i) * (dgt b k)) : Nat) : Int) 65536))] (by kernel_rfl) rfl ?_
        have e60 : (IntKind.i64.wrap ((i : Int) + (k : Int))) = ((i + k : Nat) : Int) := by rw [in_i64 (by omega)]; omega
        have e61 : (Int.tmod (((cy + d51) + ((dgt a i) * (dgt b k)) : Nat) : Int) 65536) = ((((cy + d51) + ((dgt a i) * (dgt b k))) % 65536 : Nat) : Int) := n_rem _ 65536
        refine GL.eq (M' := [(1, .slice B (ndg b) d), (5, .slice (some ⟨p7, 0, none⟩) (((ndg a) + (ndg b)) + 1) (((ndg a) + (ndg b)) + 1)), (6, .int .i64 (i : Int)), (7, .int .u64 ((dgt a i) : Int)), (8, .int .u64 (((cy + d51) + ((dgt a i) * (dgt b k)) : Nat) : Int)), (9, .int .i64 (k : Int)), (17, .slice A (ndg a) c), (18, .int .i64 (((ndg a) : Nat) : Int)), (19, .int .i64 (i : Int)), (48, .slice (some ⟨p7, 0, none⟩) (((ndg a) + (ndg b)) + 1) (((ndg a) + (ndg b)) + 1)), (51, .int .i64 ((i + k : Nat) : Int)), (53, .int .u64 ((((cy + d51) + ((dgt a i) * (dgt b k))) % 65536 : Nat) : Int))]) (by rw [e60, e61]) ?_
        clear e60 e61
        refine GL.sem (j := 7) (run_idxRd (P := Try.prog) (k := .i64) (t := 31) (A := (some ⟨p7, 0, none⟩)) (len := ((ndg a) + (ndg b)) + 1) (cap := ((ndg a) + (ndg b)) + 1) (j := i + k) (by kernel_rfl) rfl (H57.rdRow 0 rfl) (by first | exact dg_length _ | rw [dg_length]; first | rfl | assumption | (symm; assumption) | (simp; done) | (rw [List.length_take]; omega) | omega) (by omega)) [1, 5, 6, 7, 8, 9, 17, 18, 19, 53, 54] [(1, .slice B (ndg b) d), (5, .slice (some ⟨p7, 0, none⟩) (((ndg a) + (ndg b)) + 1) (((ndg a) + (ndg b)) + 1)), (6, .int .i64 (i : Int)), (7, .int .u64 ((dgt a i) : Int)), (8, .int .u64 (((cy + d51) + ((dgt a i) * (dgt b k)) : Nat) : Int)), (9, .int .i64 (k : Int)), (17, .slice A (ndg a) c), (18, .int .i64 (((ndg a) : Nat) : Int)), (19, .int .i64 (i : Int)), (53, .int .u64 ((((cy + d51) + ((dgt a i) * (dgt b k))) % 65536 : Nat) : Int)), (54, .pointer (Option.map (fun x => Addr.add x (i + k)) (some ⟨p7, 0, none⟩)))] (by kernel_rfl) (by kernel_rfl) rfl ?_
        obtain ⟨w62, r63, H64⟩ := H57.stRow (P := Try.prog) (q := i + k) (ty := 22) (v := .int .u64 ((((cy + d51) + ((dgt a i) * (dgt b k))) % 65536 : Nat) : Int)) 0 rfl (by kernel_rfl) (by rw [dg_length]; omega) rfl
        rw [dg_set] at H64
        have H64 : Hp w [] [.row (some ⟨p7, 0, none⟩) (((ndg a) + (ndg b)) + 1) (((ndg a) + (ndg b)) + 1) 22 1 (dg (List.set ys (i + k) (((cy + d51) + ((dgt a i) * (dgt b k))) % 65536)))] w62 := H64
        refine GL.semU (j := 8) r63 [1, 5, 6, 7, 8, 9, 17, 18, 19] [(1, .slice B (ndg b) d), (5, .slice (some ⟨p7, 0, none⟩) (((ndg a) + (ndg b)) + 1) (((ndg a) + (ndg b)) + 1)), (6, .int .i64 (i : Int)), (7, .int .u64 ((dgt a i) : Int)), (8, .int .u64 (((cy + d51) + ((dgt a i) * (dgt b k)) : Nat) : Int)), (9, .int .i64 (k : Int)), (17, .slice A (ndg a) c), (18, .int .i64 (((ndg a) : Nat) : Int)), (19, .int .i64 (i : Int))] (by kernel_rfl) rfl rfl rfl ?_
        refine GL.k rfl hK59 (fun _ _ h => h) ?_
        refine G.region ?_
        refine GL.run (j := 3) 3 [1, 5, 6, 7, 8, 9, 17, 18, 19] [(1, .slice B (ndg b) d), (5, .slice (some ⟨p7, 0, none⟩) (((ndg a) + (ndg b)) + 1) (((ndg a) + (ndg b)) + 1)), (6, .int .i64 (i : Int)), (7, .int .u64 ((dgt a i) : Int)), (8, .int .u64 (IntKind.u64.wrap (Int.tdiv (((cy + d51) + ((dgt a i) * (dgt b k)) : Nat) : Int) 65536))), (9, .int .i64 (k : Int)), (17, .slice A (ndg a) c), (18, .int .i64 (((ndg a) : Nat) : Int)), (19, .int .i64 (i : Int))] (by kernel_rfl) rfl ?_
        have e65 : (IntKind.u64.wrap (Int.tdiv (((cy + d51) + ((dgt a i) * (dgt b k)) : Nat) : Int) 65536)) = ((((cy + d51) + ((dgt a i) * (dgt b k))) / 65536 : Nat) : Int) := n_quo 65536 (by omega)
        refine GL.eq (M' := [(1, .slice B (ndg b) d), (5, .slice (some ⟨p7, 0, none⟩) (((ndg a) + (ndg b)) + 1) (((ndg a) + (ndg b)) + 1)), (6, .int .i64 (i : Int)), (7, .int .u64 ((dgt a i) : Int)), (8, .int .u64 ((((cy + d51) + ((dgt a i) * (dgt b k))) / 65536 : Nat) : Int)), (9, .int .i64 (k : Int)), (17, .slice A (ndg a) c), (18, .int .i64 (((ndg a) : Nat) : Int)), (19, .int .i64 (i : Int))]) (by rw [e65]) ?_
        clear e65
        refine GL.k rfl hK47 (fun _ _ h => h) ?_
        refine G.region ?_
        refine GL.run (j := 3) 3 [1, 5, 6, 7, 8, 9, 17, 18, 19] [(1, .slice B (ndg b) d), (5, .slice (some ⟨p7, 0, none⟩) (((ndg a) + (ndg b)) + 1) (((ndg a) + (ndg b)) + 1)), (6, .int .i64 (i : Int)), (7, .int .u64 ((dgt a i) : Int)), (8, .int .u64 ((((cy + d51) + ((dgt a i) * (dgt b k))) / 65536 : Nat) : Int)), (9, .int .i64 (IntKind.i64.wrap ((k : Int) + 1))), (17, .slice A (ndg a) c), (18, .int .i64 (((ndg a) : Nat) : Int)), (19, .int .i64 (i : Int))] (by kernel_rfl) rfl ?_
        have e66 : (IntKind.i64.wrap ((k : Int) + 1)) = ((k + 1 : Nat) : Int) := by rw [in_i64 (by omega)]; omega
        refine GL.eq (M' := [(1, .slice B (ndg b) d), (5, .slice (some ⟨p7, 0, none⟩) (((ndg a) + (ndg b)) + 1) (((ndg a) + (ndg b)) + 1)), (6, .int .i64 (i : Int)), (7, .int .u64 ((dgt a i) : Int)), (8, .int .u64 ((((cy + d51) + ((dgt a i) * (dgt b k))) / 65536 : Nat) : Int)), (9, .int .i64 ((k + 1 : Nat) : Int)), (17, .slice A (ndg a) c), (18, .int .i64 (((ndg a) : Nat) : Int)), (19, .int .i64 (i : Int))]) (by rw [e66]) ?_
        clear e66
        refine GL.fit (ts := [1, 5, 6, 7, 8, 9, 17, 18, 19]) (M' := [(1, .slice B (ndg b) d), (5, .slice (some ⟨p7, 0, none⟩) (((ndg a) + (ndg b)) + 1) (((ndg a) + (ndg b)) + 1)), (6, .int .i64 (i : Int)), (7, .int .u64 ((dgt a i) : Int)), (8, .int .u64 ((((cy + d51) + ((dgt a i) * (dgt b k))) / 65536 : Nat) : Int)), (9, .int .i64 ((k + 1 : Nat) : Int)), (17, .slice A (ndg a) c), (18, .int .i64 (((ndg a) : Nat) : Int)), (19, .int .i64 (i : Int))]) (by kernel_rfl) ?_
        refine GL.eq (M' := [(1, .slice B (ndg b) d), (5, .slice (some ⟨p7, 0, none⟩) (((ndg a) + (ndg b)) + 1) (((ndg a) + (ndg b)) + 1)), (6, .int .i64 (i : Int)), (7, .int .u64 ((dgt a i) : Int)), (8, .int .u64 ((((cy + d51) + ((dgt a i) * (dgt b k))) / 65536 : Nat) : Int)), (9, .int .i64 (((k + 1) : Nat) : Int)), (17, .slice A (ndg a) c), (18, .int .i64 (((ndg a) : Nat) : Int)), (19, .int .i64 (i : Int))]) (by rfl) ?_
        exact GL.again ⟨(k + 1), ((cy + d51) + ((dgt a i) * (dgt b k))) / 65536, (List.set ys (i + k) (((cy + d51) + ((dgt a i) * (dgt b k))) % 65536))⟩ [1, 5, 6, 7, 8, 9, 17, 18, 19] rfl (by kernel_rfl) (by show ndg b + 1 - (k + 1) < ndg b + 1 - k; omega) ⟨⟨by simp [hyl], ok_set hyok (Nat.mod_lt _ (by decide)), by omega, mul_round hdx rfl hyv⟩, H64⟩
    · skip
      have hb43f := of_decide_eq_true hb43
      have hkb : k ≤ ndg b := mul_in hyv (by omega)
      refine GL.run (j := 8) 3 [1, 5, 6, 7, 8, 9, 17, 18, 19, 31] [(1, .slice B (ndg b) d), (5, .slice (some ⟨p7, 0, none⟩) (((ndg a) + (ndg b)) + 1) (((ndg a) + (ndg b)) + 1)), (6, .int .i64 (i : Int)), (7, .int .u64 ((dgt a i) : Int)), (8, .int .u64 (cy : Int)), (9, .int .i64 (k : Int)), (17, .slice A (ndg a) c), (18, .int .i64 (((ndg a) : Nat) : Int)), (19, .int .i64 (i : Int)), (31, .bool true)] (by kernel_rfl) rfl ?_
      refine GL.k rfl hK42 (fun _ _ h => h) ?_
      refine G.yes rfl ?_
      refine G.skipK hK40 (fun _ _ h => h) ?_
      refine G.seqK fun K67 hK68 => ?_
      refine G.block ?_
      refine G.seqK fun K69 hK70 => ?_
      refine G.draw H38 (by kernel_rfl) (by kernel_rfl) ?_
      refine GQ.run (j := 5) 5 [1, 5, 6, 7, 9, 17, 18, 19, 34, 35, 38] [(1, .slice B (ndg b) d), (5, .slice (some ⟨p7, 0, none⟩) (((ndg a) + (ndg b)) + 1) (((ndg a) + (ndg b)) + 1)), (6, .int .i64 (i : Int)), (7, .int .u64 ((dgt a i) : Int)), (9, .int .i64 (k : Int)), (17, .slice A (ndg a) c), (18, .int .i64 (((ndg a) : Nat) : Int)), (19, .int .i64 (i : Int)), (34, .int .u64 (cy : Int)), (35, .slice (some ⟨p7, 0, none⟩) (((ndg a) + (ndg b)) + 1) (((ndg a) + (ndg b)) + 1)), (38, .int .i64 (IntKind.i64.wrap ((i : Int) + (k : Int))))] (by kernel_rfl) rfl ?_
      have e71 : (IntKind.i64.wrap ((i : Int) + (k : Int))) = ((i + k : Nat) : Int) := by rw [in_i64 (by omega)]; omega
      refine GQ.eq (M' := [(1, .slice B (ndg b) d), (5, .slice (some ⟨p7, 0, none⟩) (((ndg a) + (ndg b)) + 1) (((ndg a) + (ndg b)) + 1)), (6, .int .i64 (i : Int)), (7, .int .u64 ((dgt a i) : Int)), (9, .int .i64 (k : Int)), (17, .slice A (ndg a) c), (18, .int .i64 (((ndg a) : Nat) : Int)), (19, .int .i64 (i : Int)), (34, .int .u64 (cy : Int)), (35, .slice (some ⟨p7, 0, none⟩) (((ndg a) + (ndg b)) + 1) (((ndg a) + (ndg b)) + 1)), (38, .int .i64 ((i + k : Nat) : Int))]) (by rw [e71]) ?_
      clear e71
      refine GQ.sem (j := 6) (fun w_ H_ => run_idxRd (P := Try.prog) (k := .i64) (t := 31) (A := (some ⟨p7, 0, none⟩)) (len := ((ndg a) + (ndg b)) + 1) (cap := ((ndg a) + (ndg b)) + 1) (j := i + k) (by kernel_rfl) rfl (H_.rdRow 0 rfl) (by first | exact dg_length _ | rw [dg_length]; first | rfl | assumption | (symm; assumption) | (simp; done) | (rw [List.length_take]; omega) | omega) (by omega)) [1, 5, 6, 7, 9, 17, 18, 19, 34, 39] [(1, .slice B (ndg b) d), (5, .slice (some ⟨p7, 0, none⟩) (((ndg a) + (ndg b)) + 1) (((ndg a) + (ndg b)) + 1)), (6, .int .i64 (i : Int)), (7, .int .u64 ((dgt a i) : Int)), (9, .int .i64 (k : Int)), (17, .slice A (ndg a) c), (18, .int .i64 (((ndg a) : Nat) : Int)), (19, .int .i64 (i : Int)), (34, .int .u64 (cy : Int)), (39, .pointer (Option.map (fun x => Addr.add x (i + k)) (some ⟨p7, 0, none⟩)))] (by kernel_rfl) (by kernel_rfl) rfl ?_
      obtain ⟨d72, hd73⟩ : ∃ d : Nat, (ys)[i + k]? = some d := ⟨_, List.getElem?_eq_getElem (by omega)⟩
      have hdx := hd73
      have hdB := ok_at hyok hdx
      refine GQ.sem (j := 7) (fun w_ H_ => run_ldRd (P := Try.prog) (ty := 22) (A := (some ⟨p7, 0, none⟩)) (j := i + k) (v := .int .u64 (d72 : Int)) (by kernel_rfl) (H_.rdRow 0 rfl) (dg_at hd73)) [1, 5, 6, 7, 9, 17, 18, 19, 34, 40] [(1, .slice B (ndg b) d), (5, .slice (some ⟨p7, 0, none⟩) (((ndg a) + (ndg b)) + 1) (((ndg a) + (ndg b)) + 1)), (6, .int .i64 (i : Int)), (7, .int .u64 ((dgt a i) : Int)), (9, .int .i64 (k : Int)), (17, .slice A (ndg a) c), (18, .int .i64 (((ndg a) : Nat) : Int)), (19, .int .i64 (i : Int)), (34, .int .u64 (cy : Int)), (40, .int .u64 (d72 : Int))] (by kernel_rfl) (by kernel_rfl) rfl ?_
      refine GQ.run (j := 11) 4 [1, 5, 6, 7, 9, 17, 18, 19, 41, 42, 43, 44] [(1, .slice B (ndg b) d), (5, .slice (some ⟨p7, 0, none⟩) (((ndg a) + (ndg b)) + 1) (((ndg a) + (ndg b)) + 1)), (6, .int .i64 (i : Int)), (7, .int .u64 ((dgt a i) : Int)), (9, .int .i64 (k : Int)), (17, .slice A (ndg a) c), (18, .int .i64 (((ndg a) : Nat) : Int)), (19, .int .i64 (i : Int)), (41, .int .u64 (IntKind.u64.wrap ((cy : Int) + (d72 : Int)))), (42, .int .u64 ((dgt a i) : Int)), (43, .slice B (ndg b) d), (44, .int .i64 (k : Int))] (by kernel_rfl) rfl ?_
      have e74 : (IntKind.u64.wrap ((cy : Int) + (d72 : Int))) = ((cy + d72 : Nat) : Int) := n_add' (a := cy) (b := d72) (by omega)
      refine GQ.eq (M' := [(1, .slice B (ndg b) d), (5, .slice (some ⟨p7, 0, none⟩) (((ndg a) + (ndg b)) + 1) (((ndg a) + (ndg b)) + 1)), (6, .int .i64 (i : Int)), (7, .int .u64 ((dgt a i) : Int)), (9, .int .i64 (k : Int)), (17, .slice A (ndg a) c), (18, .int .i64 (((ndg a) : Nat) : Int)), (19, .int .i64 (i : Int)), (41, .int .u64 ((cy + d72 : Nat) : Int)), (42, .int .u64 ((dgt a i) : Int)), (43, .slice B (ndg b) d), (44, .int .i64 (k : Int))]) (by rw [e74]) ?_
      clear e74
      refine GQ.call (fun w_ H_ => (digit_calls b k B d w_ (hs.hp H_)).mono fun e_ w2_ ⟨he_, h2_⟩ => ⟨he_, H_.callNil h2_⟩) [1, 5, 6, 7, 9, 17, 18, 19, 41, 42, 45] [(1, .slice B (ndg b) d), (5, .slice (some ⟨p7, 0, none⟩) (((ndg a) + (ndg b)) + 1) (((ndg a) + (ndg b)) + 1)), (6, .int .i64 (i : Int)), (7, .int .u64 ((dgt a i) : Int)), (9, .int .i64 (k : Int)), (17, .slice A (ndg a) c), (18, .int .i64 (((ndg a) : Nat) : Int)), (19, .int .i64 (i : Int)), (41, .int .u64 ((cy + d72 : Nat) : Int)), (42, .int .u64 ((dgt a i) : Int)), (45, .int .u64 ((dgt b k) : Int))] (by kernel_rfl) (by kernel_rfl) (j := 12) rfl ?_
      refine GQ.run (j := 15) 3 [1, 5, 6, 7, 8, 9, 17, 18, 19] [(1, .slice B (ndg b) d), (5, .slice (some ⟨p7, 0, none⟩) (((ndg a) + (ndg b)) + 1) (((ndg a) + (ndg b)) + 1)), (6, .int .i64 (i : Int)), (7, .int .u64 ((dgt a i) : Int)), (8, .int .u64 (IntKind.u64.wrap (((cy + d72 : Nat) : Int) + (IntKind.u64.wrap (((dgt a i) : Int) * ((dgt b k) : Int)))))), (9, .int .i64 (k : Int)), (17, .slice A (ndg a) c), (18, .int .i64 (((ndg a) : Nat) : Int)), (19, .int .i64 (i : Int))] (by kernel_rfl) rfl ?_
      have e75 : (IntKind.u64.wrap (((dgt a i) : Int) * ((dgt b k) : Int))) = (((dgt a i) * (dgt b k) : Nat) : Int) := n_mul' (a := (dgt a i)) (b := (dgt b k)) (by omega)
      have e76 : (IntKind.u64.wrap (((cy + d72 : Nat) : Int) + (((dgt a i) * (dgt b k) : Nat) : Int))) = (((cy + d72) + ((dgt a i) * (dgt b k)) : Nat) : Int) := n_add' (a := (cy + d72)) (b := ((dgt a i) * (dgt b k))) (by omega)
      refine GQ.eq (M' := [(1, .slice B (ndg b) d), (5, .slice (some ⟨p7, 0, none⟩) (((ndg a) + (ndg b)) + 1) (((ndg a) + (ndg b)) + 1)), (6, .int .i64 (i : Int)), (7, .int .u64 ((dgt a i) : Int)), (8, .int .u64 (((cy + d72) + ((dgt a i) * (dgt b k)) : Nat) : Int)), (9, .int .i64 (k : Int)), (17, .slice A (ndg a) c), (18, .int .i64 (((ndg a) : Nat) : Int)), (19, .int .i64 (i : Int))]) (by rw [e75, e76]) ?_
      clear e75 e76
      refine GQ.k rfl hK70 (fun _ _ h => h) (fun w77 H78 => ?_)
      refine G.seqK fun K79 hK80 => ?_
      refine G.region ?_
      refine GL.run (j := 6) 6 [1, 5, 6, 7, 8, 9, 17, 18, 19, 48, 51, 53] [(1, .slice B (ndg b) d), (5, .slice (some ⟨p7, 0, none⟩) (((ndg a) + (ndg b)) + 1) (((ndg a) + (ndg b)) + 1)), (6, .int .i64 (i : Int)), (7, .int .u64 ((dgt a i) : Int)), (8, .int .u64 (((cy + d72) + ((dgt a i) * (dgt b k)) : Nat) : Int)), (9, .int .i64 (k : Int)), (17, .slice A (ndg a) c), (18, .int .i64 (((ndg a) : Nat) : Int)), (19, .int .i64 (i : Int)), (48, .slice (some ⟨p7, 0, none⟩) (((ndg a) + (ndg b)) + 1) (((ndg a) + (ndg b)) + 1)), (51, .int .i64 (IntKind.i64.wrap ((i : Int) + (k : Int)))), (53, .int .u64 (Int.tmod (((cy + d72) + ((dgt a i) * (dgt b k)) : Nat) : Int) 65536))] (by kernel_rfl) rfl ?_
      have e81 : (IntKind.i64.wrap ((i : Int) + (k : Int))) = ((i + k : Nat) : Int) := by rw [in_i64 (by omega)]; omega
      have e82 : (Int.tmod (((cy + d72) + ((dgt a i) * (dgt b k)) : Nat) : Int) 65536) = ((((cy + d72) + ((dgt a i) * (dgt b k))) % 65536 : Nat) : Int) := n_rem _ 65536
      refine GL.eq (M' := [(1, .slice B (ndg b) d), (5, .slice (some ⟨p7, 0, none⟩) (((ndg a) + (ndg b)) + 1) (((ndg a) + (ndg b)) + 1)), (6, .int .i64 (i : Int)), (7, .int .u64 ((dgt a i) : Int)), (8, .int .u64 (((cy + d72) + ((dgt a i) * (dgt b k)) : Nat) : Int)), (9, .int .i64 (k : Int)), (17, .slice A (ndg a) c), (18, .int .i64 (((ndg a) : Nat) : Int)), (19, .int .i64 (i : Int)), (48, .slice (some ⟨p7, 0, none⟩) (((ndg a) + (ndg b)) + 1) (((ndg a) + (ndg b)) + 1)), (51, .int .i64 ((i + k : Nat) : Int)), (53, .int .u64 ((((cy + d72) + ((dgt a i) * (dgt b k))) % 65536 : Nat) : Int))]) (by rw [e81, e82]) ?_
      clear e81 e82
      refine GL.sem (j := 7) (run_idxRd (P := Try.prog) (k := .i64) (t := 31) (A := (some ⟨p7, 0, none⟩)) (len := ((ndg a) + (ndg b)) + 1) (cap := ((ndg a) + (ndg b)) + 1) (j := i + k) (by kernel_rfl) rfl (H78.rdRow 0 rfl) (by first | exact dg_length _ | rw [dg_length]; first | rfl | assumption | (symm; assumption) | (simp; done) | (rw [List.length_take]; omega) | omega) (by omega)) [1, 5, 6, 7, 8, 9, 17, 18, 19, 53, 54] [(1, .slice B (ndg b) d), (5, .slice (some ⟨p7, 0, none⟩) (((ndg a) + (ndg b)) + 1) (((ndg a) + (ndg b)) + 1)), (6, .int .i64 (i : Int)), (7, .int .u64 ((dgt a i) : Int)), (8, .int .u64 (((cy + d72) + ((dgt a i) * (dgt b k)) : Nat) : Int)), (9, .int .i64 (k : Int)), (17, .slice A (ndg a) c), (18, .int .i64 (((ndg a) : Nat) : Int)), (19, .int .i64 (i : Int)), (53, .int .u64 ((((cy + d72) + ((dgt a i) * (dgt b k))) % 65536 : Nat) : Int)), (54, .pointer (Option.map (fun x => Addr.add x (i + k)) (some ⟨p7, 0, none⟩)))] (by kernel_rfl) (by kernel_rfl) rfl ?_
      obtain ⟨w83, r84, H85⟩ := H78.stRow (P := Try.prog) (q := i + k) (ty := 22) (v := .int .u64 ((((cy + d72) + ((dgt a i) * (dgt b k))) % 65536 : Nat) : Int)) 0 rfl (by kernel_rfl) (by rw [dg_length]; omega) rfl
      rw [dg_set] at H85
      have H85 : Hp w [] [.row (some ⟨p7, 0, none⟩) (((ndg a) + (ndg b)) + 1) (((ndg a) + (ndg b)) + 1) 22 1 (dg (List.set ys (i + k) (((cy + d72) + ((dgt a i) * (dgt b k))) % 65536)))] w83 := H85
      refine GL.semU (j := 8) r84 [1, 5, 6, 7, 8, 9, 17, 18, 19] [(1, .slice B (ndg b) d), (5, .slice (some ⟨p7, 0, none⟩) (((ndg a) + (ndg b)) + 1) (((ndg a) + (ndg b)) + 1)), (6, .int .i64 (i : Int)), (7, .int .u64 ((dgt a i) : Int)), (8, .int .u64 (((cy + d72) + ((dgt a i) * (dgt b k)) : Nat) : Int)), (9, .int .i64 (k : Int)), (17, .slice A (ndg a) c), (18, .int .i64 (((ndg a) : Nat) : Int)), (19, .int .i64 (i : Int))] (by kernel_rfl) rfl rfl rfl ?_
      refine GL.k rfl hK80 (fun _ _ h => h) ?_
      refine G.region ?_
      refine GL.run (j := 3) 3 [1, 5, 6, 7, 8, 9, 17, 18, 19] [(1, .slice B (ndg b) d), (5, .slice (some ⟨p7, 0, none⟩) (((ndg a) + (ndg b)) + 1) (((ndg a) + (ndg b)) + 1)), (6, .int .i64 (i : Int)), (7, .int .u64 ((dgt a i) : Int)), (8, .int .u64 (IntKind.u64.wrap (Int.tdiv (((cy + d72) + ((dgt a i) * (dgt b k)) : Nat) : Int) 65536))), (9, .int .i64 (k : Int)), (17, .slice A (ndg a) c), (18, .int .i64 (((ndg a) : Nat) : Int)), (19, .int .i64 (i : Int))] (by kernel_rfl) rfl ?_
      have e86 : (IntKind.u64.wrap (Int.tdiv (((cy + d72) + ((dgt a i) * (dgt b k)) : Nat) : Int) 65536)) = ((((cy + d72) + ((dgt a i) * (dgt b k))) / 65536 : Nat) : Int) := n_quo 65536 (by omega)
      refine GL.eq (M' := [(1, .slice B (ndg b) d), (5, .slice (some ⟨p7, 0, none⟩) (((ndg a) + (ndg b)) + 1) (((ndg a) + (ndg b)) + 1)), (6, .int .i64 (i : Int)), (7, .int .u64 ((dgt a i) : Int)), (8, .int .u64 ((((cy + d72) + ((dgt a i) * (dgt b k))) / 65536 : Nat) : Int)), (9, .int .i64 (k : Int)), (17, .slice A (ndg a) c), (18, .int .i64 (((ndg a) : Nat) : Int)), (19, .int .i64 (i : Int))]) (by rw [e86]) ?_
      clear e86
      refine GL.k rfl hK68 (fun _ _ h => h) ?_
      refine G.region ?_
      refine GL.run (j := 3) 3 [1, 5, 6, 7, 8, 9, 17, 18, 19] [(1, .slice B (ndg b) d), (5, .slice (some ⟨p7, 0, none⟩) (((ndg a) + (ndg b)) + 1) (((ndg a) + (ndg b)) + 1)), (6, .int .i64 (i : Int)), (7, .int .u64 ((dgt a i) : Int)), (8, .int .u64 ((((cy + d72) + ((dgt a i) * (dgt b k))) / 65536 : Nat) : Int)), (9, .int .i64 (IntKind.i64.wrap ((k : Int) + 1))), (17, .slice A (ndg a) c), (18, .int .i64 (((ndg a) : Nat) : Int)), (19, .int .i64 (i : Int))] (by kernel_rfl) rfl ?_
      have e87 : (IntKind.i64.wrap ((k : Int) + 1)) = ((k + 1 : Nat) : Int) := by rw [in_i64 (by omega)]; omega
      refine GL.eq (M' := [(1, .slice B (ndg b) d), (5, .slice (some ⟨p7, 0, none⟩) (((ndg a) + (ndg b)) + 1) (((ndg a) + (ndg b)) + 1)), (6, .int .i64 (i : Int)), (7, .int .u64 ((dgt a i) : Int)), (8, .int .u64 ((((cy + d72) + ((dgt a i) * (dgt b k))) / 65536 : Nat) : Int)), (9, .int .i64 ((k + 1 : Nat) : Int)), (17, .slice A (ndg a) c), (18, .int .i64 (((ndg a) : Nat) : Int)), (19, .int .i64 (i : Int))]) (by rw [e87]) ?_
      clear e87
      refine GL.fit (ts := [1, 5, 6, 7, 8, 9, 17, 18, 19]) (M' := [(1, .slice B (ndg b) d), (5, .slice (some ⟨p7, 0, none⟩) (((ndg a) + (ndg b)) + 1) (((ndg a) + (ndg b)) + 1)), (6, .int .i64 (i : Int)), (7, .int .u64 ((dgt a i) : Int)), (8, .int .u64 ((((cy + d72) + ((dgt a i) * (dgt b k))) / 65536 : Nat) : Int)), (9, .int .i64 ((k + 1 : Nat) : Int)), (17, .slice A (ndg a) c), (18, .int .i64 (((ndg a) : Nat) : Int)), (19, .int .i64 (i : Int))]) (by kernel_rfl) ?_
      refine GL.eq (M' := [(1, .slice B (ndg b) d), (5, .slice (some ⟨p7, 0, none⟩) (((ndg a) + (ndg b)) + 1) (((ndg a) + (ndg b)) + 1)), (6, .int .i64 (i : Int)), (7, .int .u64 ((dgt a i) : Int)), (8, .int .u64 ((((cy + d72) + ((dgt a i) * (dgt b k))) / 65536 : Nat) : Int)), (9, .int .i64 (((k + 1) : Nat) : Int)), (17, .slice A (ndg a) c), (18, .int .i64 (((ndg a) : Nat) : Int)), (19, .int .i64 (i : Int))]) (by rfl) ?_
      exact GL.again ⟨(k + 1), ((cy + d72) + ((dgt a i) * (dgt b k))) / 65536, (List.set ys (i + k) (((cy + d72) + ((dgt a i) * (dgt b k))) % 65536))⟩ [1, 5, 6, 7, 8, 9, 17, 18, 19] rfl (by kernel_rfl) (by show ndg b + 1 - (k + 1) < ndg b + 1 - k; omega) ⟨⟨by simp [hyl], ok_set hyok (Nat.mod_lt _ (by decide)), by omega, mul_round hdx rfl hyv⟩, H85⟩
theorem HalfN_calls (a : Nat) (A : Option Addr) (c : Nat) (w : World) (hr : RdS w A (dg (digs a))) (hna : ndg a ≤ 100000) : Calls Try.prog 46 #[.slice A (ndg a) c] w fun e w' => ∃ A c, e = .returned (.tuple #[(.slice A (ndg (a / 2)) c), .int .u64 ((a % 2 : Nat) : Int)]) ∧ Hp w [] [.row A (ndg (a / 2)) c 22 1 (dg (digs (a / 2)))] w' := by
  have hMX : MX = 4611686018427387904 := rfl
  have hK0 : K = 18446744073709551616 := rfl
  have hK40 : K4 = 115792089237316195423570985008687907853269984665640564039457584007913129639936 := rfl
  refine calls_G (args := [.slice A (ndg a) c]) Try.func46 rfl Try.ntmps46 rfl ?_
  intro Q0 hRet hNor hPan
  have H := Hp.start w
  have H : Hp w [] [] w := H
  refine G.seqK fun K1 hK2 => ?_
  refine G.region ?_
  refine GL.run (j := 2) 2 [0] [(0, .slice A (ndg a) c)] (by kernel_rfl) rfl ?_
  refine GL.k rfl hK2 (fun _ _ h => h) ?_
  refine G.seqK fun K3 hK4 => ?_
  refine G.region ?_
  refine GL.run (j := 2) 2 [0, 9] [(0, .slice A (ndg a) c), (9, .int .i64 (((ndg a) : Nat) : Int))] (by kernel_rfl) rfl ?_
  obtain ⟨p5, w6, r7, H8⟩ := H.makeD (P := Try.prog) (t := 31) (e := 22) (n := (ndg a)) (kl := .i64) (kc := .i64) (by kernel_rfl) (by omega)
  have H8 : Hp w [] [.row (some ⟨p5, 0, none⟩) (ndg a) (ndg a) 22 1 (dg (List.replicate (ndg a) 0))] w6 := H8
  refine GL.sem (j := 3) (r7) [0, 10] [(0, .slice A (ndg a) c), (10, .slice (some ⟨p5, 0, none⟩) (ndg a) (ndg a))] (by kernel_rfl) (by kernel_rfl) rfl ?_
  refine GL.run (j := 4) 1 [0, 4] [(0, .slice A (ndg a) c), (4, .slice (some ⟨p5, 0, none⟩) (ndg a) (ndg a))] (by kernel_rfl) rfl ?_
  refine GL.k rfl hK4 (fun _ _ h => h) ?_
  refine G.seqK fun K9 hK10 => ?_
  refine G.region ?_
  refine GL.run (j := 1) 1 [0, 4, 5] [(0, .slice A (ndg a) c), (4, .slice (some ⟨p5, 0, none⟩) (ndg a) (ndg a)), (5, .int .u64 0)] (by kernel_rfl) rfl ?_
  refine GL.k rfl hK10 (fun _ _ h => h) ?_
  refine G.seqK fun K11 hK12 => ?_
  refine G.seqK fun K13 hK14 => ?_
  refine G.region ?_
  refine GL.run (j := 4) 4 [0, 4, 5, 6] [(0, .slice A (ndg a) c), (4, .slice (some ⟨p5, 0, none⟩) (ndg a) (ndg a)), (5, .int .u64 0), (6, .int .i64 (IntKind.i64.wrap ((((ndg a) : Nat) : Int) - 1)))] (by kernel_rfl) rfl ?_
  have e15 : (IntKind.i64.wrap ((((ndg a) : Nat) : Int) - 1)) = ((((ndg a) : Nat) : Int) - 1) := in_i64 (by omega)
  refine GL.eq (M' := [(0, .slice A (ndg a) c), (4, .slice (some ⟨p5, 0, none⟩) (ndg a) (ndg a)), (5, .int .u64 0), (6, .int .i64 ((((ndg a) : Nat) : Int) - 1))]) (by rw [e15]) ?_
  clear e15
  refine GL.k rfl hK14 (fun _ _ h => h) ?_
  refine G.block ?_
  refine G.fit [0, 4, 5, 6] (M' := [(0, .slice A (ndg a) c), (4, .slice (some ⟨p5, 0, none⟩) (ndg a) (ndg a)), (5, .int .u64 0), (6, .int .i64 ((((ndg a) : Nat) : Int) - 1))]) (by kernel_rfl) ?_
  refine G.loop (X := Nat × Nat × List Nat) (fun ⟨m, r, xs⟩ => [(0, .slice A (ndg a) c), (4, .slice (some ⟨p5, 0, none⟩) (ndg a) (ndg a)), (5, .int .u64 (r : Int)), (6, .int .i64 (((m : Nat) : Int) - 1))]) (fun ⟨m, r, xs⟩ w_ => (xs.length = ndg a ∧ ok16 xs ∧ m ≤ ndg a ∧ r < 2 ∧ (∀ k, k < m → xs[k]? = some 0) ∧ 2 * val xs + r * 65536 ^ m = a / 65536 ^ m * 65536 ^ m) ∧ Hp w [] [.row (some ⟨p5, 0, none⟩) (ndg a) (ndg a) 22 1 (dg xs)] w_) (fun ⟨m, r, xs⟩ => m) ⟨(ndg a), 0, (List.replicate (ndg a) 0)⟩ [0, 4, 5, 6] (by kernel_rfl) ⟨⟨by simp, ok_zeros _, Nat.le_refl _, by decide, zeros_get _, by rw [val_zeros, Nat.div_eq_of_lt (ndg_pow a)]; simp⟩, H8⟩ ?_
  rintro ⟨m, r, xs⟩ w16 ⟨hi17, H18⟩
  refine G.eq (M' := [(0, .slice A (ndg a) c), (4, .slice (some ⟨p5, 0, none⟩) (ndg a) (ndg a)), (5, .int .u64 (r : Int)), (6, .int .i64 (((m : Nat) : Int) - 1))]) rfl ?_
  have H18 : Hp w [] [.row (some ⟨p5, 0, none⟩) (ndg a) (ndg a) 22 1 (dg xs)] w16 := H18
  obtain ⟨hxl, hxok, hib, hr2, hz, hv⟩ := hi17
  have hdl := dgt_lt a (m - 1)
  refine G.seqK fun K19 hK20 => ?_
  refine G.seqK fun K21 hK22 => ?_
  refine G.region ?_
  refine GL.run (j := 2) 2 [0, 4, 5, 6, 15] [(0, .slice A (ndg a) c), (4, .slice (some ⟨p5, 0, none⟩) (ndg a) (ndg a)), (5, .int .u64 (r : Int)), (6, .int .i64 (((m : Nat) : Int) - 1)), (15, .bool (decide (0 ≤ (((m : Nat) : Int) - 1))))] (by kernel_rfl) rfl ?_
  refine GL.k rfl hK22 (fun _ _ h => h) ?_
  cases hb23 : (decide (0 ≤ (((m : Nat) : Int) - 1)))
  · skip
    have hb23f := of_decide_eq_false hb23
    have hm0 : m = 0 := by omega
    refine G.no rfl ?_
    refine G.exitK hK12 (fun _ _ h => h) ?_
    refine G.seqK fun K24 hK25 => ?_
    refine G.region ?_
    refine GL.run (j := 1) 1 [5, 32] [(5, .int .u64 (r : Int)), (32, .slice (some ⟨p5, 0, none⟩) (ndg a) (ndg a))] (by kernel_rfl) rfl ?_
    obtain ⟨hval, hrest⟩ := half_done hm0 hr2 hv
    refine GL.call (j := 2) (trim_calls xs (ndg a) (hxl.symm) (some ⟨p5, 0, none⟩) (ndg a) w16 (H18.rdRow 0 rfl) (hxok) (H18.rowLe 0 rfl).1 (by omega)) (by kernel_rfl) rfl (fun e_ w26 hR => ?_)
    obtain ⟨rfl, H28⟩ := hR
    have H27 := (H18.callNil H28).shrinkD 0 rfl (hxl.symm) (hxok)
    rw [hval] at H27
    rw [hval]
    have H27 : Hp w [] [.row (some ⟨p5, 0, none⟩) (ndg (a / 2)) (ndg a) 22 1 (dg (digs (a / 2)))] w26 := H27
    refine ⟨_, rfl, [5, 33], [(5, .int .u64 (r : Int)), (33, .slice (some ⟨p5, 0, none⟩) (ndg (a / 2)) (ndg a))], by kernel_rfl, ?_⟩
    refine GL.run (j := 5) 3 [2, 3] [(2, .slice (some ⟨p5, 0, none⟩) (ndg (a / 2)) (ndg a)), (3, .int .u64 (r : Int))] (by kernel_rfl) rfl ?_
    refine GL.k rfl hK25 (fun _ _ h => h) ?_
    refine G.ret ?_
    intro F_ hF_ hM_
    refine hRet _ _ (bodyPost_2 rfl (RV.tmp rfl) (RV.tmp rfl) ?_ F_ hF_ hM_)
    rw [hrest]
    exact ⟨_, _, rfl, H27⟩
  · skip
    have hb23f := of_decide_eq_true hb23
    have hm0 : 0 < m := by omega
    have ei : (((m : Nat) : Int) - 1) = ((m - 1 : Nat) : Int) := by omega
    refine G.eq (M' := [(0, .slice A (ndg a) c), (4, .slice (some ⟨p5, 0, none⟩) (ndg a) (ndg a)), (5, .int .u64 (r : Int)), (6, .int .i64 ((m - 1 : Nat) : Int)), (15, .bool true)]) (by rw [ei]) ?_
    have h0 := hz (m - 1) (by omega)
    refine G.yes rfl ?_
    refine G.skipK hK20 (fun _ _ h => h) ?_
    refine G.seqK fun K29 hK30 => ?_
    refine G.block ?_
    refine G.seqK fun K31 hK32 => ?_
    refine G.region ?_
    refine GL.run (j := 4) 4 [0, 4, 6, 19, 20, 21] [(0, .slice A (ndg a) c), (4, .slice (some ⟨p5, 0, none⟩) (ndg a) (ndg a)), (6, .int .i64 ((m - 1 : Nat) : Int)), (19, .int .u64 (IntKind.u64.wrap ((r : Int) * 65536))), (20, .slice A (ndg a) c), (21, .int .i64 ((m - 1 : Nat) : Int))] (by kernel_rfl) rfl ?_
    have e33 : (IntKind.u64.wrap ((r : Int) * 65536)) = ((r * 65536 : Nat) : Int) := n_mul' (a := r) (b := 65536) (by omega)
    refine GL.eq (M' := [(0, .slice A (ndg a) c), (4, .slice (some ⟨p5, 0, none⟩) (ndg a) (ndg a)), (6, .int .i64 ((m - 1 : Nat) : Int)), (19, .int .u64 ((r * 65536 : Nat) : Int)), (20, .slice A (ndg a) c), (21, .int .i64 ((m - 1 : Nat) : Int))]) (by rw [e33]) ?_
    clear e33
    refine GL.sem (j := 5) (run_idxRd (P := Try.prog) (k := .i64) (t := 31) (A := A) (len := (ndg a)) (cap := c) (j := m - 1) (by kernel_rfl) rfl (hr.hp H18) (dg_digs _) (by omega)) [0, 4, 6, 19, 22] [(0, .slice A (ndg a) c), (4, .slice (some ⟨p5, 0, none⟩) (ndg a) (ndg a)), (6, .int .i64 ((m - 1 : Nat) : Int)), (19, .int .u64 ((r * 65536 : Nat) : Int)), (22, .pointer (Option.map (fun x => Addr.add x (m - 1)) A))] (by kernel_rfl) (by kernel_rfl) rfl ?_
    refine GL.sem (j := 6) (run_ldRd (P := Try.prog) (ty := 22) (A := A) (j := m - 1) (v := .int .u64 ((dgt a (m - 1)) : Int)) (by kernel_rfl) (hr.hp H18) (dg_at (digs_get (by omega)))) [0, 4, 6, 19, 23] [(0, .slice A (ndg a) c), (4, .slice (some ⟨p5, 0, none⟩) (ndg a) (ndg a)), (6, .int .i64 ((m - 1 : Nat) : Int)), (19, .int .u64 ((r * 65536 : Nat) : Int)), (23, .int .u64 ((dgt a (m - 1)) : Int))] (by kernel_rfl) (by kernel_rfl) rfl ?_
    refine GL.run (j := 8) 2 [0, 4, 6, 7] [(0, .slice A (ndg a) c), (4, .slice (some ⟨p5, 0, none⟩) (ndg a) (ndg a)), (6, .int .i64 ((m - 1 : Nat) : Int)), (7, .int .u64 (IntKind.u64.wrap (((r * 65536 : Nat) : Int) + ((dgt a (m - 1)) : Int))))] (by kernel_rfl) rfl ?_
    have e34 : (IntKind.u64.wrap (((r * 65536 : Nat) : Int) + ((dgt a (m - 1)) : Int))) = (((r * 65536) + (dgt a (m - 1)) : Nat) : Int) := n_add' (a := (r * 65536)) (b := (dgt a (m - 1))) (by omega)
    refine GL.eq (M' := [(0, .slice A (ndg a) c), (4, .slice (some ⟨p5, 0, none⟩) (ndg a) (ndg a)), (6, .int .i64 ((m - 1 : Nat) : Int)), (7, .int .u64 (((r * 65536) + (dgt a (m - 1)) : Nat) : Int))]) (by rw [e34]) ?_
    clear e34
    refine GL.k rfl hK32 (fun _ _ h => h) ?_
    refine G.seqK fun K35 hK36 => ?_
    refine G.region ?_
    refine GL.run (j := 4) 4 [0, 4, 6, 7, 25, 26, 28] [(0, .slice A (ndg a) c), (4, .slice (some ⟨p5, 0, none⟩) (ndg a) (ndg a)), (6, .int .i64 ((m - 1 : Nat) : Int)), (7, .int .u64 (((r * 65536) + (dgt a (m - 1)) : Nat) : Int)), (25, .slice (some ⟨p5, 0, none⟩) (ndg a) (ndg a)), (26, .int .i64 ((m - 1 : Nat) : Int)), (28, .int .u64 (IntKind.u64.wrap (Int.tdiv (((r * 65536) + (dgt a (m - 1)) : Nat) : Int) 2)))] (by kernel_rfl) rfl ?_
    have e37 : (IntKind.u64.wrap (Int.tdiv (((r * 65536) + (dgt a (m - 1)) : Nat) : Int) 2)) = ((((r * 65536) + (dgt a (m - 1))) / 2 : Nat) : Int) := n_quo 2 (by omega)
    refine GL.eq (M' := [(0, .slice A (ndg a) c), (4, .slice (some ⟨p5, 0, none⟩) (ndg a) (ndg a)), (6, .int .i64 ((m - 1 : Nat) : Int)), (7, .int .u64 (((r * 65536) + (dgt a (m - 1)) : Nat) : Int)), (25, .slice (some ⟨p5, 0, none⟩) (ndg a) (ndg a)), (26, .int .i64 ((m - 1 : Nat) : Int)), (28, .int .u64 ((((r * 65536) + (dgt a (m - 1))) / 2 : Nat) : Int))]) (by rw [e37]) ?_
    clear e37
    refine GL.sem (j := 5) (run_idxRd (P := Try.prog) (k := .i64) (t := 31) (A := (some ⟨p5, 0, none⟩)) (len := (ndg a)) (cap := (ndg a)) (j := m - 1) (by kernel_rfl) rfl (H18.rdRow 0 rfl) (by first | exact dg_length _ | rw [dg_length]; first | rfl | assumption | (symm; assumption) | (simp; done) | (rw [List.length_take]; omega) | omega) (by omega)) [0, 4, 6, 7, 28, 29] [(0, .slice A (ndg a) c), (4, .slice (some ⟨p5, 0, none⟩) (ndg a) (ndg a)), (6, .int .i64 ((m - 1 : Nat) : Int)), (7, .int .u64 (((r * 65536) + (dgt a (m - 1)) : Nat) : Int)), (28, .int .u64 ((((r * 65536) + (dgt a (m - 1))) / 2 : Nat) : Int)), (29, .pointer (Option.map (fun x => Addr.add x (m - 1)) (some ⟨p5, 0, none⟩)))] (by kernel_rfl) (by kernel_rfl) rfl ?_
    obtain ⟨w38, r39, H40⟩ := H18.stRow (P := Try.prog) (q := m - 1) (ty := 22) (v := .int .u64 ((((r * 65536) + (dgt a (m - 1))) / 2 : Nat) : Int)) 0 rfl (by kernel_rfl) (by rw [dg_length]; omega) rfl
    rw [dg_set] at H40
    have H40 : Hp w [] [.row (some ⟨p5, 0, none⟩) (ndg a) (ndg a) 22 1 (dg (List.set xs (m - 1) (((r * 65536) + (dgt a (m - 1))) / 2)))] w38 := H40
    refine GL.semU (j := 6) r39 [0, 4, 6, 7] [(0, .slice A (ndg a) c), (4, .slice (some ⟨p5, 0, none⟩) (ndg a) (ndg a)), (6, .int .i64 ((m - 1 : Nat) : Int)), (7, .int .u64 (((r * 65536) + (dgt a (m - 1)) : Nat) : Int))] (by kernel_rfl) rfl rfl rfl ?_
    refine GL.k rfl hK36 (fun _ _ h => h) ?_
    refine G.region ?_
    refine GL.run (j := 3) 3 [0, 4, 5, 6] [(0, .slice A (ndg a) c), (4, .slice (some ⟨p5, 0, none⟩) (ndg a) (ndg a)), (5, .int .u64 (Int.tmod (((r * 65536) + (dgt a (m - 1)) : Nat) : Int) 2)), (6, .int .i64 ((m - 1 : Nat) : Int))] (by kernel_rfl) rfl ?_
    have e41 : (Int.tmod (((r * 65536) + (dgt a (m - 1)) : Nat) : Int) 2) = ((((r * 65536) + (dgt a (m - 1))) % 2 : Nat) : Int) := n_rem _ 2
    refine GL.eq (M' := [(0, .slice A (ndg a) c), (4, .slice (some ⟨p5, 0, none⟩) (ndg a) (ndg a)), (5, .int .u64 ((((r * 65536) + (dgt a (m - 1))) % 2 : Nat) : Int)), (6, .int .i64 ((m - 1 : Nat) : Int))]) (by rw [e41]) ?_
    clear e41
    refine GL.k rfl hK30 (fun _ _ h => h) ?_
    refine G.region ?_
    refine GL.run (j := 3) 3 [0, 4, 5, 6] [(0, .slice A (ndg a) c), (4, .slice (some ⟨p5, 0, none⟩) (ndg a) (ndg a)), (5, .int .u64 ((((r * 65536) + (dgt a (m - 1))) % 2 : Nat) : Int)), (6, .int .i64 (IntKind.i64.wrap (((m - 1 : Nat) : Int) - 1)))] (by kernel_rfl) rfl ?_
    have e42 : (IntKind.i64.wrap (((m - 1 : Nat) : Int) - 1)) = (((m - 1 : Nat) : Int) - 1) := in_i64 (by omega)
    refine GL.eq (M' := [(0, .slice A (ndg a) c), (4, .slice (some ⟨p5, 0, none⟩) (ndg a) (ndg a)), (5, .int .u64 ((((r * 65536) + (dgt a (m - 1))) % 2 : Nat) : Int)), (6, .int .i64 (((m - 1 : Nat) : Int) - 1))]) (by rw [e42]) ?_
    clear e42
    refine GL.fit (ts := [0, 4, 5, 6]) (M' := [(0, .slice A (ndg a) c), (4, .slice (some ⟨p5, 0, none⟩) (ndg a) (ndg a)), (5, .int .u64 ((((r * 65536) + (dgt a (m - 1))) % 2 : Nat) : Int)), (6, .int .i64 (((m - 1 : Nat) : Int) - 1))]) (by kernel_rfl) ?_
    refine GL.eq (M' := [(0, .slice A (ndg a) c), (4, .slice (some ⟨p5, 0, none⟩) (ndg a) (ndg a)), (5, .int .u64 ((((r * 65536) + (dgt a (m - 1))) % 2 : Nat) : Int)), (6, .int .i64 ((((m - 1) : Nat) : Int) - 1))]) (by rfl) ?_
    exact GL.again ⟨(m - 1), ((r * 65536) + (dgt a (m - 1))) % 2, (List.set xs (m - 1) (((r * 65536) + (dgt a (m - 1))) / 2))⟩ [0, 4, 5, 6] rfl (by kernel_rfl) (by show (m - 1) < m; omega) ⟨⟨by simp [hxl], ok_set hxok (by omega), by omega, by omega, zero_set hz (by omega), half_round hm0 h0 rfl hv⟩, H40⟩
theorem WordsN_calls (n : Nat) (A : Option Addr) (c : Nat) (w : World) (hr : RdS w A (dg (digs n))) (hn : ndg n ≤ 1000000) : Calls Try.prog 29 #[.slice A (ndg n) c] w fun e w' => e = .returned (.tuple #[wv (n % K4), .bool (decide (K4 ≤ n))]) ∧ Hp w [] [] w' := by
  have hMX : MX = 4611686018427387904 := rfl
  have hK0 : K = 18446744073709551616 := rfl
  have hK40 : K4 = 115792089237316195423570985008687907853269984665640564039457584007913129639936 := rfl
  refine calls_G (args := [.slice A (ndg n) c]) Try.func29 rfl Try.ntmps29 rfl ?_
  intro Q0 hRet hNor hPan
  have H := Hp.start w
  have H : Hp w [] [] w := H
  refine G.seqK fun K1 hK2 => ?_
  refine G.region ?_
  obtain ⟨p3, w4, r5, H6⟩ := H.alloc (P := Try.prog) 23 [.int .u64 0, .int .u64 0, .int .u64 0, .int .u64 0] (by kernel_rfl)
  have H6 : Hp w [] [.blk p3 [.int .u64 0, .int .u64 0, .int .u64 0, .int .u64 0] 23] w4 := H6
  refine GL.sem (j := 1) (r5) [0, 2] [(0, .slice A (ndg n) c), (2, pt p3 0)] (by kernel_rfl) (by kernel_rfl) rfl ?_
  refine GL.run (j := 2) 1 [0, 2] [(0, .slice A (ndg n) c), (2, pt p3 0)] (by kernel_rfl) rfl ?_
  refine GL.k rfl hK2 (fun _ _ h => h) ?_
  refine G.seqK fun K7 hK8 => ?_
  refine G.region ?_
  refine GL.run (j := 1) 1 [0, 2, 6] [(0, .slice A (ndg n) c), (2, pt p3 0), (6, .agg #[.int .u64 0, .int .u64 0, .int .u64 0, .int .u64 0])] (by kernel_rfl) rfl ?_
  obtain ⟨p9, w10, r11, H12⟩ := H6.alloc (P := Try.prog) 23 [.int .u64 0, .int .u64 0, .int .u64 0, .int .u64 0] (by kernel_rfl)
  have H12 : Hp w [] [.blk p3 [.int .u64 0, .int .u64 0, .int .u64 0, .int .u64 0] 23, .blk p9 [.int .u64 0, .int .u64 0, .int .u64 0, .int .u64 0] 23] w10 := H12
  refine GL.sem (j := 2) (r11) [0, 2, 4, 6] [(0, .slice A (ndg n) c), (2, pt p3 0), (4, pt p9 0), (6, .agg #[.int .u64 0, .int .u64 0, .int .u64 0, .int .u64 0])] (by kernel_rfl) (by kernel_rfl) rfl ?_
  obtain ⟨w13, r14, H15⟩ := H12.stA (P := Try.prog) (o := 0) (vs := [.int .u64 0, .int .u64 0, .int .u64 0, .int .u64 0]) (ty := 23) (m := 4) 1 rfl (by kernel_rfl) rfl (by simp) (by simp [Value.oneCell'])
  have H15 : Hp w [] [.blk p3 [.int .u64 0, .int .u64 0, .int .u64 0, .int .u64 0] 23, .blk p9 [.int .u64 0, .int .u64 0, .int .u64 0, .int .u64 0] 23] w13 := H15
  refine GL.semU (j := 3) r14 [0, 2, 4] [(0, .slice A (ndg n) c), (2, pt p3 0), (4, pt p9 0)] (by kernel_rfl) rfl rfl rfl ?_
  refine GL.k rfl hK8 (fun _ _ h => h) ?_
  refine G.seqK fun K16 hK17 => ?_
  refine G.seqK fun K18 hK19 => ?_
  refine G.region ?_
  refine GL.run (j := 1) 1 [0, 2, 4, 5] [(0, .slice A (ndg n) c), (2, pt p3 0), (4, pt p9 0), (5, .int .i64 0)] (by kernel_rfl) rfl ?_
  refine GL.k rfl hK19 (fun _ _ h => h) ?_
  refine G.block ?_
  have H20 : Hp w [] [.blk p3 [.int .u64 0, .int .u64 0, .int .u64 0, .int .u64 0] 23, .blk p9 [.int .u64 (wd 0 0 : Int), .int .u64 (wd 0 1 : Int), .int .u64 (wd 0 2 : Int), .int .u64 (wd 0 3 : Int)] 23] w13 := H15
  refine G.fit [0, 2, 4, 5] (M' := [(0, .slice A (ndg n) c), (2, pt p3 0), (4, pt p9 0), (5, .int .i64 0)]) (by kernel_rfl) ?_
  refine G.loop (X := Nat × Nat) (fun ⟨i, V⟩ => [(0, .slice A (ndg n) c), (2, pt p3 0), (4, pt p9 0), (5, .int .i64 (i : Int))]) (fun ⟨i, V⟩ w_ => (i ≤ 16 ∧ i ≤ ndg n ∧ V = n % 65536 ^ i) ∧ Hp w [] [.blk p3 [.int .u64 0, .int .u64 0, .int .u64 0, .int .u64 0] 23, .blk p9 [.int .u64 (wd V 0 : Int), .int .u64 (wd V 1 : Int), .int .u64 (wd V 2 : Int), .int .u64 (wd V 3 : Int)] 23] w_) (fun ⟨i, V⟩ => 16 - i) ⟨0, 0⟩ [0, 2, 4, 5] (by kernel_rfl) ⟨⟨by decide, Nat.zero_le _, by simp [Nat.mod_one]⟩, H20⟩ ?_
  rintro ⟨i, V⟩ w21 ⟨hi22, H23⟩
  refine G.eq (M' := [(0, .slice A (ndg n) c), (2, pt p3 0), (4, pt p9 0), (5, .int .i64 (i : Int))]) rfl ?_
  have H23 : Hp w [] [.blk p3 [.int .u64 0, .int .u64 0, .int .u64 0, .int .u64 0] 23, .blk p9 [.int .u64 (wd V 0 : Int), .int .u64 (wd V 1 : Int), .int .u64 (wd V 2 : Int), .int .u64 (wd V 3 : Int)] 23] w21 := H23
  obtain ⟨hi16, hin, hV⟩ := hi22
  have hVp : V < 65536 ^ i := by rw [hV]; exact Nat.mod_lt _ (pow_pos16 i)
  have hdl := dgt_lt n i
  refine G.seqK fun K24 hK25 => ?_
  refine G.seqK fun K26 hK27 => ?_
  refine G.region ?_
  refine GL.run (j := 3) 3 [0, 2, 4, 5, 9] [(0, .slice A (ndg n) c), (2, pt p3 0), (4, pt p9 0), (5, .int .i64 (i : Int)), (9, .bool (decide ((i : Int) < 16)))] (by kernel_rfl) rfl ?_
  cases hb28 : (decide ((i : Int) < 16))
  · skip
    have hb28f := of_decide_eq_false hb28
    refine GL.run (j := 8) 5 [0, 2, 4, 5, 14] [(0, .slice A (ndg n) c), (2, pt p3 0), (4, pt p9 0), (5, .int .i64 (i : Int)), (14, .bool false)] (by kernel_rfl) rfl ?_
    refine GL.k rfl hK27 (fun _ _ h => h) ?_
    refine G.no rfl ?_
    refine G.exitK hK17 (fun _ _ h => h) ?_
    refine G.seqK fun K29 hK30 => ?_
    refine G.region ?_
    refine GL.sem (j := 1) (H23.ldA (o := 0) (ty := 23) (m := 4) (sub := [.int .u64 (wd V 0 : Int), .int .u64 (wd V 1 : Int), .int .u64 (wd V 2 : Int), .int .u64 (wd V 3 : Int)]) 1 rfl (by kernel_rfl) rfl rfl) [0, 2, 33] [(0, .slice A (ndg n) c), (2, pt p3 0), (33, wv V)] (by kernel_rfl) (by kernel_rfl) rfl ?_
    refine GL.run (j := 4) 3 [2, 33, 36] [(2, pt p3 0), (33, wv V), (36, .bool (decide (16 < (((ndg n) : Nat) : Int))))] (by kernel_rfl) rfl ?_
    obtain ⟨w31, r32, H33⟩ := H23.stA (P := Try.prog) (o := 0) (vs := [.int .u64 (wd V 0 : Int), .int .u64 (wd V 1 : Int), .int .u64 (wd V 2 : Int), .int .u64 (wd V 3 : Int)]) (ty := 23) (m := 4) 0 rfl (by kernel_rfl) rfl (by simp) (by simp [Value.oneCell'])
    have H33 : Hp w [] [.blk p3 [.int .u64 (wd V 0 : Int), .int .u64 (wd V 1 : Int), .int .u64 (wd V 2 : Int), .int .u64 (wd V 3 : Int)] 23, .blk p9 [.int .u64 (wd V 0 : Int), .int .u64 (wd V 1 : Int), .int .u64 (wd V 2 : Int), .int .u64 (wd V 3 : Int)] 23] w31 := H33
    refine GL.semU (j := 5) r32 [2, 36] [(2, pt p3 0), (36, .bool (decide (16 < (((ndg n) : Nat) : Int))))] (by kernel_rfl) rfl rfl rfl ?_
    refine GL.run (j := 6) 1 [2, 3] [(2, pt p3 0), (3, .bool (decide (16 < (((ndg n) : Nat) : Int))))] (by kernel_rfl) rfl ?_
    refine GL.k rfl hK30 (fun _ _ h => h) ?_
    refine G.ret ?_
    intro F_ hF_ hM_
    refine hRet _ _ (bodyPost_2 rfl (RV.cell rfl (H33.ldA (o := 0) (ty := 23) (m := 4) (sub := [.int .u64 (wd V 0 : Int), .int .u64 (wd V 1 : Int), .int .u64 (wd V 2 : Int), .int .u64 (wd V 3 : Int)]) 0 rfl (by kernel_rfl) rfl rfl)) (RV.tmp rfl) ?_ F_ hF_ hM_)
    have hEnd := words_end hV (by omega)
    rw [hEnd, words_over]
    exact ⟨rfl, H33.sub (List.nil_sublist _)⟩
  · skip
    have hb28f := of_decide_eq_true hb28
    refine GL.run (j := 8) 5 [0, 2, 4, 5, 14] [(0, .slice A (ndg n) c), (2, pt p3 0), (4, pt p9 0), (5, .int .i64 (i : Int)), (14, .bool (decide ((i : Int) < (((ndg n) : Nat) : Int))))] (by kernel_rfl) rfl ?_
    refine GL.k rfl hK27 (fun _ _ h => h) ?_
    cases hb34 : (decide ((i : Int) < (((ndg n) : Nat) : Int)))
    · skip
      have hb34f := of_decide_eq_false hb34
      refine G.no rfl ?_
      refine G.exitK hK17 (fun _ _ h => h) ?_
      refine G.seqK fun K35 hK36 => ?_
      refine G.region ?_
      refine GL.sem (j := 1) (H23.ldA (o := 0) (ty := 23) (m := 4) (sub := [.int .u64 (wd V 0 : Int), .int .u64 (wd V 1 : Int), .int .u64 (wd V 2 : Int), .int .u64 (wd V 3 : Int)]) 1 rfl (by kernel_rfl) rfl rfl) [0, 2, 33] [(0, .slice A (ndg n) c), (2, pt p3 0), (33, wv V)] (by kernel_rfl) (by kernel_rfl) rfl ?_
      refine GL.run (j := 4) 3 [2, 33, 36] [(2, pt p3 0), (33, wv V), (36, .bool (decide (16 < (((ndg n) : Nat) : Int))))] (by kernel_rfl) rfl ?_
      obtain ⟨w37, r38, H39⟩ := H23.stA (P := Try.prog) (o := 0) (vs := [.int .u64 (wd V 0 : Int), .int .u64 (wd V 1 : Int), .int .u64 (wd V 2 : Int), .int .u64 (wd V 3 : Int)]) (ty := 23) (m := 4) 0 rfl (by kernel_rfl) rfl (by simp) (by simp [Value.oneCell'])
      have H39 : Hp w [] [.blk p3 [.int .u64 (wd V 0 : Int), .int .u64 (wd V 1 : Int), .int .u64 (wd V 2 : Int), .int .u64 (wd V 3 : Int)] 23, .blk p9 [.int .u64 (wd V 0 : Int), .int .u64 (wd V 1 : Int), .int .u64 (wd V 2 : Int), .int .u64 (wd V 3 : Int)] 23] w37 := H39
      refine GL.semU (j := 5) r38 [2, 36] [(2, pt p3 0), (36, .bool (decide (16 < (((ndg n) : Nat) : Int))))] (by kernel_rfl) rfl rfl rfl ?_
      refine GL.run (j := 6) 1 [2, 3] [(2, pt p3 0), (3, .bool (decide (16 < (((ndg n) : Nat) : Int))))] (by kernel_rfl) rfl ?_
      refine GL.k rfl hK36 (fun _ _ h => h) ?_
      refine G.ret ?_
      intro F_ hF_ hM_
      refine hRet _ _ (bodyPost_2 rfl (RV.cell rfl (H39.ldA (o := 0) (ty := 23) (m := 4) (sub := [.int .u64 (wd V 0 : Int), .int .u64 (wd V 1 : Int), .int .u64 (wd V 2 : Int), .int .u64 (wd V 3 : Int)]) 0 rfl (by kernel_rfl) rfl rfl)) (RV.tmp rfl) ?_ F_ hF_ hM_)
      have hEnd := words_end hV (by omega)
      rw [hEnd, words_over]
      exact ⟨rfl, H39.sub (List.nil_sublist _)⟩
    · skip
      have hb34f := of_decide_eq_true hb34
      refine G.yes rfl ?_
      refine G.skipK hK25 (fun _ _ h => h) ?_
      refine G.seqK fun K40 hK41 => ?_
      refine G.block ?_
      refine G.tail 16 (by kernel_rfl) (by kernel_rfl) ?_
      have H42 := H23.drew
      generalize ({ w21 with drawn := w21.drawn + 1 } : World) = w43 at H42 ⊢
      refine GS.run (j := 4) 4 [0, 2, 4, 5, 18, 20] [(0, .slice A (ndg n) c), (2, pt p3 0), (4, pt p9 0), (5, .int .i64 (i : Int)), (18, .int .i64 (IntKind.i64.wrap (Int.tdiv (i : Int) 4))), (20, .int .i64 (IntKind.i64.wrap (Int.tdiv (i : Int) 4)))] (by kernel_rfl) rfl rfl ?_
      have e44 : (IntKind.i64.wrap (Int.tdiv (i : Int) 4)) = ((i / 4 : Nat) : Int) := i_quo 4 (by omega)
      refine GS.eq (M' := [(0, .slice A (ndg n) c), (2, pt p3 0), (4, pt p9 0), (5, .int .i64 (i : Int)), (18, .int .i64 ((i / 4 : Nat) : Int)), (20, .int .i64 ((i / 4 : Nat) : Int))]) (by rw [e44]) ?_
      clear e44
      refine GS.sem (j := 5) (run_idxArr (P := Try.prog) (k := .i64) (t := 23) (len := 4) (sz := 1) (b := p9) (o := 0) (j := i / 4) (by kernel_rfl) rfl (by omega)) [0, 2, 4, 5, 18, 21] [(0, .slice A (ndg n) c), (2, pt p3 0), (4, pt p9 0), (5, .int .i64 (i : Int)), (18, .int .i64 ((i / 4 : Nat) : Int)), (21, pt p9 (0 + (i / 4) * 1))] (by kernel_rfl) (by kernel_rfl) rfl rfl ?_
      refine GS.sem (j := 6) (H42.ld (o := (0 + (i / 4) * 1)) (ty := 22) (v := .int .u64 (wd V (i / 4) : Int)) 1 rfl (by kernel_rfl) (wd_cell V (by omega))) [0, 2, 4, 5, 18, 22] [(0, .slice A (ndg n) c), (2, pt p3 0), (4, pt p9 0), (5, .int .i64 (i : Int)), (18, .int .i64 ((i / 4 : Nat) : Int)), (22, .int .u64 (wd V (i / 4) : Int))] (by kernel_rfl) (by kernel_rfl) rfl rfl ?_
      refine GS.run (j := 8) 2 [0, 2, 4, 5, 18, 22, 23, 24] [(0, .slice A (ndg n) c), (2, pt p3 0), (4, pt p9 0), (5, .int .i64 (i : Int)), (18, .int .i64 ((i / 4 : Nat) : Int)), (22, .int .u64 (wd V (i / 4) : Int)), (23, .slice A (ndg n) c), (24, .int .i64 (i : Int))] (by kernel_rfl) rfl rfl ?_
      refine GS.sem (j := 9) (run_idxRd (P := Try.prog) (k := .i64) (t := 31) (A := A) (len := (ndg n)) (cap := c) (j := i) (by kernel_rfl) rfl (hr.hp H42) (dg_digs _) (by omega)) [0, 2, 4, 5, 18, 22, 25] [(0, .slice A (ndg n) c), (2, pt p3 0), (4, pt p9 0), (5, .int .i64 (i : Int)), (18, .int .i64 ((i / 4 : Nat) : Int)), (22, .int .u64 (wd V (i / 4) : Int)), (25, .pointer (Option.map (fun x => Addr.add x i) A))] (by kernel_rfl) (by kernel_rfl) rfl rfl ?_
      refine GS.sem (j := 10) (run_ldRd (P := Try.prog) (ty := 22) (A := A) (j := i) (v := .int .u64 ((dgt n i) : Int)) (by kernel_rfl) (hr.hp H42) (dg_at (digs_get (by omega)))) [0, 2, 4, 5, 18, 22, 26] [(0, .slice A (ndg n) c), (2, pt p3 0), (4, pt p9 0), (5, .int .i64 (i : Int)), (18, .int .i64 ((i / 4 : Nat) : Int)), (22, .int .u64 (wd V (i / 4) : Int)), (26, .int .u64 ((dgt n i) : Int))] (by kernel_rfl) (by kernel_rfl) rfl rfl ?_
      refine GS.run (j := 13) 3 [0, 2, 4, 5, 18, 22, 26, 29] [(0, .slice A (ndg n) c), (2, pt p3 0), (4, pt p9 0), (5, .int .i64 (i : Int)), (18, .int .i64 ((i / 4 : Nat) : Int)), (22, .int .u64 (wd V (i / 4) : Int)), (26, .int .u64 ((dgt n i) : Int)), (29, .int .i64 (IntKind.i64.wrap (16 * (Int.tmod (i : Int) 4))))] (by kernel_rfl) rfl rfl ?_
      have e45 : (Int.tmod (i : Int) 4) = ((i % 4 : Nat) : Int) := n_rem _ 4
      have e46 : (IntKind.i64.wrap (16 * ((i % 4 : Nat) : Int))) = ((16 * (i % 4) : Nat) : Int) := by rw [in_i64 (by omega)]; omega
      refine GS.eq (M' := [(0, .slice A (ndg n) c), (2, pt p3 0), (4, pt p9 0), (5, .int .i64 (i : Int)), (18, .int .i64 ((i / 4 : Nat) : Int)), (22, .int .u64 (wd V (i / 4) : Int)), (26, .int .u64 ((dgt n i) : Int)), (29, .int .i64 ((16 * (i % 4) : Nat) : Int))]) (by rw [e45, e46]) ?_
      clear e45 e46
      have hroom := dig_room hVp (by omega) hdl
      refine GS.sem (j := 14) (run_shlN (P := Try.prog) (k' := .i64) (t := 22) (a := (dgt n i)) (r := (16 * (i % 4))) (by omega) _) [0, 2, 4, 5, 18, 22, 30] [(0, .slice A (ndg n) c), (2, pt p3 0), (4, pt p9 0), (5, .int .i64 (i : Int)), (18, .int .i64 ((i / 4 : Nat) : Int)), (22, .int .u64 (wd V (i / 4) : Int)), (30, .int .u64 (((dgt n i) * 2 ^ (16 * (i % 4)) % K : Nat) : Int))] (by kernel_rfl) (by kernel_rfl) rfl rfl ?_
      have e47 : ((dgt n i) * 2 ^ (16 * (i % 4)) % K : Nat) = (dgt n i) * 2 ^ (16 * (i % 4)) := Nat.mod_eq_of_lt hroom.2.1
      refine GS.eq (M' := [(0, .slice A (ndg n) c), (2, pt p3 0), (4, pt p9 0), (5, .int .i64 (i : Int)), (18, .int .i64 ((i / 4 : Nat) : Int)), (22, .int .u64 (wd V (i / 4) : Int)), (30, .int .u64 (((dgt n i) * 2 ^ (16 * (i % 4)) : Nat) : Int))]) (by rw [e47]) ?_
      refine GS.run (j := 15) 1 [0, 2, 4, 5, 18, 31] [(0, .slice A (ndg n) c), (2, pt p3 0), (4, pt p9 0), (5, .int .i64 (i : Int)), (18, .int .i64 ((i / 4 : Nat) : Int)), (31, .int .u64 (IntKind.u64.wrap ((wd V (i / 4) : Int) + (((dgt n i) * 2 ^ (16 * (i % 4)) : Nat) : Int))))] (by kernel_rfl) rfl rfl ?_
      have e48 : (IntKind.u64.wrap ((wd V (i / 4) : Int) + (((dgt n i) * 2 ^ (16 * (i % 4)) : Nat) : Int))) = (((wd V (i / 4)) + ((dgt n i) * 2 ^ (16 * (i % 4))) : Nat) : Int) := n_add' (a := (wd V (i / 4))) (b := ((dgt n i) * 2 ^ (16 * (i % 4)))) hroom.2.2
      refine GS.eq (M' := [(0, .slice A (ndg n) c), (2, pt p3 0), (4, pt p9 0), (5, .int .i64 (i : Int)), (18, .int .i64 ((i / 4 : Nat) : Int)), (31, .int .u64 (((wd V (i / 4)) + ((dgt n i) * 2 ^ (16 * (i % 4))) : Nat) : Int))]) (by rw [e48]) ?_
      clear e48
      refine GS.sem (j := 16) (run_idxArr (P := Try.prog) (k := .i64) (t := 23) (len := 4) (sz := 1) (b := p9) (o := 0) (j := i / 4) (by kernel_rfl) rfl (by omega)) [0, 2, 4, 5, 31, 32] [(0, .slice A (ndg n) c), (2, pt p3 0), (4, pt p9 0), (5, .int .i64 (i : Int)), (31, .int .u64 (((wd V (i / 4)) + ((dgt n i) * 2 ^ (16 * (i % 4))) : Nat) : Int)), (32, pt p9 (0 + (i / 4) * 1))] (by kernel_rfl) (by kernel_rfl) rfl rfl ?_
      refine GS.tail rfl ?_
      obtain ⟨w49, r50, H51⟩ := H42.st (P := Try.prog) (o := (0 + (i / 4) * 1)) (ty := 22) (v := .int .u64 (((wd V (i / 4)) + ((dgt n i) * 2 ^ (16 * (i % 4))) : Nat) : Int)) 1 rfl (by kernel_rfl) (by show (0 + (i / 4) * 1) < 4; omega) rfl
      rw [setdig hVp (by omega) hdl] at H51
      have H51 : Hp w [] [.blk p3 [.int .u64 0, .int .u64 0, .int .u64 0, .int .u64 0] 23, .blk p9 [.int .u64 (wd (V + 65536 ^ i * dgt n i) 0 : Int), .int .u64 (wd (V + 65536 ^ i * dgt n i) 1 : Int), .int .u64 (wd (V + 65536 ^ i * dgt n i) 2 : Int), .int .u64 (wd (V + 65536 ^ i * dgt n i) 3 : Int)] 23] w49 := H51
      refine GL.semU (j := 17) r50 [0, 2, 4, 5] [(0, .slice A (ndg n) c), (2, pt p3 0), (4, pt p9 0), (5, .int .i64 (i : Int))] (by kernel_rfl) rfl rfl rfl ?_
      refine GL.k rfl hK41 (fun _ _ h => h) ?_
      refine G.region ?_
      refine GL.run (j := 3) 3 [0, 2, 4, 5] [(0, .slice A (ndg n) c), (2, pt p3 0), (4, pt p9 0), (5, .int .i64 (IntKind.i64.wrap ((i : Int) + 1)))] (by kernel_rfl) rfl ?_
      have e52 : (IntKind.i64.wrap ((i : Int) + 1)) = ((i + 1 : Nat) : Int) := by rw [in_i64 (by omega)]; omega
      refine GL.eq (M' := [(0, .slice A (ndg n) c), (2, pt p3 0), (4, pt p9 0), (5, .int .i64 ((i + 1 : Nat) : Int))]) (by rw [e52]) ?_
      clear e52
      refine GL.fit (ts := [0, 2, 4, 5]) (M' := [(0, .slice A (ndg n) c), (2, pt p3 0), (4, pt p9 0), (5, .int .i64 ((i + 1 : Nat) : Int))]) (by kernel_rfl) ?_
      refine GL.eq (M' := [(0, .slice A (ndg n) c), (2, pt p3 0), (4, pt p9 0), (5, .int .i64 (((i + 1) : Nat) : Int))]) (by rfl) ?_
      exact GL.again ⟨(i + 1), (V + 65536 ^ i * dgt n i)⟩ [0, 2, 4, 5] rfl (by kernel_rfl) (by show 16 - (i + 1) < 16 - i; omega) ⟨⟨by omega, by omega, by rw [hV, low_step]⟩, H51⟩
end Go.Proofs.Ytjfllmkihfidcaa
