/- The document's numbers: products, halves, words. -/
import Derived.Test.YtljfofnpjmlobaaNum
namespace Go.Proofs.Ytljfofnpjmlobaa
open Go.RowKit
theorem MulN_calls (a b : Nat) (A : Option Addr) (c : Nat) (B : Option Addr) (d : Nat) (w : World) (hr : RdS w A (dg (digs a))) (hs : RdS w B (dg (digs b))) (hna : ndg a ≤ 100000) (hnb : ndg b ≤ 100000) : Calls Try.prog 25 #[.slice A (ndg a) c, .slice B (ndg b) d] w fun e w' => ∃ A c, e = .returned ((.slice A (ndg (a * b)) c)) ∧ Hp w [] [.row A (ndg (a * b)) c 22 1 (dg (digs (a * b)))] w' := by
  have hMX : MX = 4611686018427387904 := rfl
  have hK0 : K = 18446744073709551616 := rfl
  have hK40 : K4 = 115792089237316195423570985008687907853269984665640564039457584007913129639936 := rfl
  refine calls_G (args := [.slice A (ndg a) c, .slice B (ndg b) d]) Try.func25 rfl Try.ntmps25 rfl ?_
  intro Q0 hRet hNor hPan
  have H := Hp.start w
  have H : Hp w [] [] w := H
  refine G.seqK fun K1 hK2 => ?_
  refine G.region ?_
  refine GL.run (j := 1) 1 [0, 1] [(0, .slice A (ndg a) c), (1, .slice B (ndg b) d)] (by kernel_rfl) rfl ?_
  refine GL.k rfl hK2 (fun _ _ h => h) ?_
  refine G.seqK fun K3 hK4 => ?_
  refine G.region ?_
  refine GL.run (j := 6) 6 [0, 1, 15] [(0, .slice A (ndg a) c), (1, .slice B (ndg b) d), (15, .int .i64 (IntKind.i64.wrap ((IntKind.i64.wrap ((((ndg a) : Nat) : Int) + (((ndg b) : Nat) : Int))) + 1)))] (by kernel_rfl) rfl ?_
  have e5 : (IntKind.i64.wrap ((((ndg a) : Nat) : Int) + (((ndg b) : Nat) : Int))) = (((ndg a) + (ndg b) : Nat) : Int) := by rw [in_i64 (by omega)]; omega
  have e6 : (IntKind.i64.wrap ((((ndg a) + (ndg b) : Nat) : Int) + 1)) = ((((ndg a) + (ndg b)) + 1 : Nat) : Int) := by rw [in_i64 (by omega)]; omega
  refine GL.eq (M' := [(0, .slice A (ndg a) c), (1, .slice B (ndg b) d), (15, .int .i64 ((((ndg a) + (ndg b)) + 1 : Nat) : Int))]) (by rw [e5, e6]) ?_
  clear e5 e6
  obtain ⟨p7, w8, r9, H10⟩ := H.makeD (P := Try.prog) (t := 52) (e := 22) (n := ((ndg a) + (ndg b)) + 1) (kl := .i64) (kc := .i64) (by kernel_rfl) (by omega)
  have H10 : Hp w [] [.row (some ⟨p7, 0, none⟩) (((ndg a) + (ndg b)) + 1) (((ndg a) + (ndg b)) + 1) 22 1 (dg (List.replicate (((ndg a) + (ndg b)) + 1) 0))] w8 := H10
  refine GL.sem (j := 7) (r9) [0, 1, 16] [(0, .slice A (ndg a) c), (1, .slice B (ndg b) d), (16, .slice (some ⟨p7, 0, none⟩) (((ndg a) + (ndg b)) + 1) (((ndg a) + (ndg b)) + 1))] (by kernel_rfl) (by kernel_rfl) rfl ?_
  refine GL.run (j := 8) 1 [0, 1, 5] [(0, .slice A (ndg a) c), (1, .slice B (ndg b) d), (5, .slice (some ⟨p7, 0, none⟩) (((ndg a) + (ndg b)) + 1) (((ndg a) + (ndg b)) + 1))] (by kernel_rfl) rfl ?_
  refine GL.k rfl hK4 (fun _ _ h => h) ?_
  refine G.seqK fun K11 hK12 => ?_
  refine G.seqK fun K13 hK14 => ?_
  refine G.region ?_
  refine GL.run (j := 3) 3 [1, 5, 17, 18, 19] [(1, .slice B (ndg b) d), (5, .slice (some ⟨p7, 0, none⟩) (((ndg a) + (ndg b)) + 1) (((ndg a) + (ndg b)) + 1)), (17, .slice A (ndg a) c), (18, .int .i64 (((ndg a) : Nat) : Int)), (19, .int .i64 0)] (by kernel_rfl) rfl ?_
  refine GL.k rfl hK14 (fun _ _ h => h) ?_
  refine G.block ?_
  refine G.fit [1, 5, 17, 18, 19] (M' := [(1, .slice B (ndg b) d), (5, .slice (some ⟨p7, 0, none⟩) (((ndg a) + (ndg b)) + 1) (((ndg a) + (ndg b)) + 1)), (17, .slice A (ndg a) c), (18, .int .i64 (((ndg a) : Nat) : Int)), (19, .int .i64 0)]) (by kernel_rfl) ?_
  refine G.loop (X := Nat × List Nat) (fun ⟨i, xs⟩ => [(1, .slice B (ndg b) d), (5, .slice (some ⟨p7, 0, none⟩) (((ndg a) + (ndg b)) + 1) (((ndg a) + (ndg b)) + 1)), (17, .slice A (ndg a) c), (18, .int .i64 (((ndg a) : Nat) : Int)), (19, .int .i64 (i : Int))]) (fun ⟨i, xs⟩ w_ => (xs.length = ((ndg a) + (ndg b)) + 1 ∧ ok16 xs ∧ i ≤ ndg a ∧ val xs = a % 65536 ^ i * b) ∧ Hp w [] [.row (some ⟨p7, 0, none⟩) (((ndg a) + (ndg b)) + 1) (((ndg a) + (ndg b)) + 1) 22 1 (dg xs)] w_) (fun ⟨i, xs⟩ => ndg a - i) ⟨0, (List.replicate (((ndg a) + (ndg b)) + 1) 0)⟩ [1, 5, 17, 18, 19] (by kernel_rfl) ⟨⟨by simp, ok_zeros _, by omega, by rw [val_zeros]; simp [Nat.mod_one]⟩, H10⟩ ?_
  rintro ⟨i, xs⟩ w15 ⟨hi16, H17⟩
  refine G.eq (M' := [(1, .slice B (ndg b) d), (5, .slice (some ⟨p7, 0, none⟩) (((ndg a) + (ndg b)) + 1) (((ndg a) + (ndg b)) + 1)), (17, .slice A (ndg a) c), (18, .int .i64 (((ndg a) : Nat) : Int)), (19, .int .i64 (i : Int))]) rfl ?_
  have H17 : Hp w [] [.row (some ⟨p7, 0, none⟩) (((ndg a) + (ndg b)) + 1) (((ndg a) + (ndg b)) + 1) 22 1 (dg xs)] w15 := H17
  obtain ⟨hxl, hxok, hib, hxv⟩ := hi16
  refine G.seqK fun K18 hK19 => ?_
  refine G.region ?_
  refine GL.run (j := 1) 1 [1, 5, 17, 18, 19, 20] [(1, .slice B (ndg b) d), (5, .slice (some ⟨p7, 0, none⟩) (((ndg a) + (ndg b)) + 1) (((ndg a) + (ndg b)) + 1)), (17, .slice A (ndg a) c), (18, .int .i64 (((ndg a) : Nat) : Int)), (19, .int .i64 (i : Int)), (20, .bool (decide ((i : Int) < (((ndg a) : Nat) : Int))))] (by kernel_rfl) rfl ?_
  refine GL.k rfl hK19 (fun _ _ h => h) ?_
  refine G.seqK fun K20 hK21 => ?_
  cases hb22 : (decide ((i : Int) < (((ndg a) : Nat) : Int)))
  · skip
    have hb22f := of_decide_eq_false hb22
    refine G.no rfl ?_
    refine G.exitK hK12 (fun _ _ h => h) ?_
    refine G.seqK fun K23 hK24 => ?_
    refine G.region ?_
    refine GL.run (j := 1) 1 [58] [(58, .slice (some ⟨p7, 0, none⟩) (((ndg a) + (ndg b)) + 1) (((ndg a) + (ndg b)) + 1))] (by kernel_rfl) rfl ?_
    have hval : val xs = a * b := mul_done (by omega) hxv
    refine GL.call (j := 2) (trim_calls xs (((ndg a) + (ndg b)) + 1) (hxl.symm) (some ⟨p7, 0, none⟩) (((ndg a) + (ndg b)) + 1) w15 (H17.rdRow 0 rfl) (hxok) (H17.rowLe 0 rfl).1 (by omega)) (by kernel_rfl) rfl (fun e_ w25 hR => ?_)
    obtain ⟨rfl, H27⟩ := hR
    have H26 := (H17.callNil H27).shrinkD 0 rfl (hxl.symm) (hxok)
    rw [hval] at H26
    rw [hval]
    have H26 : Hp w [] [.row (some ⟨p7, 0, none⟩) (ndg (a * b)) (((ndg a) + (ndg b)) + 1) 22 1 (dg (digs (a * b)))] w25 := H26
    refine ⟨_, rfl, [59], [(59, .slice (some ⟨p7, 0, none⟩) (ndg (a * b)) (((ndg a) + (ndg b)) + 1))], by kernel_rfl, ?_⟩
    refine GL.run (j := 3) 1 [4] [(4, .slice (some ⟨p7, 0, none⟩) (ndg (a * b)) (((ndg a) + (ndg b)) + 1))] (by kernel_rfl) rfl ?_
    refine GL.k rfl hK24 (fun _ _ h => h) ?_
    refine G.ret ?_
    intro F_ hF_ hM_
    refine hRet _ _ (bodyPost_1 rfl (RV.tmp rfl) ?_ F_ hF_ hM_)
    exact ⟨_, _, rfl, H26⟩
  · skip
    have hb22f := of_decide_eq_true hb22
    refine G.yes rfl ?_
    refine G.skipK hK21 (fun _ _ h => h) ?_
    refine G.seqK fun K28 hK29 => ?_
    refine G.block ?_
    refine G.seqK fun K30 hK31 => ?_
    refine G.region ?_
    refine GL.run (j := 1) 1 [1, 5, 17, 18, 19, 21] [(1, .slice B (ndg b) d), (5, .slice (some ⟨p7, 0, none⟩) (((ndg a) + (ndg b)) + 1) (((ndg a) + (ndg b)) + 1)), (17, .slice A (ndg a) c), (18, .int .i64 (((ndg a) : Nat) : Int)), (19, .int .i64 (i : Int)), (21, .int .i64 (i : Int))] (by kernel_rfl) rfl ?_
    refine GL.sem (j := 2) (run_idxRd (P := Try.prog) (k := .i64) (t := 52) (A := A) (len := (ndg a)) (cap := c) (j := i) (by kernel_rfl) rfl (hr.hp H17) (dg_digs _) (by omega)) [1, 5, 17, 18, 19, 21, 22] [(1, .slice B (ndg b) d), (5, .slice (some ⟨p7, 0, none⟩) (((ndg a) + (ndg b)) + 1) (((ndg a) + (ndg b)) + 1)), (17, .slice A (ndg a) c), (18, .int .i64 (((ndg a) : Nat) : Int)), (19, .int .i64 (i : Int)), (21, .int .i64 (i : Int)), (22, .pointer (Option.map (fun x => Addr.add x i) A))] (by kernel_rfl) (by kernel_rfl) rfl ?_
    refine GL.sem (j := 3) (run_ldRd (P := Try.prog) (ty := 22) (A := A) (j := i) (v := .int .u64 ((dgt a i) : Int)) (by kernel_rfl) (hr.hp H17) (dg_at (digs_get (by omega)))) [1, 5, 17, 18, 19, 21, 23] [(1, .slice B (ndg b) d), (5, .slice (some ⟨p7, 0, none⟩) (((ndg a) + (ndg b)) + 1) (((ndg a) + (ndg b)) + 1)), (17, .slice A (ndg a) c), (18, .int .i64 (((ndg a) : Nat) : Int)), (19, .int .i64 (i : Int)), (21, .int .i64 (i : Int)), (23, .int .u64 ((dgt a i) : Int))] (by kernel_rfl) (by kernel_rfl) rfl ?_
    refine GL.run (j := 5) 2 [1, 5, 6, 7, 17, 18, 19] [(1, .slice B (ndg b) d), (5, .slice (some ⟨p7, 0, none⟩) (((ndg a) + (ndg b)) + 1) (((ndg a) + (ndg b)) + 1)), (6, .int .i64 (i : Int)), (7, .int .u64 ((dgt a i) : Int)), (17, .slice A (ndg a) c), (18, .int .i64 (((ndg a) : Nat) : Int)), (19, .int .i64 (i : Int))] (by kernel_rfl) rfl ?_
    refine GL.k rfl hK31 (fun _ _ h => h) ?_
    refine G.seqK fun K32 hK33 => ?_
    refine G.region ?_
    refine GL.run (j := 1) 1 [1, 5, 6, 7, 8, 17, 18, 19] [(1, .slice B (ndg b) d), (5, .slice (some ⟨p7, 0, none⟩) (((ndg a) + (ndg b)) + 1) (((ndg a) + (ndg b)) + 1)), (6, .int .i64 (i : Int)), (7, .int .u64 ((dgt a i) : Int)), (8, .int .u64 0), (17, .slice A (ndg a) c), (18, .int .i64 (((ndg a) : Nat) : Int)), (19, .int .i64 (i : Int))] (by kernel_rfl) rfl ?_
    refine GL.k rfl hK33 (fun _ _ h => h) ?_
    refine G.seqK fun K34 hK35 => ?_
    refine G.region ?_
    refine GL.run (j := 1) 1 [1, 5, 6, 7, 8, 9, 17, 18, 19] [(1, .slice B (ndg b) d), (5, .slice (some ⟨p7, 0, none⟩) (((ndg a) + (ndg b)) + 1) (((ndg a) + (ndg b)) + 1)), (6, .int .i64 (i : Int)), (7, .int .u64 ((dgt a i) : Int)), (8, .int .u64 0), (9, .int .i64 0), (17, .slice A (ndg a) c), (18, .int .i64 (((ndg a) : Nat) : Int)), (19, .int .i64 (i : Int))] (by kernel_rfl) rfl ?_
    refine GL.k rfl hK35 (fun _ _ h => h) ?_
    refine G.block ?_
    refine G.fit [1, 5, 6, 7, 8, 9, 17, 18, 19] (M' := [(1, .slice B (ndg b) d), (5, .slice (some ⟨p7, 0, none⟩) (((ndg a) + (ndg b)) + 1) (((ndg a) + (ndg b)) + 1)), (6, .int .i64 (i : Int)), (7, .int .u64 ((dgt a i) : Int)), (8, .int .u64 0), (9, .int .i64 0), (17, .slice A (ndg a) c), (18, .int .i64 (((ndg a) : Nat) : Int)), (19, .int .i64 (i : Int))]) (by kernel_rfl) ?_
    refine G.loop (X := Nat × Nat × List Nat) (fun ⟨k, cy, ys⟩ => [(1, .slice B (ndg b) d), (5, .slice (some ⟨p7, 0, none⟩) (((ndg a) + (ndg b)) + 1) (((ndg a) + (ndg b)) + 1)), (6, .int .i64 (i : Int)), (7, .int .u64 ((dgt a i) : Int)), (8, .int .u64 (cy : Int)), (9, .int .i64 (k : Int)), (17, .slice A (ndg a) c), (18, .int .i64 (((ndg a) : Nat) : Int)), (19, .int .i64 (i : Int))]) (fun ⟨k, cy, ys⟩ w_ => (ys.length = ((ndg a) + (ndg b)) + 1 ∧ ok16 ys ∧ cy < 65536 ∧ val ys + 65536 ^ (i + k) * cy = a % 65536 ^ i * b + dgt a i * (65536 ^ i * (b % 65536 ^ k))) ∧ Hp w [] [.row (some ⟨p7, 0, none⟩) (((ndg a) + (ndg b)) + 1) (((ndg a) + (ndg b)) + 1) 22 1 (dg ys)] w_) (fun ⟨k, cy, ys⟩ => ndg b + 1 - k) ⟨0, 0, xs⟩ [1, 5, 6, 7, 8, 9, 17, 18, 19] (by kernel_rfl) ⟨⟨hxl, hxok, by decide, mul_start hxv⟩, H17⟩ ?_
    rintro ⟨k, cy, ys⟩ w36 ⟨hi37, H38⟩
    refine G.eq (M' := [(1, .slice B (ndg b) d), (5, .slice (some ⟨p7, 0, none⟩) (((ndg a) + (ndg b)) + 1) (((ndg a) + (ndg b)) + 1)), (6, .int .i64 (i : Int)), (7, .int .u64 ((dgt a i) : Int)), (8, .int .u64 (cy : Int)), (9, .int .i64 (k : Int)), (17, .slice A (ndg a) c), (18, .int .i64 (((ndg a) : Nat) : Int)), (19, .int .i64 (i : Int))]) rfl ?_
    have H38 : Hp w [] [.row (some ⟨p7, 0, none⟩) (((ndg a) + (ndg b)) + 1) (((ndg a) + (ndg b)) + 1) 22 1 (dg ys)] w36 := H38
    obtain ⟨hyl, hyok, hcy, hyv⟩ := hi37
    have hms := mul_small (c := 0) (d := 0) (by decide) (by decide) (dgt_lt a i) (dgt_lt b k)
    refine G.seqK fun K39 hK40 => ?_
    refine G.seqK fun K41 hK42 => ?_
    refine G.region ?_
    refine GL.run (j := 5) 5 [1, 5, 6, 7, 8, 9, 17, 18, 19, 28] [(1, .slice B (ndg b) d), (5, .slice (some ⟨p7, 0, none⟩) (((ndg a) + (ndg b)) + 1) (((ndg a) + (ndg b)) + 1)), (6, .int .i64 (i : Int)), (7, .int .u64 ((dgt a i) : Int)), (8, .int .u64 (cy : Int)), (9, .int .i64 (k : Int)), (17, .slice A (ndg a) c), (18, .int .i64 (((ndg a) : Nat) : Int)), (19, .int .i64 (i : Int)), (28, .bool (decide ((k : Int) < (((ndg b) : Nat) : Int))))] (by kernel_rfl) rfl ?_
    cases hb43 : (decide ((k : Int) < (((ndg b) : Nat) : Int)))
    · skip
      have hb43f := of_decide_eq_false hb43
      refine GL.run (j := 8) 3 [1, 5, 6, 7, 8, 9, 17, 18, 19, 31] [(1, .slice B (ndg b) d), (5, .slice (some ⟨p7, 0, none⟩) (((ndg a) + (ndg b)) + 1) (((ndg a) + (ndg b)) + 1)), (6, .int .i64 (i : Int)), (7, .int .u64 ((dgt a i) : Int)), (8, .int .u64 (cy : Int)), (9, .int .i64 (k : Int)), (17, .slice A (ndg a) c), (18, .int .i64 (((ndg a) : Nat) : Int)), (19, .int .i64 (i : Int)), (31, .bool (decide (0 < (cy : Int))))] (by kernel_rfl) rfl ?_
      refine GL.k rfl hK42 (fun _ _ h => h) ?_
      cases hb44 : (decide (0 < (cy : Int)))
      · skip
        have hb44f := of_decide_eq_false hb44
        have hcy0 : cy = 0 := by omega
        rw [hcy0] at hyv
        refine G.no rfl ?_
        refine G.exitK hK29 (fun _ _ h => h) ?_
        refine G.region ?_
        refine GL.run (j := 2) 2 [1, 5, 17, 18, 19] [(1, .slice B (ndg b) d), (5, .slice (some ⟨p7, 0, none⟩) (((ndg a) + (ndg b)) + 1) (((ndg a) + (ndg b)) + 1)), (17, .slice A (ndg a) c), (18, .int .i64 (((ndg a) : Nat) : Int)), (19, .int .i64 (IntKind.i64.wrap ((i : Int) + 1)))] (by kernel_rfl) rfl ?_
        have e45 : (IntKind.i64.wrap ((i : Int) + 1)) = ((i + 1 : Nat) : Int) := by rw [in_i64 (by omega)]; omega
        refine GL.eq (M' := [(1, .slice B (ndg b) d), (5, .slice (some ⟨p7, 0, none⟩) (((ndg a) + (ndg b)) + 1) (((ndg a) + (ndg b)) + 1)), (17, .slice A (ndg a) c), (18, .int .i64 (((ndg a) : Nat) : Int)), (19, .int .i64 ((i + 1 : Nat) : Int))]) (by rw [e45]) ?_
        clear e45
        refine GL.fit (ts := [1, 5, 17, 18, 19]) (M' := [(1, .slice B (ndg b) d), (5, .slice (some ⟨p7, 0, none⟩) (((ndg a) + (ndg b)) + 1) (((ndg a) + (ndg b)) + 1)), (17, .slice A (ndg a) c), (18, .int .i64 (((ndg a) : Nat) : Int)), (19, .int .i64 ((i + 1 : Nat) : Int))]) (by kernel_rfl) ?_
        refine GL.eq (M' := [(1, .slice B (ndg b) d), (5, .slice (some ⟨p7, 0, none⟩) (((ndg a) + (ndg b)) + 1) (((ndg a) + (ndg b)) + 1)), (17, .slice A (ndg a) c), (18, .int .i64 (((ndg a) : Nat) : Int)), (19, .int .i64 (((i + 1) : Nat) : Int))]) (by rfl) ?_
        exact GL.again ⟨(i + 1), ys⟩ [1, 5, 17, 18, 19] rfl (by kernel_rfl) (by show ndg a - (i + 1) < ndg a - i; omega) ⟨⟨hyl, hyok, by omega, mul_next (by omega) hyv⟩, H38⟩
      · skip
        have hb44f := of_decide_eq_true hb44
        have hkb : k ≤ ndg b := mul_in hyv (by omega)
        refine G.yes rfl ?_
        refine G.skipK hK40 (fun _ _ h => h) ?_
        refine G.seqK fun K46 hK47 => ?_
        refine G.block ?_
        refine G.seqK fun K48 hK49 => ?_
        refine G.draw H38 (by kernel_rfl) (by kernel_rfl) ?_
        refine GQ.run (j := 5) 5 [1, 5, 6, 7, 9, 17, 18, 19, 34, 35, 38] [(1, .slice B (ndg b) d), (5, .slice (some ⟨p7, 0, none⟩) (((ndg a) + (ndg b)) + 1) (((ndg a) + (ndg b)) + 1)), (6, .int .i64 (i : Int)), (7, .int .u64 ((dgt a i) : Int)), (9, .int .i64 (k : Int)), (17, .slice A (ndg a) c), (18, .int .i64 (((ndg a) : Nat) : Int)), (19, .int .i64 (i : Int)), (34, .int .u64 (cy : Int)), (35, .slice (some ⟨p7, 0, none⟩) (((ndg a) + (ndg b)) + 1) (((ndg a) + (ndg b)) + 1)), (38, .int .i64 (IntKind.i64.wrap ((i : Int) + (k : Int))))] (by kernel_rfl) rfl ?_
        have e50 : (IntKind.i64.wrap ((i : Int) + (k : Int))) = ((i + k : Nat) : Int) := by rw [in_i64 (by omega)]; omega
        refine GQ.eq (M' := [(1, .slice B (ndg b) d), (5, .slice (some ⟨p7, 0, none⟩) (((ndg a) + (ndg b)) + 1) (((ndg a) + (ndg b)) + 1)), (6, .int .i64 (i : Int)), (7, .int .u64 ((dgt a i) : Int)), (9, .int .i64 (k : Int)), (17, .slice A (ndg a) c), (18, .int .i64 (((ndg a) : Nat) : Int)), (19, .int .i64 (i : Int)), (34, .int .u64 (cy : Int)), (35, .slice (some ⟨p7, 0, none⟩) (((ndg a) + (ndg b)) + 1) (((ndg a) + (ndg b)) + 1)), (38, .int .i64 ((i + k : Nat) : Int))]) (by rw [e50]) ?_
        clear e50
        refine GQ.sem (j := 6) (fun w_ H_ => run_idxRd (P := Try.prog) (k := .i64) (t := 52) (A := (some ⟨p7, 0, none⟩)) (len := ((ndg a) + (ndg b)) + 1) (cap := ((ndg a) + (ndg b)) + 1) (j := i + k) (by kernel_rfl) rfl (H_.rdRow 0 rfl) (by first | exact dg_length _ | rw [dg_length]; first | rfl | assumption | (symm; assumption) | (simp; done) | (rw [List.length_take]; omega) | omega) (by omega)) [1, 5, 6, 7, 9, 17, 18, 19, 34, 39] [(1, .slice B (ndg b) d), (5, .slice (some ⟨p7, 0, none⟩) (((ndg a) + (ndg b)) + 1) (((ndg a) + (ndg b)) + 1)), (6, .int .i64 (i : Int)), (7, .int .u64 ((dgt a i) : Int)), (9, .int .i64 (k : Int)), (17, .slice A (ndg a) c), (18, .int .i64 (((ndg a) : Nat) : Int)), (19, .int .i64 (i : Int)), (34, .int .u64 (cy : Int)), (39, .pointer (Option.map (fun x => Addr.add x (i + k)) (some ⟨p7, 0, none⟩)))] (by kernel_rfl) (by kernel_rfl) rfl ?_
        obtain ⟨d51, hd52⟩ : ∃ d : Nat, (ys)[i + k]? = some d := ⟨_, List.getElem?_eq_getElem (by omega)⟩
        have hdx := hd52
        have hdB := ok_at hyok hdx
        refine GQ.sem (j := 7) (fun w_ H_ => run_ldRd (P := Try.prog) (ty := 22) (A := (some ⟨p7, 0, none⟩)) (j := i + k) (v := .int .u64 (d51 : Int)) (by kernel_rfl) (H_.rdRow 0 rfl) (dg_at hd52)) [1, 5, 6, 7, 9, 17, 18, 19, 34, 40] [(1, .slice B (ndg b) d), (5, .slice (some ⟨p7, 0, none⟩) (((ndg a) + (ndg b)) + 1) (((ndg a) + (ndg b)) + 1)), (6, .int .i64 (i : Int)), (7, .int .u64 ((dgt a i) : Int)), (9, .int .i64 (k : Int)), (17, .slice A (ndg a) c), (18, .int .i64 (((ndg a) : Nat) : Int)), (19, .int .i64 (i : Int)), (34, .int .u64 (cy : Int)), (40, .int .u64 (d51 : Int))] (by kernel_rfl) (by kernel_rfl) rfl ?_
        refine GQ.run (j := 11) 4 [1, 5, 6, 7, 9, 17, 18, 19, 41, 42, 43, 44] [(1, .slice B (ndg b) d), (5, .slice (some ⟨p7, 0, none⟩) (((ndg a) + (ndg b)) + 1) (((ndg a) + (ndg b)) + 1)), (6, .int .i64 (i : Int)), (7, .int .u64 ((dgt a i) : Int)), (9, .int .i64 (k : Int)), (17, .slice A (ndg a) c), (18, .int .i64 (((ndg a) : Nat) : Int)), (19, .int .i64 (i : Int)), (41, .int .u64 (IntKind.u64.wrap ((cy : Int) + (d51 : Int)))), (42, .int .u64 ((dgt a i) : Int)), (43, .slice B (ndg b) d), (44, .int .i64 (k : Int))] (by kernel_rfl) rfl ?_
        have e53 : (IntKind.u64.wrap ((cy : Int) + (d51 : Int))) = ((cy + d51 : Nat) : Int) := n_add' (a := cy) (b := d51) (by omega)
        refine GQ.eq (M' := [(1, .slice B (ndg b) d), (5, .slice (some ⟨p7, 0, none⟩) (((ndg a) + (ndg b)) + 1) (((ndg a) + (ndg b)) + 1)), (6, .int .i64 (i : Int)), (7, .int .u64 ((dgt a i) : Int)), (9, .int .i64 (k : Int)), (17, .slice A (ndg a) c), (18, .int .i64 (((ndg a) : Nat) : Int)), (19, .int .i64 (i : Int)), (41, .int .u64 ((cy + d51 : Nat) : Int)), (42, .int .u64 ((dgt a i) : Int)), (43, .slice B (ndg b) d), (44, .int .i64 (k : Int))]) (by rw [e53]) ?_
        clear e53
        refine GQ.call (fun w_ H_ => (digit_calls b k B d w_ (hs.hp H_)).mono fun e_ w2_ ⟨he_, h2_⟩ => ⟨he_, H_.callNil h2_⟩) [1, 5, 6, 7, 9, 17, 18, 19, 41, 42, 45] [(1, .slice B (ndg b) d), (5, .slice (some ⟨p7, 0, none⟩) (((ndg a) + (ndg b)) + 1) (((ndg a) + (ndg b)) + 1)), (6, .int .i64 (i : Int)), (7, .int .u64 ((dgt a i) : Int)), (9, .int .i64 (k : Int)), (17, .slice A (ndg a) c), (18, .int .i64 (((ndg a) : Nat) : Int)), (19, .int .i64 (i : Int)), (41, .int .u64 ((cy + d51 : Nat) : Int)), (42, .int .u64 ((dgt a i) : Int)), (45, .int .u64 ((dgt b k) : Int))] (by kernel_rfl) (by kernel_rfl) (j := 12) rfl ?_
        refine GQ.run (j := 15) 3 [1, 5, 6, 7, 8, 9, 17, 18, 19] [(1, .slice B (ndg b) d), (5, .slice (some ⟨p7, 0, none⟩) (((ndg a) + (ndg b)) + 1) (((ndg a) + (ndg b)) + 1)), (6, .int .i64 (i : Int)), (7, .int .u64 ((dgt a i) : Int)), (8, .int .u64 (IntKind.u64.wrap (((cy + d51 : Nat) : Int) + (IntKind.u64.wrap (((dgt a i) : Int) * ((dgt b k) : Int)))))), (9, .int .i64 (k : Int)), (17, .slice A (ndg a) c), (18, .int .i64 (((ndg a) : Nat) : Int)), (19, .int .i64 (i : Int))] (by kernel_rfl) rfl ?_
        have e54 : (IntKind.u64.wrap (((dgt a i) : Int) * ((dgt b k) : Int))) = (((dgt a i) * (dgt b k) : Nat) : Int) := n_mul' (a := (dgt a i)) (b := (dgt b k)) (by omega)
        have e55 : (IntKind.u64.wrap (((cy + d51 : Nat) : Int) + (((dgt a i) * (dgt b k) : Nat) : Int))) = (((cy + d51) + ((dgt a i) * (dgt b k)) : Nat) : Int) := n_add' (a := (cy + d51)) (b := ((dgt a i) * (dgt b k))) (by omega)
        refine GQ.eq (M' := [(1, .slice B (ndg b) d), (5, .slice (some ⟨p7, 0, none⟩) (((ndg a) + (ndg b)) + 1) (((ndg a) + (ndg b)) + 1)), (6, .int .i64 (i : Int)), (7, .int .u64 ((dgt a i) : Int)), (8, .int .u64 (((cy + d51) + ((dgt a i) * (dgt b k)) : Nat) : Int)), (9, .int .i64 (k : Int)), (17, .slice A (ndg a) c), (18, .int .i64 (((ndg a) : Nat) : Int)), (19, .int .i64 (i : Int))]) (by rw [e54, e55]) ?_
        clear e54 e55
        refine GQ.k rfl hK49 (fun _ _ h => h) (fun w56 H57 => ?_)
        refine G.seqK fun K58 hK59 => ?_
        refine G.region ?_
        refine GL.run (j := 6) 6 [1, 5, 6, 7, 8, 9, 17, 18, 19, 48, 51, 53] [(1, .slice B (ndg b) d), (5, .slice (some ⟨p7, 0, none⟩) (((ndg a) + (ndg b)) + 1) (((ndg a) + (ndg b)) + 1)), (6, .int .i64 (i : Int)), (7, .int .u64 ((dgt a i) : Int)), (8, .int .u64 (((cy + d51) + ((dgt a i) * (dgt b k)) : Nat) : Int)), (9, .int .i64 (k : Int)), (17, .slice A (ndg a) c), (18, .int .i64 (((ndg a) : Nat) : Int)), (19, .int .i64 (i : Int)), (48, .slice (some ⟨p7, 0, none⟩) (((ndg a) + (ndg b)) + 1) (((ndg a) + (ndg b)) + 1)), (51, .int .i64 (IntKind.i64.wrap ((i : Int) + (k : Int)))), (53, .int .u64 (Int.tmod (((cy + d51) + ((dgt a i) * (dgt b k)) : Nat) : Int) 65536))] (by kernel_rfl) rfl ?_
        have e60 : (IntKind.i64.wrap ((i : Int) + (k : Int))) = ((i + k : Nat) : Int) := by rw [in_i64 (by omega)]; omega
        have e61 : (Int.tmod (((cy + d51) + ((dgt a i) * (dgt b k)) : Nat) : Int) 65536) = ((((cy + d51) + ((dgt a i) * (dgt b k))) % 65536 : Nat) : Int) := n_rem _ 65536
        refine GL.eq (M' := [(1, .slice B (ndg b) d), (5, .slice (some ⟨p7, 0, none⟩) (((ndg a) + (ndg b)) + 1) (((ndg a) + (ndg b)) + 1)), (6, .int .i64 (i : Int)), (7, .int .u64 ((dgt a i) : Int)), (8, .int .u64 (((cy + d51) + ((dgt a i) * (dgt b k)) : Nat) : Int)), (9, .int .i64 (k : Int)), (17, .slice A (ndg a) c), (18, .int .i64 (((ndg a) : Nat) : Int)), (19, .int .i64 (i : Int)), (48, .slice (some ⟨p7, 0, none⟩) (((ndg a) + (ndg b)) + 1) (((ndg a) + (ndg b)) + 1)), (51, .int .i64 ((i + k : Nat) : Int)), (53, .int .u64 ((((cy + d51) + ((dgt a i) * (dgt b k))) % 65536 : Nat) : Int))]) (by rw [e60, e61]) ?_
        clear e60 e61
        refine GL.sem (j := 7) (run_idxRd (P := Try.prog) (k := .i64) (t := 52) (A := (some ⟨p7, 0, none⟩)) (len := ((ndg a) + (ndg b)) + 1) (cap := ((ndg a) + (ndg b)) + 1) (j := i + k) (by kernel_rfl) rfl (H57.rdRow 0 rfl) (by first | exact dg_length _ | rw [dg_length]; first | rfl | assumption | (symm; assumption) | (simp; done) | (rw [List.length_take]; omega) | omega) (by omega)) [1, 5, 6, 7, 8, 9, 17, 18, 19, 53, 54] [(1, .slice B (ndg b) d), (5, .slice (some ⟨p7, 0, none⟩) (((ndg a) + (ndg b)) + 1) (((ndg a) + (ndg b)) + 1)), (6, .int .i64 (i : Int)), (7, .int .u64 ((dgt a i) : Int)), (8, .int .u64 (((cy + d51) + ((dgt a i) * (dgt b k)) : Nat) : Int)), (9, .int .i64 (k : Int)), (17, .slice A (ndg a) c), (18, .int .i64 (((ndg a) : Nat) : Int)), (19, .int .i64 (i : Int)), (53, .int .u64 ((((cy + d51) + ((dgt a i) * (dgt b k))) % 65536 : Nat) : Int)), (54, .pointer (Option.map (fun x => Addr.add x (i + k)) (some ⟨p7, 0, none⟩)))] (by kernel_rfl) (by kernel_rfl) rfl ?_
        obtain ⟨w62, r63, H64⟩ := H57.stRow (P := Try.prog) (q := i + k) (ty := 22) (v := .int .u64 ((((cy + d51) + ((dgt a i) * (dgt b k))) % 65536 : Nat) : Int)) 0 rfl (by kernel_rfl) (by rw [dg_length]; omega) rfl
        rw [dg_set] at H64
        have H64 : Hp w [] [.row (some ⟨p7, 0, none⟩) (((ndg a) + (ndg b)) + 1) (((ndg a) + (ndg b)) + 1) 22 1 (dg (List.set ys (i + k) (((cy + d51) + ((dgt a i) * (dgt b k))) % 65536)))] w62 := H64
        refine GL.semU (j := 8) r63 [1, 5, 6, 7, 8, 9, 17, 18, 19] [(1, .slice B (ndg b) d), (5, .slice (some ⟨p7, 0, none⟩) (((ndg a) + (ndg b)) + 1) (((ndg a) + (ndg b)) + 1)), (6, .int .i64 (i : Int)), (7, .int .u64 ((dgt a i) : Int)), (8, .int .u64 (((cy + d51) + ((dgt a i) * (dgt b k)) : Nat) : Int)), (9, .int .i64 (k : Int)), (17, .slice A (ndg a) c), (18, .int .i64 (((ndg a) : Nat) : Int)), (19, .int .i64 (i : Int))] (by kernel_rfl) rfl rfl rfl ?_
        refine GL.k rfl hK59 (fun _ _ h => h) ?_
        refine G.region ?_
        refine GL.run (j := 3) 3 [1, 5, 6, 7, 8, 9, 17, 18, 19] [(1, .slice B (ndg b) d), (5, .slice (some ⟨p7, 0, none⟩) (((ndg a) + (ndg b)) + 1) (((ndg a) + (ndg b)) + 1)), (6, .int .i64 (i : Int)), (7, .int .u64 ((dgt a i) : Int)), (8, .int .u64 (IntKind.u64.wrap (Int.tdiv (((cy + d51) + ((dgt a i) * (dgt b k)) : Nat) : Int) 65536))), (9, .int .i64 (k : Int)), (17, .slice A (ndg a) c), (18, .int .i64 (((ndg a) : Nat) : Int)), (19, .int .i64 (i : Int))] (by kernel_rfl) rfl ?_
        have e65 : (IntKind.u64.wrap (Int.tdiv (((cy + d51) + ((dgt a i) * (dgt b k)) : Nat) : Int) 65536)) = ((((cy + d51) + ((dgt a i) * (dgt b k))) / 65536 : Nat) : Int) := n_quo 65536 (by omega)
        refine GL.eq (M' := [(1, .slice B (ndg b) d), (5, .slice (some ⟨p7, 0, none⟩) (((ndg a) + (ndg b)) + 1) (((ndg a) + (ndg b)) + 1)), (6, .int .i64 (i : Int)), (7, .int .u64 ((dgt a i) : Int)), (8, .int .u64 ((((cy + d51) + ((dgt a i) * (dgt b k))) / 65536 : Nat) : Int)), (9, .int .i64 (k : Int)), (17, .slice A (ndg a) c), (18, .int .i64 (((ndg a) : Nat) : Int)), (19, .int .i64 (i : Int))]) (by rw [e65]) ?_
        clear e65
        refine GL.k rfl hK47 (fun _ _ h => h) ?_
        refine G.region ?_
        refine GL.run (j := 3) 3 [1, 5, 6, 7, 8, 9, 17, 18, 19] [(1, .slice B (ndg b) d), (5, .slice (some ⟨p7, 0, none⟩) (((ndg a) + (ndg b)) + 1) (((ndg a) + (ndg b)) + 1)), (6, .int .i64 (i : Int)), (7, .int .u64 ((dgt a i) : Int)), (8, .int .u64 ((((cy + d51) + ((dgt a i) * (dgt b k))) / 65536 : Nat) : Int)), (9, .int .i64 (IntKind.i64.wrap ((k : Int) + 1))), (17, .slice A (ndg a) c), (18, .int .i64 (((ndg a) : Nat) : Int)), (19, .int .i64 (i : Int))] (by kernel_rfl) rfl ?_
        have e66 : (IntKind.i64.wrap ((k : Int) + 1)) = ((k + 1 : Nat) : Int) := by rw [in_i64 (by omega)]; omega
        refine GL.eq (M' := [(1, .slice B (ndg b) d), (5, .slice (some ⟨p7, 0, none⟩) (((ndg a) + (ndg b)) + 1) (((ndg a) + (ndg b)) + 1)), (6, .int .i64 (i : Int)), (7, .int .u64 ((dgt a i) : Int)), (8, .int .u64 ((((cy + d51) + ((dgt a i) * (dgt b k))) / 65536 : Nat) : Int)), (9, .int .i64 ((k + 1 : Nat) : Int)), (17, .slice A (ndg a) c), (18, .int .i64 (((ndg a) : Nat) : Int)), (19, .int .i64 (i : Int))]) (by rw [e66]) ?_
        clear e66
        refine GL.fit (ts := [1, 5, 6, 7, 8, 9, 17, 18, 19]) (M' := [(1, .slice B (ndg b) d), (5, .slice (some ⟨p7, 0, none⟩) (((ndg a) + (ndg b)) + 1) (((ndg a) + (ndg b)) + 1)), (6, .int .i64 (i : Int)), (7, .int .u64 ((dgt a i) : Int)), (8, .int .u64 ((((cy + d51) + ((dgt a i) * (dgt b k))) / 65536 : Nat) : Int)), (9, .int .i64 ((k + 1 : Nat) : Int)), (17, .slice A (ndg a) c), (18, .int .i64 (((ndg a) : Nat) : Int)), (19, .int .i64 (i : Int))]) (by kernel_rfl) ?_
        refine GL.eq (M' := [(1, .slice B (ndg b) d), (5, .slice (some ⟨p7, 0, none⟩) (((ndg a) + (ndg b)) + 1) (((ndg a) + (ndg b)) + 1)), (6, .int .i64 (i : Int)), (7, .int .u64 ((dgt a i) : Int)), (8, .int .u64 ((((cy + d51) + ((dgt a i) * (dgt b k))) / 65536 : Nat) : Int)), (9, .int .i64 (((k + 1) : Nat) : Int)), (17, .slice A (ndg a) c), (18, .int .i64 (((ndg a) : Nat) : Int)), (19, .int .i64 (i : Int))]) (by rfl) ?_
        exact GL.again ⟨(k + 1), ((cy + d51) + ((dgt a i) * (dgt b k))) / 65536, (List.set ys (i + k) (((cy + d51) + ((dgt a i) * (dgt b k))) % 65536))⟩ [1, 5, 6, 7, 8, 9, 17, 18, 19] rfl (by kernel_rfl) (by show ndg b + 1 - (k + 1) < ndg b + 1 - k; omega) ⟨⟨by simp [hyl], ok_set hyok (Nat.mod_lt _ (by decide)), by omega, mul_round hdx rfl hyv⟩, H64⟩
    · skip
      have hb43f := of_decide_eq_true hb43
      have hkb : k ≤ ndg b := mul_in hyv (by omega)
      refine GL.run (j := 8) 3 [1, 5, 6, 7, 8, 9, 17, 18, 19, 31] [(1, .slice B (ndg b) d), (5, .slice (some ⟨p7, 0, none⟩) (((ndg a) + (ndg b)) + 1) (((ndg a) + (ndg b)) + 1)), (6, .int .i64 (i : Int)), (7, .int .u64 ((dgt a i) : Int)), (8, .int .u64 (cy : Int)), (9, .int .i64 (k : Int)), (17, .slice A (ndg a) c), (18, .int .i64 (((ndg a) : Nat) : Int)), (19, .int .i64 (i : Int)), (31, .bool true)] (by kernel_rfl) rfl ?_
      refine GL.k rfl hK42 (fun _ _ h => h) ?_
      refine G.yes rfl ?_
      refine G.skipK hK40 (fun _ _ h => h) ?_
      refine G.seqK fun K67 hK68 => ?_
      refine G.block ?_
      refine G.seqK fun K69 hK70 => ?_
      refine G.draw H38 (by kernel_rfl) (by kernel_rfl) ?_
      refine GQ.run (j := 5) 5 [1, 5, 6, 7, 9, 17, 18, 19, 34, 35, 38] [(1, .slice B (ndg b) d), (5, .slice (some ⟨p7, 0, none⟩) (((ndg a) + (ndg b)) + 1) (((ndg a) + (ndg b)) + 1)), (6, .int .i64 (i : Int)), (7, .int .u64 ((dgt a i) : Int)), (9, .int .i64 (k : Int)), (17, .slice A (ndg a) c), (18, .int .i64 (((ndg a) : Nat) : Int)), (19, .int .i64 (i : Int)), (34, .int .u64 (cy : Int)), (35, .slice (some ⟨p7, 0, none⟩) (((ndg a) + (ndg b)) + 1) (((ndg a) + (ndg b)) + 1)), (38, .int .i64 (IntKind.i64.wrap ((i : Int) + (k : Int))))] (by kernel_rfl) rfl ?_
      have e71 : (IntKind.i64.wrap ((i : Int) + (k : Int))) = ((i + k : Nat) : Int) := by rw [in_i64 (by omega)]; omega
      refine GQ.eq (M' := [(1, .slice B (ndg b) d), (5, .slice (some ⟨p7, 0, none⟩) (((ndg a) + (ndg b)) + 1) (((ndg a) + (ndg b)) + 1)), (6, .int .i64 (i : Int)), (7, .int .u64 ((dgt a i) : Int)), (9, .int .i64 (k : Int)), (17, .slice A (ndg a) c), (18, .int .i64 (((ndg a) : Nat) : Int)), (19, .int .i64 (i : Int)), (34, .int .u64 (cy : Int)), (35, .slice (some ⟨p7, 0, none⟩) (((ndg a) + (ndg b)) + 1) (((ndg a) + (ndg b)) + 1)), (38, .int .i64 ((i + k : Nat) : Int))]) (by rw [e71]) ?_
      clear e71
      refine GQ.sem (j := 6) (fun w_ H_ => run_idxRd (P := Try.prog) (k := .i64) (t := 52) (A := (some ⟨p7, 0, none⟩)) (len := ((ndg a) + (ndg b)) + 1) (cap := ((ndg a) + (ndg b)) + 1) (j := i + k) (by kernel_rfl) rfl (H_.rdRow 0 rfl) (by first | exact dg_length _ | rw [dg_length]; first | rfl | assumption | (symm; assumption) | (simp; done) | (rw [List.length_take]; omega) | omega) (by omega)) [1, 5, 6, 7, 9, 17, 18, 19, 34, 39] [(1, .slice B (ndg b) d), (5, .slice (some ⟨p7, 0, none⟩) (((ndg a) + (ndg b)) + 1) (((ndg a) + (ndg b)) + 1)), (6, .int .i64 (i : Int)), (7, .int .u64 ((dgt a i) : Int)), (9, .int .i64 (k : Int)), (17, .slice A (ndg a) c), (18, .int .i64 (((ndg a) : Nat) : Int)), (19, .int .i64 (i : Int)), (34, .int .u64 (cy : Int)), (39, .pointer (Option.map (fun x => Addr.add x (i + k)) (some ⟨p7, 0, none⟩)))] (by kernel_rfl) (by kernel_rfl) rfl ?_
      obtain ⟨d72, hd73⟩ : ∃ d : Nat, (ys)[i + k]? = some d := ⟨_, List.getElem?_eq_getElem (by omega)⟩
      have hdx := hd73
      have hdB := ok_at hyok hdx
      refine GQ.sem (j := 7) (fun w_ H_ => run_ldRd (P := Try.prog) (ty := 22) (A := (some ⟨p7, 0, none⟩)) (j := i + k) (v := .int .u64 (d72 : Int)) (by kernel_rfl) (H_.rdRow 0 rfl) (dg_at hd73)) [1, 5, 6, 7, 9, 17, 18, 19, 34, 40] [(1, .slice B (ndg b) d), (5, .slice (some ⟨p7, 0, none⟩) (((ndg a) + (ndg b)) + 1) (((ndg a) + (ndg b)) + 1)), (6, .int .i64 (i : Int)), (7, .int .u64 ((dgt a i) : Int)), (9, .int .i64 (k : Int)), (17, .slice A (ndg a) c), (18, .int .i64 (((ndg a) : Nat) : Int)), (19, .int .i64 (i : Int)), (34, .int .u64 (cy : Int)), (40, .int .u64 (d72 : Int))] (by kernel_rfl) (by kernel_rfl) rfl ?_
      refine GQ.run (j := 11) 4 [1, 5, 6, 7, 9, 17, 18, 19, 41, 42, 43, 44] [(1, .slice B (ndg b) d), (5, .slice (some ⟨p7, 0, none⟩) (((ndg a) + (ndg b)) + 1) (((ndg a) + (ndg b)) + 1)), (6, .int .i64 (i : Int)), (7, .int .u64 ((dgt a i) : Int)), (9, .int .i64 (k : Int)), (17, .slice A (ndg a) c), (18, .int .i64 (((ndg a) : Nat) : Int)), (19, .int .i64 (i : Int)), (41, .int .u64 (IntKind.u64.wrap ((cy : Int) + (d72 : Int)))), (42, .int .u64 ((dgt a i) : Int)), (43, .slice B (ndg b) d), (44, .int .i64 (k : Int))] (by kernel_rfl) rfl ?_
      have e74 : (IntKind.u64.wrap ((cy : Int) + (d72 : Int))) = ((cy + d72 : Nat) : Int) := n_add' (a := cy) (b := d72) (by omega)
      refine GQ.eq (M' := [(1, .slice B (ndg b) d), (5, .slice (some ⟨p7, 0, none⟩) (((ndg a) + (ndg b)) + 1) (((ndg a) + (ndg b)) + 1)), (6, .int .i64 (i : Int)), (7, .int .u64 ((dgt a i) : Int)), (9, .int .i64 (k : Int)), (17, .slice A (ndg a) c), (18, .int .i64 (((ndg a) : Nat) : Int)), (19, .int .i64 (i : Int)), (41, .int .u64 ((cy + d72 : Nat) : Int)), (42, .int .u64 ((dgt a i) : Int)), (43, .slice B (ndg b) d), (44, .int .i64 (k : Int))]) (by rw [e74]) ?_
      clear e74
      refine GQ.call (fun w_ H_ => (digit_calls b k B d w_ (hs.hp H_)).mono fun e_ w2_ ⟨he_, h2_⟩ => ⟨he_, H_.callNil h2_⟩) [1, 5, 6, 7, 9, 17, 18, 19, 41, 42, 45] [(1, .slice B (ndg b) d), (5, .slice (some ⟨p7, 0, none⟩) (((ndg a) + (ndg b)) + 1) (((ndg a) + (ndg b)) + 1)), (6, .int .i64 (i : Int)), (7, .int .u64 ((dgt a i) : Int)), (9, .int .i64 (k : Int)), (17, .slice A (ndg a) c), (18, .int .i64 (((ndg a) : Nat) : Int)), (19, .int .i64 (i : Int)), (41, .int .u64 ((cy + d72 : Nat) : Int)), (42, .int .u64 ((dgt a i) : Int)), (45, .int .u64 ((dgt b k) : Int))] (by kernel_rfl) (by kernel_rfl) (j := 12) rfl ?_
      refine GQ.run (j := 15) 3 [1, 5, 6, 7, 8, 9, 17, 18, 19] [(1, .slice B (ndg b) d), (5, .slice (some ⟨p7, 0, none⟩) (((ndg a) + (ndg b)) + 1) (((ndg a) + (ndg b)) + 1)), (6, .int .i64 (i : Int)), (7, .int .u64 ((dgt a i) : Int)), (8, .int .u64 (IntKind.u64.wrap (((cy + d72 : Nat) : Int) + (IntKind.u64.wrap (((dgt a i) : Int) * ((dgt b k) : Int)))))), (9, .int .i64 (k : Int)), (17, .slice A (ndg a) c), (18, .int .i64 (((ndg a) : Nat) : Int)), (19, .int .i64 (i : Int))] (by kernel_rfl) rfl ?_
      have e75 : (IntKind.u64.wrap (((dgt a i) : Int) * ((dgt b k) : Int))) = (((dgt a i) * (dgt b k) : Nat) : Int) := n_mul' (a := (dgt a i)) (b := (dgt b k)) (by omega)
      have e76 : (IntKind.u64.wrap (((cy + d72 : Nat) : Int) + (((dgt a i) * (dgt b k) : Nat) : Int))) = (((cy + d72) + ((dgt a i) * (dgt b k)) : Nat) : Int) := n_add' (a := (cy + d72)) (b := ((dgt a i) * (dgt b k))) (by omega)
      refine GQ.eq (M' := [(1, .slice B (ndg b) d), (5, .slice (some ⟨p7, 0, none⟩) (((ndg a) + (ndg b)) + 1) (((ndg a) + (ndg b)) + 1)), (6, .int .i64 (i : Int)), (7, .int .u64 ((dgt a i) : Int)), (8, .int .u64 (((cy + d72) + ((dgt a i) * (dgt b k)) : Nat) : Int)), (9, .int .i64 (k : Int)), (17, .slice A (ndg a) c), (18, .int .i64 (((ndg a) : Nat) : Int)), (19, .int .i64 (i : Int))]) (by rw [e75, e76]) ?_
      clear e75 e76
      refine GQ.k rfl hK70 (fun _ _ h => h) (fun w77 H78 => ?_)
      refine G.seqK fun K79 hK80 => ?_
      refine G.region ?_
      refine GL.run (j := 6) 6 [1, 5, 6, 7, 8, 9, 17, 18, 19, 48, 51, 53] [(1, .slice B (ndg b) d), (5, .slice (some ⟨p7, 0, none⟩) (((ndg a) + (ndg b)) + 1) (((ndg a) + (ndg b)) + 1)), (6, .int .i64 (i : Int)), (7, .int .u64 ((dgt a i) : Int)), (8, .int .u64 (((cy + d72) + ((dgt a i) * (dgt b k)) : Nat) : Int)), (9, .int .i64 (k : Int)), (17, .slice A (ndg a) c), (18, .int .i64 (((ndg a) : Nat) : Int)), (19, .int .i64 (i : Int)), (48, .slice (some ⟨p7, 0, none⟩) (((ndg a) + (ndg b)) + 1) (((ndg a) + (ndg b)) + 1)), (51, .int .i64 (IntKind.i64.wrap ((i : Int) + (k : Int)))), (53, .int .u64 (Int.tmod (((cy + d72) + ((dgt a i) * (dgt b k)) : Nat) : Int) 65536))] (by kernel_rfl) rfl ?_
      have e81 : (IntKind.i64.wrap ((i : Int) + (k : Int))) = ((i + k : Nat) : Int) := by rw [in_i64 (by omega)]; omega
      have e82 : (Int.tmod (((cy + d72) + ((dgt a i) * (dgt b k)) : Nat) : Int) 65536) = ((((cy + d72) + ((dgt a i) * (dgt b k))) % 65536 : Nat) : Int) := n_rem _ 65536
      refine GL.eq (M' := [(1, .slice B (ndg b) d), (5, .slice (some ⟨p7, 0, none⟩) (((ndg a) + (ndg b)) + 1) (((ndg a) + (ndg b)) + 1)), (6, .int .i64 (i : Int)), (7, .int .u64 ((dgt a i) : Int)), (8, .int .u64 (((cy + d72) + ((dgt a i) * (dgt b k)) : Nat) : Int)), (9, .int .i64 (k : Int)), (17, .slice A (ndg a) c), (18, .int .i64 (((ndg a) : Nat) : Int)), (19, .int .i64 (i : Int)), (48, .slice (some ⟨p7, 0, none⟩) (((ndg a) + (ndg b)) + 1) (((ndg a) + (ndg b)) + 1)), (51, .int .i64 ((i + k : Nat) : Int)), (53, .int .u64 ((((cy + d72) + ((dgt a i) * (dgt b k))) % 65536 : Nat) : Int))]) (by rw [e81, e82]) ?_
      clear e81 e82
      refine GL.sem (j := 7) (run_idxRd (P := Try.prog) (k := .i64) (t := 52) (A := (some ⟨p7, 0, none⟩)) (len := ((ndg a) + (ndg b)) + 1) (cap := ((ndg a) + (ndg b)) + 1) (j := i + k) (by kernel_rfl) rfl (H78.rdRow 0 rfl) (by first | exact dg_length _ | rw [dg_length]; first | rfl | assumption | (symm; assumption) | (simp; done) | (rw [List.length_take]; omega) | omega) (by omega)) [1, 5, 6, 7, 8, 9, 17, 18, 19, 53, 54] [(1, .slice B (ndg b) d), (5, .slice (some ⟨p7, 0, none⟩) (((ndg a) + (ndg b)) + 1) (((ndg a) + (ndg b)) + 1)), (6, .int .i64 (i : Int)), (7, .int .u64 ((dgt a i) : Int)), (8, .int .u64 (((cy + d72) + ((dgt a i) * (dgt b k)) : Nat) : Int)), (9, .int .i64 (k : Int)), (17, .slice A (ndg a) c), (18, .int .i64 (((ndg a) : Nat) : Int)), (19, .int .i64 (i : Int)), (53, .int .u64 ((((cy + d72) + ((dgt a i) * (dgt b k))) % 65536 : Nat) : Int)), (54, .pointer (Option.map (fun x => Addr.add x (i + k)) (some ⟨p7, 0, none⟩)))] (by kernel_rfl) (by kernel_rfl) rfl ?_
      obtain ⟨w83, r84, H85⟩ := H78.stRow (P := Try.prog) (q := i + k) (ty := 22) (v := .int .u64 ((((cy + d72) + ((dgt a i) * (dgt b k))) % 65536 : Nat) : Int)) 0 rfl (by kernel_rfl) (by rw [dg_length]; omega) rfl
      rw [dg_set] at H85
      have H85 : Hp w [] [.row (some ⟨p7, 0, none⟩) (((ndg a) + (ndg b)) + 1) (((ndg a) + (ndg b)) + 1) 22 1 (dg (List.set ys (i + k) (((cy + d72) + ((dgt a i) * (dgt b k))) % 65536)))] w83 := H85
      refine GL.semU (j := 8) r84 [1, 5, 6, 7, 8, 9, 17, 18, 19] [(1, .slice B (ndg b) d), (5, .slice (some ⟨p7, 0, none⟩) (((ndg a) + (ndg b)) + 1) (((ndg a) + (ndg b)) + 1)), (6, .int .i64 (i : Int)), (7, .int .u64 ((dgt a i) : Int)), (8, .int .u64 (((cy + d72) + ((dgt a i) * (dgt b k)) : Nat) : Int)), (9, .int .i64 (k : Int)), (17, .slice A (ndg a) c), (18, .int .i64 (((ndg a) : Nat) : Int)), (19, .int .i64 (i : Int))] (by kernel_rfl) rfl rfl rfl ?_
      refine GL.k rfl hK80 (fun _ _ h => h) ?_
      refine G.region ?_
      refine GL.run (j := 3) 3 [1, 5, 6, 7, 8, 9, 17, 18, 19] [(1, .slice B (ndg b) d), (5, .slice (some ⟨p7, 0, none⟩) (((ndg a) + (ndg b)) + 1) (((ndg a) + (ndg b)) + 1)), (6, .int .i64 (i : Int)), (7, .int .u64 ((dgt a i) : Int)), (8, .int .u64 (IntKind.u64.wrap (Int.tdiv (((cy + d72) + ((dgt a i) * (dgt b k)) : Nat) : Int) 65536))), (9, .int .i64 (k : Int)), (17, .slice A (ndg a) c), (18, .int .i64 (((ndg a) : Nat) : Int)), (19, .int .i64 (i : Int))] (by kernel_rfl) rfl ?_
      have e86 : (IntKind.u64.wrap (Int.tdiv (((cy + d72) + ((dgt a i) * (dgt b k)) : Nat) : Int) 65536)) = ((((cy + d72) + ((dgt a i) * (dgt b k))) / 65536 : Nat) : Int) := n_quo 65536 (by omega)
      refine GL.eq (M' := [(1, .slice B (ndg b) d), (5, .slice (some ⟨p7, 0, none⟩) (((ndg a) + (ndg b)) + 1) (((ndg a) + (ndg b)) + 1)), (6, .int .i64 (i : Int)), (7, .int .u64 ((dgt a i) : Int)), (8, .int .u64 ((((cy + d72) + ((dgt a i) * (dgt b k))) / 65536 : Nat) : Int)), (9, .int .i64 (k : Int)), (17, .slice A (ndg a) c), (18, .int .i64 (((ndg a) : Nat) : Int)), (19, .int .i64 (i : Int))]) (by rw [e86]) ?_
      clear e86
      refine GL.k rfl hK68 (fun _ _ h => h) ?_
      refine G.region ?_
      refine GL.run (j := 3) 3 [1, 5, 6, 7, 8, 9, 17, 18, 19] [(1, .slice B (ndg b) d), (5, .slice (some ⟨p7, 0, none⟩) (((ndg a) + (ndg b)) + 1) (((ndg a) + (ndg b)) + 1)), (6, .int .i64 (i : Int)), (7, .int .u64 ((dgt a i) : Int)), (8, .int .u64 ((((cy + d72) + ((dgt a i) * (dgt b k))) / 65536 : Nat) : Int)), (9, .int .i64 (IntKind.i64.wrap ((k : Int) + 1))), (17, .slice A (ndg a) c), (18, .int .i64 (((ndg a) : Nat) : Int)), (19, .int .i64 (i : Int))] (by kernel_rfl) rfl ?_
      have e87 : (IntKind.i64.wrap ((k : Int) + 1)) = ((k + 1 : Nat) : Int) := by rw [in_i64 (by omega)]; omega
      refine GL.eq (M' := [(1, .slice B (ndg b) d), (5, .slice (some ⟨p7, 0, none⟩) (((ndg a) + (ndg b)) + 1) (((ndg a) + (ndg b)) + 1)), (6, .int .i64 (i : Int)), (7, .int .u64 ((dgt a i) : Int)), (8, .int .u64 ((((cy + d72) + ((dgt a i) * (dgt b k))) / 65536 : Nat) : Int)), (9, .int .i64 ((k + 1 : Nat) : Int)), (17, .slice A (ndg a) c), (18, .int .i64 (((ndg a) : Nat) : Int)), (19, .int .i64 (i : Int))]) (by rw [e87]) ?_
      clear e87
      refine GL.fit (ts := [1, 5, 6, 7, 8, 9, 17, 18, 19]) (M' := [(1, .slice B (ndg b) d), (5, .slice (some ⟨p7, 0, none⟩) (((ndg a) + (ndg b)) + 1) (((ndg a) + (ndg b)) + 1)), (6, .int .i64 (i : Int)), (7, .int .u64 ((dgt a i) : Int)), (8, .int .u64 ((((cy + d72) + ((dgt a i) * (dgt b k))) / 65536 : Nat) : Int)), (9, .int .i64 ((k + 1 : Nat) : Int)), (17, .slice A (ndg a) c), (18, .int .i64 (((ndg a) : Nat) : Int)), (19, .int .i64 (i : Int))]) (by kernel_rfl) ?_
      refine GL.eq (M' := [(1, .slice B (ndg b) d), (5, .slice (some ⟨p7, 0, none⟩) (((ndg a) + (ndg b)) + 1) (((ndg a) + (ndg b)) + 1)), (6, .int .i64 (i : Int)), (7, .int .u64 ((dgt a i) : Int)), (8, .int .u64 ((((cy + d72) + ((dgt a i) * (dgt b k))) / 65536 : Nat) : Int)), (9, .int .i64 (((k + 1) : Nat) : Int)), (17, .slice A (ndg a) c), (18, .int .i64 (((ndg a) : Nat) : Int)), (19, .int .i64 (i : Int))]) (by rfl) ?_
      exact GL.again ⟨(k + 1), ((cy + d72) + ((dgt a i) * (dgt b k))) / 65536, (List.set ys (i + k) (((cy + d72) + ((dgt a i) * (dgt b k))) % 65536))⟩ [1, 5, 6, 7, 8, 9, 17, 18, 19] rfl (by kernel_rfl) (by show ndg b + 1 - (k + 1) < ndg b + 1 - k; omega) ⟨⟨by simp [hyl], ok_set hyok (Nat.mod_lt _ (by decide)), by omega, mul_round hdx rfl hyv⟩, H85⟩
end Go.Proofs.Ytljfofnpjmlobaa
