/- MoneyTexts: any amount is told by its digits and read again; any bytes are an amount just if they are its digits: the tied card. -/
import Derived.Test.YtgbhiklengafiaaDoorZt3
set_option linter.unusedVariables false
set_option maxRecDepth 100000
namespace Go.Proofs.YtgbhiklengafiaaDoor
open Go.RowKit
theorem MulN_calls (a b : Nat) (A : Option Addr) (c : Nat) (B : Option Addr) (d : Nat) (w : World) (hr : RdS w A (dg (digs a))) (hs : RdS w B (dg (digs b))) (hna : ndg a ≤ 100000) (hnb : ndg b ≤ 100000) : Calls Tryd.prog 8 #[.slice A (ndg a) c, .slice B (ndg b) d] w fun e w' => ∃ A c, e = .returned ((.slice A (ndg (a * b)) c)) ∧ Hp w [] [.row A (ndg (a * b)) c 22 1 (dg (digs (a * b)))] w' := by
  have hMX : MX = 4611686018427387904 := rfl
  have hK0 : K = 18446744073709551616 := rfl
  have hK40 : K4 = 115792089237316195423570985008687907853269984665640564039457584007913129639936 := rfl
  refine calls_G (args := [.slice A (ndg a) c, .slice B (ndg b) d]) Tryd.func8 rfl Tryd.ntmps8 rfl ?_
  intro Q0 hRet hNor hPan
  have H := Hp.start w
  have H : Hp w [] [] w := H
  refine G.seqK fun K1 hK2 => ?_
  refine G.region ?_
  refine GL.run (j := 1) 1 [0, 1] [(0, .slice A (ndg a) c), (1, .slice B (ndg b) d)] (by kernel_rfl) rfl ?_
  refine GL.k rfl hK2 (fun _ _ h => h) ?_
  refine G.seqK fun K3 hK4 => ?_
  refine G.region ?_
  refine GL.run (j := 6) 6 [0, 1, 15] [(0, .slice A (ndg a) c), (1, .slice B (ndg b) d), (15, .int .i64 (IntKind.i64.wrap ((IntKind.i64.wrap ((((ndg a) : Nat) : Int) + (((ndg b) : Nat) : Int))) + 1)))] (by kernel_rfl) rfl ?_
  have e5 : (IntKind.i64.wrap ((((ndg a) : Nat) : Int) + (((ndg b) : Nat) : Int))) = (((ndg a) + (ndg b) : Nat) : Int) := by rw [in_i64 (by omega)]; omega
  have e6 : (IntKind.i64.wrap ((((ndg a) + (ndg b) : Nat) : Int) + 1)) = ((((ndg a) + (ndg b)) + 1 : Nat) : Int) := by rw [in_i64 (by omega)]; omega
  refine GL.eq (M' := [(0, .slice A (ndg a) c), (1, .slice B (ndg b) d), (15, .int .i64 ((((ndg a) + (ndg b)) + 1 : Nat) : Int))]) (by rw [e5, e6]) ?_
  clear e5 e6
  obtain ⟨p7, w8, r9, H10⟩ := H.makeD (P := Tryd.prog) (t := 31) (e := 22) (n := ((ndg a) + (ndg b)) + 1) (kl := .i64) (kc := .i64) (by kernel_rfl) (by omega)
  have H10 : Hp w [] [.row (some ⟨p7, 0, none⟩) (((ndg a) + (ndg b)) + 1) (((ndg a) + (ndg b)) + 1) 22 1 (dg (List.replicate (((ndg a) + (ndg b)) + 1) 0))] w8 := H10
  refine GL.sem (j := 7) (r9) [0, 1, 16] [(0, .slice A (ndg a) c), (1, .slice B (ndg b) d), (16, .slice (some ⟨p7, 0, none⟩) (((ndg a) + (ndg b)) + 1) (((ndg a) + (ndg b)) + 1))] (by kernel_rfl) (by kernel_rfl) rfl ?_
  refine GL.run (j := 8) 1 [0, 1, 5] [(0, .slice A (ndg a) c), (1, .slice B (ndg b) d), (5, .slice (some ⟨p7, 0, none⟩) (((ndg a) + (ndg b)) + 1) (((ndg a) + (ndg b)) + 1))] (by kernel_rfl) rfl ?_
  refine GL.k rfl hK4 (fun _ _ h => h) ?_
  refine G.seqK fun K11 hK12 => ?_
  refine G.seqK fun K13 hK14 => ?_
  refine G.region ?_
  refine GL.run (j := 3) 3 [1, 5, 17, 18, 19] [(1, .slice B (ndg b) d), (5, .slice (some ⟨p7, 0, none⟩) (((ndg a) + (ndg b)) + 1) (((ndg a) + (ndg b)) + 1)), (17, .slice A (ndg a) c), (18, .int .i64 (((ndg a) : Nat) : Int)), (19, .int .i64 0)] (by kernel_rfl) rfl ?_
  refine GL.k rfl hK14 (fun _ _ h => h) ?_
  refine G.block ?_
  refine G.fit [1, 5, 17, 18, 19] (M' := [(1, .slice B (ndg b) d), (5, .slice (some ⟨p7, 0, none⟩) (((ndg a) + (ndg b)) + 1) (((ndg a) + (ndg b)) + 1)), (17, .slice A (ndg a) c), (18, .int .i64 (((ndg a) : Nat) : Int)), (19, .int .i64 0)]) (by kernel_rfl) ?_
  refine G.loop (X := Nat × List Nat) (fun ⟨i, xs⟩ => [(1, .slice B (ndg b) d), (5, .slice (some ⟨p7, 0, none⟩) (((ndg a) + (ndg b)) + 1) (((ndg a) + (ndg b)) + 1)), (17, .slice A (ndg a) c), (18, .int .i64 (((ndg a) : Nat) : Int)), (19, .int .i64 (i : Int))]) (fun ⟨i, xs⟩ w_ => (xs.length = ((ndg a) + (ndg b)) + 1 ∧ ok16 xs ∧ i ≤ ndg a ∧ val xs = a % 65536 ^ i * b) ∧ Hp w [] [.row (some ⟨p7, 0, none⟩) (((ndg a) + (ndg b)) + 1) (((ndg a) + (ndg b)) + 1) 22 1 (dg xs)] w_) (fun ⟨i, xs⟩ => ndg a - i) ⟨0, (List.replicate (((ndg a) + (ndg b)) + 1) 0)⟩ [1, 5, 17, 18, 19] (by kernel_rfl) ⟨⟨by simp, ok_zeros _, by omega, by rw [val_zeros]; simp [Nat.mod_one]⟩, H10⟩ ?_
  rintro ⟨i, xs⟩ w15 ⟨hi16, H17⟩
  refine G.eq (M' := [(1, .slice B (ndg b) d), (5, .slice (some ⟨p7, 0, none⟩) (((ndg a) + (ndg b)) + 1) (((ndg a) + (ndg b)) + 1)), (17, .slice A (ndg a) c), (18, .int .i64 (((ndg a) : Nat) : Int)), (19, .int .i64 (i : Int))]) rfl ?_
  have H17 : Hp w [] [.row (some ⟨p7, 0, none⟩) (((ndg a) + (ndg b)) + 1) (((ndg a) + (ndg b)) + 1) 22 1 (dg xs)] w15 := H17
  obtain ⟨hxl, hxok, hib, hxv⟩ := hi16
  refine G.seqK fun K18 hK19 => ?_
  refine G.region ?_
  refine GL.run (j := 1) 1 [1, 5, 17, 18, 19, 20] [(1, .slice B (ndg b) d), (5, .slice (some ⟨p7, 0, none⟩) (((ndg a) + (ndg b)) + 1) (((ndg a) + (ndg b)) + 1)), (17, .slice A (ndg a) c), (18, .int .i64 (((ndg a) : Nat) : Int)), (19, .int .i64 (i : Int)), (20, .bool (decide ((i : Int) < (((ndg a) : Nat) : Int))))] (by kernel_rfl) rfl ?_
  refine GL.k rfl hK19 (fun _ _ h => h) ?_
  refine G.seqK fun K20 hK21 => ?_
  cases hb22 : (decide ((i : Int) < (((ndg a) : Nat) : Int)))
  · skip
    have hb22f := of_decide_eq_false hb22
    refine G.no rfl ?_
    refine G.exitK hK12 (fun _ _ h => h) ?_
    refine G.seqK fun K23 hK24 => ?_
    refine G.region ?_
    refine GL.run (j := 1) 1 [58] [(58, .slice (some ⟨p7, 0, none⟩) (((ndg a) + (ndg b)) + 1) (((ndg a) + (ndg b)) + 1))] (by kernel_rfl) rfl ?_
    have hval : val xs = a * b := mul_done (by omega) hxv
    refine GL.call (j := 2) (trim_calls xs (((ndg a) + (ndg b)) + 1) (hxl.symm) (some ⟨p7, 0, none⟩) (((ndg a) + (ndg b)) + 1) w15 (H17.rdRow 0 rfl) (hxok) (H17.rowLe 0 rfl).1 (by omega)) (by kernel_rfl) rfl (fun e_ w25 hR => ?_)
    obtain ⟨rfl, H27⟩ := hR
    have H26 := (H17.callNil H27).shrinkD 0 rfl (hxl.symm) (hxok)
    rw [hval] at H26
    rw [hval]
    have H26 : Hp w [] [.row (some ⟨p7, 0, none⟩) (ndg (a * b)) (((ndg a) + (ndg b)) + 1) 22 1 (dg (digs (a * b)))] w25 := H26
    refine ⟨_, rfl, [59], [(59, .slice (some ⟨p7, 0, none⟩) (ndg (a * b)) (((ndg a) + (ndg b)) + 1))], by kernel_rfl, ?_⟩
    refine GL.run (j := 3) 1 [4] [(4, .slice (some ⟨p7, 0, none⟩) (ndg (a * b)) (((ndg a) + (ndg b)) + 1))] (by kernel_rfl) rfl ?_
    refine GL.k rfl hK24 (fun _ _ h => h) ?_
    refine G.ret ?_
    intro F_ hF_ hM_
    refine hRet _ _ (bodyPost_1 rfl (RV.tmp rfl) ?_ F_ hF_ hM_)
    exact ⟨_, _, rfl, H26⟩
  · skip
    have hb22f := of_decide_eq_true hb22
    refine G.yes rfl ?_
    refine G.skipK hK21 (fun _ _ h => h) ?_
    refine G.seqK fun K28 hK29 => ?_
    refine G.block ?_
    refine G.seqK fun K30 hK31 => ?_
    refine G.region ?_
    refine GL.run (j := 1) 1 [1, 5, 17, 18, 19, 21] [(1, .slice B (ndg b) d), (5, .slice (some ⟨p7, 0, none⟩) (((ndg a) + (ndg b)) + 1) (((ndg a) + (ndg b)) + 1)), (17, .slice A (ndg a) c), (18, .int .i64 (((ndg a) : Nat) : Int)), (19, .int .i64 (i : Int)), (21, .int .i64 (i : Int))] (by kernel_rfl) rfl ?_
    refine GL.sem (j := 2) (run_idxRd (P := Tryd.prog) (k := .i64) (t := 31) (A := A) (len := (ndg a)) (cap := c) (j := i) (by kernel_rfl) rfl (hr.hp H17) (dg_digs _) (by omega)) [1, 5, 17, 18, 19, 21, 22] [(1, .slice B (ndg b) d), (5, .slice (some ⟨p7, 0, none⟩) (((ndg a) + (ndg b)) + 1) (((ndg a) + (ndg b)) + 1)), (17, .slice A (ndg a) c), (18, .int .i64 (((ndg a) : Nat) : Int)), (19, .int .i64 (i : Int)), (21, .int .i64 (i : Int)), (22, .pointer (Option.map (fun x => Addr.add x i) A))] (by kernel_rfl) (by kernel_rfl) rfl ?_
    refine GL.sem (j := 3) (run_ldRd (P := Tryd.prog) (ty := 22) (A := A) (j := i) (v := .int .u64 ((dgt a i) : Int)) (by kernel_rfl) (hr.hp H17) (dg_at (digs_get (by omega)))) [1, 5, 17, 18, 19, 21, 23] [(1, .slice B (ndg b) d), (5, .slice (some ⟨p7, 0, none⟩) (((ndg a) + (ndg b)) + 1) (((ndg a) + (ndg b)) + 1)), (17, .slice A (ndg a) c), (18, .int .i64 (((ndg a) : Nat) : Int)), (19, .int .i64 (i : Int)), (21, .int .i64 (i : Int)), (23, .int .u64 ((dgt a i) : Int))] (by kernel_rfl) (by kernel_rfl) rfl ?_
    refine GL.run (j := 5) 2 [1, 5, 6, 7, 17, 18, 19] [(1, .slice B (ndg b) d), (5, .slice (some ⟨p7, 0, none⟩) (((ndg a) + (ndg b)) + 1) (((ndg a) + (ndg b)) + 1)), (6, .int .i64 (i : Int)), (7, .int .u64 ((dgt a i) : Int)), (17, .slice A (ndg a) c), (18, .int .i64 (((ndg a) : Nat) : Int)), (19, .int .i64 (i : Int))] (by kernel_rfl) rfl ?_
    refine GL.k rfl hK31 (fun _ _ h => h) ?_
    refine G.seqK fun K32 hK33 => ?_
    refine G.region ?_
    refine GL.run (j := 1) 1 [1, 5, 6, 7, 8, 17, 18, 19] [(1, .slice B (ndg b) d), (5, .slice (some ⟨p7, 0, none⟩) (((ndg a) + (ndg b)) + 1) (((ndg a) + (ndg b)) + 1)), (6, .int .i64 (i : Int)), (7, .int .u64 ((dgt a i) : Int)), (8, .int .u64 0), (17, .slice A (ndg a) c), (18, .int .i64 (((ndg a) : Nat) : Int)), (19, .int .i64 (i : Int))] (by kernel_rfl) rfl ?_
    refine GL.k rfl hK33 (fun _ _ h => h) ?_
    refine G.seqK fun K34 hK35 => ?_
    refine G.region ?_
    refine GL.run (j := 1) 1 [1, 5, 6, 7, 8, 9, 17, 18, 19] [(1, .slice B (ndg b) d), (5, .slice (some ⟨p7, 0, none⟩) (((ndg a) + (ndg b)) + 1) (((ndg a) + (ndg b)) + 1)), (6, .int .i64 (i : Int)), (7, .int .u64 ((dgt a i) : Int)), (8, .int .u64 0), (9, .int .i64 0), (17, .slice A (ndg a) c), (18, .int .i64 (((ndg a) : Nat) : Int)), (19, .int .i64 (i : Int))] (by kernel_rfl) rfl ?_
    refine GL.k rfl hK35 (fun _ _ h => h) ?_
    refine G.block ?_
    refine G.fit [1, 5, 6, 7, 8, 9, 17, 18, 19] (M' := [(1, .slice B (ndg b) d), (5, .slice (some ⟨p7, 0, none⟩) (((ndg a) + (ndg b)) + 1) (((ndg a) + (ndg b)) + 1)), (6, .int .i64 (i : Int)), (7, .int .u64 ((dgt a i) : Int)), (8, .int .u64 0), (9, .int .i64 0), (17, .slice A (ndg a) c), (18, .int .i64 (((ndg a) : Nat) : Int)), (19, .int .i64 (i : Int))]) (by kernel_rfl) ?_
    refine G.loop (X := Nat × Nat × List Nat) (fun ⟨k, cy, ys⟩ => [(1, .slice B (ndg b) d), (5, .slice (some ⟨p7, 0, none⟩) (((ndg a) + (ndg b)) + 1) (((ndg a) + (ndg b)) + 1)), (6, .int .i64 (i : Int)), (7, .int .u64 ((dgt a i) : Int)), (8, .int .u64 (cy : Int)), (9, .int .i64 (k : Int)), (17, .slice A (ndg a) c), (18, .int .i64 (((ndg a) : Nat) : Int)), (19, .int .i64 (i : Int))]) (fun ⟨k, cy, ys⟩ w_ => (ys.length = ((ndg a) + (ndg b)) + 1 ∧ ok16 ys ∧ cy < 65536 ∧ val ys + 65536 ^ (i + k) * cy = a % 65536 ^ i * b + dgt a i * (65536 ^ i * (b % 65536 ^ k))) ∧ Hp w [] [.row (some ⟨p7, 0, none⟩) (((ndg a) + (ndg b)) + 1) (((ndg a) + (ndg b)) + 1) 22 1 (dg ys)] w_) (fun ⟨k, cy, ys⟩ => ndg b + 1 - k) ⟨0, 0, xs⟩ [1, 5, 6, 7, 8, 9, 17, 18, 19] (by kernel_rfl) ⟨⟨hxl, hxok, by decide, mul_start hxv⟩, H17⟩ ?_
    rintro ⟨k, cy, ys⟩ w36 ⟨hi37, H38⟩
    refine G.eq (M' := [(1, .slice B (ndg b) d), (5, .slice (some ⟨p7, 0, none⟩) (((ndg a) + (ndg b)) + 1) (((ndg a) + (ndg b)) + 1)), (6, .int .i64 (i : Int)), (7, .int .u64 ((dgt a i) : Int)), (8, .int .u64 (cy : Int)), (9, .int .i64 (k : Int)), (17, .slice A (ndg a) c), (18, .int .i64 (((ndg a) : Nat) : Int)), (19, .int .i64 (i : Int))]) rfl ?_
    have H38 : Hp w [] [.row (some ⟨p7, 0, none⟩) (((ndg a) + (ndg b)) + 1) (((ndg a) + (ndg b)) + 1) 22 1 (dg ys)] w36 := H38
    obtain ⟨hyl, hyok, hcy, hyv⟩ := hi37
    have hms := mul_small (c := 0) (d := 0) (by decide) (by decide) (dgt_lt a i) (dgt_lt b k)
    refine G.seqK fun K39 hK40 => ?_
    refine G.seqK fun K41 hK42 => ?_
    refine G.region ?_
    refine GL.run (j := 5) 5 [1, 5, 6, 7, 8, 9, 17, 18, 19, 28] [(1, .slice B (ndg b) d), (5, .slice (some ⟨p7, 0, none⟩) (((ndg a) + (ndg b)) + 1) (((ndg a) + (ndg b)) + 1)), (6, .int .i64 (i : Int)), (7, .int .u64 ((dgt a i) : Int)), (8, .int .u64 (cy : Int)), (9, .int .i64 (k : Int)), (17, .slice A (ndg a) c), (18, .int .i64 (((ndg a) : Nat) : Int)), (19, .int .i64 (i : Int)), (28, .bool (decide ((k : Int) < (((ndg b) : Nat) : Int))))] (by kernel_rfl) rfl ?_
    cases hb43 : (decide ((k : Int) < (((ndg b) : Nat) : Int)))
    · skip
      have hb43f := of_decide_eq_false hb43
      refine GL.run (j := 8) 3 [1, 5, 6, 7, 8, 9, 17, 18, 19, 31] [(1, .slice B (ndg b) d), (5, .slice (some ⟨p7, 0, none⟩) (((ndg a) + (ndg b)) + 1) (((ndg a) + (ndg b)) + 1)), (6, .int .i64 (i : Int)), (7, .int .u64 ((dgt a i) : Int)), (8, .int .u64 (cy : Int)), (9, .int .i64 (k : Int)), (17, .slice A (ndg a) c), (18, .int .i64 (((ndg a) : Nat) : Int)), (19, .int .i64 (i : Int)), (31, .bool (decide (0 < (cy : Int))))] (by kernel_rfl) rfl ?_
      refine GL.k rfl hK42 (fun _ _ h => h) ?_
      cases hb44 : (decide (0 < (cy : Int)))
      · skip
        have hb44f := of_decide_eq_false hb44
        have hcy0 : cy = 0 := by omega
        rw [hcy0] at hyv
        refine G.no rfl ?_
        refine G.exitK hK29 (fun _ _ h => h) ?_
        refine G.region ?_
        refine GL.run (j := 2) 2 [1, 5, 17, 18, 19] [(1, .slice B (ndg b) d), (5, .slice (some ⟨p7, 0, none⟩) (((ndg a) + (ndg b)) + 1) (((ndg a) + (ndg b)) + 1)), (17, .slice A (ndg a) c), (18, .int .i64 (((ndg a) : Nat) : Int)), (19, .int .i64 (IntKind.i64.wrap ((i : Int) + 1)))] (by kernel_rfl) rfl ?_
        have e45 : (IntKind.i64.wrap ((i : Int) + 1)) = ((i + 1 : Nat) : Int) := by rw [in_i64 (by omega)]; omega
        refine GL.eq (M' := [(1, .slice B (ndg b) d), (5, .slice (some ⟨p7, 0, none⟩) (((ndg a) + (ndg b)) + 1) (((ndg a) + (ndg b)) + 1)), (17, .slice A (ndg a) c), (18, .int .i64 (((ndg a) : Nat) : Int)), (19, .int .i64 ((i + 1 : Nat) : Int))]) (by rw [e45]) ?_
        clear e45
        refine GL.fit (ts := [1, 5, 17, 18, 19]) (M' := [(1, .slice B (ndg b) d), (5, .slice (some ⟨p7, 0, none⟩) (((ndg a) + (ndg b)) + 1) (((ndg a) + (ndg b)) + 1)), (17, .slice A (ndg a) c), (18, .int .i64 (((ndg a) : Nat) : Int)), (19, .int .i64 ((i + 1 : Nat) : Int))]) (by kernel_rfl) ?_
        refine GL.eq (M' := [(1, .slice B (ndg b) d), (5, .slice (some ⟨p7, 0, none⟩) (((ndg a) + (ndg b)) + 1) (((ndg a) + (ndg b)) + 1)), (17, .slice A (ndg a) c), (18, .int .i64 (((ndg a) : Nat) : Int)), (19, .int .i64 (((i + 1) : Nat) : Int))]) (by rfl) ?_
        exact GL.again ⟨(i + 1), ys⟩ [1, 5, 17, 18, 19] rfl (by kernel_rfl) (by show ndg a - (i + 1) < ndg a - i; omega) ⟨⟨hyl, hyok, by omega, mul_next (by omega) hyv⟩, H38⟩
      · skip
        have hb44f := of_decide_eq_true hb44
        have hkb : k ≤ ndg b := mul_in hyv (by omega)
        refine G.yes rfl ?_
        refine G.skipK hK40 (fun _ _ h => h) ?_
        refine G.seqK fun K46 hK47 => ?_
        refine G.block ?_
        refine G.seqK fun K48 hK49 => ?_
        refine G.draw H38 (by kernel_rfl) (by kernel_rfl) ?_
        refine GQ.run (j := 5) 5 [1, 5, 6, 7, 9, 17, 18, 19, 34, 35, 38] [(1, .slice B (ndg b) d), (5, .slice (some ⟨p7, 0, none⟩) (((ndg a) + (ndg b)) + 1) (((ndg a) + (ndg b)) + 1)), (6, .int .i64 (i : Int)), (7, .int .u64 ((dgt a i) : Int)), (9, .int .i64 (k : Int)), (17, .slice A (ndg a) c), (18, .int .i64 (((ndg a) : Nat) : Int)), (19, .int .i64 (i : Int)), (34, .int .u64 (cy : Int)), (35, .slice (some ⟨p7, 0, none⟩) (((ndg a) + (ndg b)) + 1) (((ndg a) + (ndg b)) + 1)), (38, .int .i64 (IntKind.i64.wrap ((i : Int) + (k : Int))))] (by kernel_rfl) rfl ?_
        have e50 : (IntKind.i64.wrap ((i : Int) + (k : Int))) = ((i + k : Nat) : Int) := by rw [in_i64 (by omega)]; omega
        refine GQ.eq (M' := [(1, .slice B (ndg b) d), (5, .slice (some ⟨p7, 0, none⟩) (((ndg a) + (ndg b)) + 1) (((ndg a) + (ndg b)) + 1)), (6, .int .i64 (i : Int)), (7, .int .u64 ((dgt a i) : Int)), (9, .int .i64 (k : Int)), (17, .slice A (ndg a) c), (18, .int .i64 (((ndg a) : Nat) : Int)), (19, .int .i64 (i : Int)), (34, .int .u64 (cy : Int)), (35, .slice (some ⟨p7, 0, none⟩) (((ndg a) + (ndg b)) + 1) (((ndg a) + (ndg b)) + 1)), (38, .int .i64 ((i + k : Nat) : Int))]) (by rw [e50]) ?_
        clear e50
        refine GQ.sem (j := 6) (fun w_ H_ => run_idxRd (P := Tryd.prog) (k := .i64) (t := 31) (A := (some ⟨p7, 0, none⟩)) (len := ((ndg a) + (ndg b)) + 1) (cap := ((ndg a) + (ndg b)) + 1) (j := i + k) (by kernel_rfl) rfl (H_.rdRow 0 rfl) (by first | exact dg_length _ | rw [dg_length]; first | rfl | assumption | (symm; assumption) | (simp; done) | (rw [List.length_take]; omega) | omega) (by omega)) [1, 5, 6, 7, 9, 17, 18, 19, 34, 39] [(1, .slice B (ndg b) d), (5, .slice (some ⟨p7, 0, none⟩) (((ndg a) + (ndg b)) + 1) (((ndg a) + (ndg b)) + 1)), (6, .int .i64 (i : Int)), (7, .int .u64 ((dgt a i) : Int)), (9, .int .i64 (k : Int)), (17, .slice A (ndg a) c), (18, .int .i64 (((ndg a) : Nat) : Int)), (19, .int .i64 (i : Int)), (34, .int .u64 (cy : Int)), (39, .pointer (Option.map (fun x => Addr.add x (i + k)) (some ⟨p7, 0, none⟩)))] (by kernel_rfl) (by kernel_rfl) rfl ?_
        obtain ⟨d51, hd52⟩ : ∃ d : Nat, (ys)[i + k]? = some d := ⟨_, List.getElem?_eq_getElem (by omega)⟩
        have hdx := hd52
        have hdB := ok_at hyok hdx
        refine GQ.sem (j := 7) (fun w_ H_ => run_ldRd (P := Tryd.prog) (ty := 22) (A := (some ⟨p7, 0, none⟩)) (j := i + k) (v := .int .u64 (d51 : Int)) (by kernel_rfl) (H_.rdRow 0 rfl) (dg_at hd52)) [1, 5, 6, 7, 9, 17, 18, 19, 34, 40] [(1, .slice B (ndg b) d), (5, .slice (some ⟨p7, 0, none⟩) (((ndg a) + (ndg b)) + 1) (((ndg a) + (ndg b)) + 1)), (6, .int .i64 (i : Int)), (7, .int .u64 ((dgt a i) : Int)), (9, .int .i64 (k : Int)), (17, .slice A (ndg a) c), (18, .int .i64 (((ndg a) : Nat) : Int)), (19, .int .i64 (i : Int)), (34, .int .u64 (cy : Int)), (40, .int .u64 (d51 : Int))] (by kernel_rfl) (by kernel_rfl) rfl ?_
        refine GQ.run (j := 11) 4 [1, 5, 6, 7, 9, 17, 18, 19, 41, 42, 43, 44] [(1, .slice B (ndg b) d), (5, .slice (some ⟨p7, 0, none⟩) (((ndg a) + (ndg b)) + 1) (((ndg a) + (ndg b)) + 1)), (6, .int .i64 (i : Int)), (7, .int .u64 ((dgt a i) : Int)), (9, .int .i64 (k : Int)), (17, .slice A (ndg a) c), (18, .int .i64 (((ndg a) : Nat) : Int)), (19, .int .i64 (i : Int)), (41, .int .u64 (IntKind.u64.wrap ((cy : Int) + (d51 : Int)))), (42, .int .u64 ((dgt a i) : Int)), (43, .slice B (ndg b) d), (44, .int .i64 (k : Int))] (by kernel_rfl) rfl ?_
        have e53 : (IntKind.u64.wrap ((cy : Int) + (d51 : Int))) = ((cy + d51 : Nat) : Int) := n_add' (a := cy) (b := d51) (by omega)
        refine GQ.eq (M' := [(1, .slice B (ndg b) d), (5, .slice (some ⟨p7, 0, none⟩) (((ndg a) + (ndg b)) + 1) (((ndg a) + (ndg b)) + 1)), (6, .int .i64 (i : Int)), (7, .int .u64 ((dgt a i) : Int)), (9, .int .i64 (k : Int)), (17, .slice A (ndg a) c), (18, .int .i64 (((ndg a) : Nat) : Int)), (19, .int .i64 (i : Int)), (41, .int .u64 ((cy + d51 : Nat) : Int)), (42, .int .u64 ((dgt a i) : Int)), (43, .slice B (ndg b) d), (44, .int .i64 (k : Int))]) (by rw [e53]) ?_
        clear e53
        refine GQ.call (fun w_ H_ => (digit_calls b k B d w_ (hs.hp H_)).mono fun e_ w2_ ⟨he_, h2_⟩ => ⟨he_, H_.callNil h2_⟩) [1, 5, 6, 7, 9, 17, 18, 19, 41, 42, 45] [(1, .slice B (ndg b) d), (5, .slice (some ⟨p7, 0, none⟩) (((ndg a) + (ndg b)) + 1) (((ndg a) + (ndg b)) + 1)), (6, .int .i64 (i : Int)), (7, .int .u64 ((dgt a i) : Int)), (9, .int .i64 (k : Int)), (17, .slice A (ndg a) c), (18, .int .i64 (((ndg a) : Nat) : Int)), (19, .int .i64 (i : Int)), (41, .int .u64 ((cy + d51 : Nat) : Int)), (42, .int .u64 ((dgt a i) : Int)), (45, .int .u64 ((dgt b k) : Int))] (by kernel_rfl) (by kernel_rfl) (j := 12) rfl ?_
        refine GQ.run (j := 15) 3 [1, 5, 6, 7, 8, 9, 17, 18, 19] [(1, .slice B (ndg b) d), (5, .slice (some ⟨p7, 0, none⟩) (((ndg a) + (ndg b)) + 1) (((ndg a) + (ndg b)) + 1)), (6, .int .i64 (i : Int)), (7, .int .u64 ((dgt a i) : Int)), (8, .int .u64 (IntKind.u64.wrap (((cy + d51 : Nat) : Int) + (IntKind.u64.wrap (((dgt a i) : Int) * ((dgt b k) : Int)))))), (9, .int .i64 (k : Int)), (17, .slice A (ndg a) c), (18, .int .i64 (((ndg a) : Nat) : Int)), (19, .int .i64 (i : Int))] (by kernel_rfl) rfl ?_
        have e54 : (IntKind.u64.wrap (((dgt a i) : Int) * ((dgt b k) : Int))) = (((dgt a i) * (dgt b k) : Nat) : Int) := n_mul' (a := (dgt a i)) (b := (dgt b k)) (by omega)
        have e55 : (IntKind.u64.wrap (((cy + d51 : Nat) : Int) + (((dgt a i) * (dgt b k) : Nat) : Int))) = (((cy + d51) + ((dgt a i) * (dgt b k)) : Nat) : Int) := n_add' (a := (cy + d51)) (b := ((dgt a i) * (dgt b k))) (by omega)
        refine GQ.eq (M' := [(1, .slice B (ndg b) d), (5, .slice (some ⟨p7, 0, none⟩) (((ndg a) + (ndg b)) + 1) (((ndg a) + (ndg b)) + 1)), (6, .int .i64 (i : Int)), (7, .int .u64 ((dgt a i) : Int)), (8, .int .u64 (((cy + d51) + ((dgt a i) * (dgt b k)) : Nat) : Int)), (9, .int .i64 (k : Int)), (17, .slice A (ndg a) c), (18, .int .i64 (((ndg a) : Nat) : Int)), (19, .int .i64 (i : Int))]) (by rw [e54, e55]) ?_
        clear e54 e55
        refine GQ.k rfl hK49 (fun _ _ h => h) (fun w56 H57 => ?_)
        refine G.seqK fun K58 hK59 => ?_
        refine G.region ?_
        refine GL.run (j := 6) 6 [1, 5, 6, 7, 8, 9, 17, 18, 19, 48, 51, 53] [(1, .slice B (ndg b) d), (5, .slice (some ⟨p7, 0, none⟩) (((ndg a) + (ndg b)) + 1) (((ndg a) + (ndg b)) + 1)), (6, .int .i64 (i : Int)), (7, .int .u64 ((dgt a i) : Int)), (8, .int .u64 (((cy + d51) + ((dgt a i) * (dgt b k)) : Nat) : Int)), (9, .int .i64 (k : Int)), (17, .slice A (ndg a) c), (18, .int .i64 (((ndg a) : Nat) : Int)), (19, .int .i64 (i : Int)), (48, .slice (some ⟨p7, 0, none⟩) (((ndg a) + (ndg b)) + 1) (((ndg a) + (ndg b)) + 1)), (51, .int .i64 (IntKind.i64.wrap ((i : Int) + (k : Int)))), (53, .int .u64 (Int.tmod (((cy + d51) + ((dgt a i) * (dgt b k)) : Nat) : Int) 65536))] (by kernel_rfl) rfl ?_
        have e60 : (IntKind.i64.wrap ((i : Int) + (k : Int))) = ((i + k : Nat) : Int) := by rw [in_i64 (by omega)]; omega
        have e61 : (Int.tmod (((cy + d51) + ((dgt a i) * (dgt b k)) : Nat) : Int) 65536) = ((((cy + d51) + ((dgt a i) * (dgt b k))) % 65536 : Nat) : Int) := n_rem _ 65536
        refine GL.eq (M' := [(1, .slice B (ndg b) d), (5, .slice (some ⟨p7, 0, none⟩) (((ndg a) + (ndg b)) + 1) (((ndg a) + (ndg b)) + 1)), (6, .int .i64 (i : Int)), (7, .int .u64 ((dgt a i) : Int)), (8, .int .u64 (((cy + d51) + ((dgt a i) * (dgt b k)) : Nat) : Int)), (9, .int .i64 (k : Int)), (17, .slice A (ndg a) c), (18, .int .i64 (((ndg a) : Nat) : Int)), (19, .int .i64 (i : Int)), (48, .slice (some ⟨p7, 0, none⟩) (((ndg a) + (ndg b)) + 1) (((ndg a) + (ndg b)) + 1)), (51, .int .i64 ((i + k : Nat) : Int)), (53, .int .u64 ((((cy + d51) + ((dgt a i) * (dgt b k))) % 65536 : Nat) : Int))]) (by rw [e60, e61]) ?_
        clear e60 e61
        refine GL.sem (j := 7) (run_idxRd (P := Tryd.prog) (k := .i64) (t := 31) (A := (some ⟨p7, 0, none⟩)) (len := ((ndg a) + (ndg b)) + 1) (cap := ((ndg a) + (ndg b)) + 1) (j := i + k) (by kernel_rfl) rfl (H57.rdRow 0 rfl) (by first | exact dg_length _ | rw [dg_length]; first | rfl | assumption | (symm; assumption) | (simp; done) | (rw [List.length_take]; omega) | omega) (by omega)) [1, 5, 6, 7, 8, 9, 17, 18, 19, 53, 54] [(1, .slice B (ndg b) d), (5, .slice (some ⟨p7, 0, none⟩) (((ndg a) + (ndg b)) + 1) (((ndg a) + (ndg b)) + 1)), (6, .int .i64 (i : Int)), (7, .int .u64 ((dgt a i) : Int)), (8, .int .u64 (((cy + d51) + ((dgt a i) * (dgt b k)) : Nat) : Int)), (9, .int .i64 (k : Int)), (17, .slice A (ndg a) c), (18, .int .i64 (((ndg a) : Nat) : Int)), (19, .int .i64 (i : Int)), (53, .int .u64 ((((cy + d51) + ((dgt a i) * (dgt b k))) % 65536 : Nat) : Int)), (54, .pointer (Option.map (fun x => Addr.add x (i + k)) (some ⟨p7, 0, none⟩)))] (by kernel_rfl) (by kernel_rfl) rfl ?_
        obtain ⟨w62, r63, H64⟩ := H57.stRow (P := Tryd.prog) (q := i + k) (ty := 22) (v := .int .u64 ((((cy + d51) + ((dgt a i) * (dgt b k))) % 65536 : Nat) : Int)) 0 rfl (by kernel_rfl) (by rw [dg_length]; omega) rfl
        rw [dg_set] at H64
        have H64 : Hp w [] [.row (some ⟨p7, 0, none⟩) (((ndg a) + (ndg b)) + 1) (((ndg a) + (ndg b)) + 1) 22 1 (dg (List.set ys (i + k) (((cy + d51) + ((dgt a i) * (dgt b k))) % 65536)))] w62 := H64
        refine GL.semU (j := 8) r63 [1, 5, 6, 7, 8, 9, 17, 18, 19] [(1, .slice B (ndg b) d), (5, .slice (some ⟨p7, 0, none⟩) (((ndg a) + (ndg b)) + 1) (((ndg a) + (ndg b)) + 1)), (6, .int .i64 (i : Int)), (7, .int .u64 ((dgt a i) : Int)), (8, .int .u64 (((cy + d51) + ((dgt a i) * (dgt b k)) : Nat) : Int)), (9, .int .i64 (k : Int)), (17, .slice A (ndg a) c), (18, .int .i64 (((ndg a) : Nat) : Int)), (19, .int .i64 (i : Int))] (by kernel_rfl) rfl rfl rfl ?_
        refine GL.k rfl hK59 (fun _ _ h => h) ?_
        refine G.region ?_
        refine GL.run (j := 3) 3 [1, 5, 6, 7, 8, 9, 17, 18, 19] [(1, .slice B (ndg b) d), (5, .slice (some ⟨p7, 0, none⟩) (((ndg a) + (ndg b)) + 1) (((ndg a) + (ndg b)) + 1)), (6, .int .i64 (i : Int)), (7, .int .u64 ((dgt a i) : Int)), (8, .int .u64 (IntKind.u64.wrap (Int.tdiv (((cy + d51) + ((dgt a i) * (dgt b k)) : Nat) : Int) 65536))), (9, .int .i64 (k : Int)), (17, .slice A (ndg a) c), (18, .int .i64 (((ndg a) : Nat) : Int)), (19, .int .i64 (i : Int))] (by kernel_rfl) rfl ?_
        have e65 : (IntKind.u64.wrap (Int.tdiv (((cy + d51) + ((dgt a i) * (dgt b k)) : Nat) : Int) 65536)) = ((((cy + d51) + ((dgt a i) * (dgt b k))) / 65536 : Nat) : Int) := n_quo 65536 (by omega)
        refine GL.eq (M' := [(1, .slice B (ndg b) d), (5, .slice (some ⟨p7, 0, none⟩) (((ndg a) + (ndg b)) + 1) (((ndg a) + (ndg b)) + 1)), (6, .int .i64 (i : Int)), (7, .int .u64 ((dgt a i) : Int)), (8, .int .u64 ((((cy + d51) + ((dgt a i) * (dgt b k))) / 65536 : Nat) : Int)), (9, .int .i64 (k : Int)), (17, .slice A (ndg a) c), (18, .int .i64 (((ndg a) : Nat) : Int)), (19, .int .i64 (i : Int))]) (by rw [e65]) ?_
        clear e65
        refine GL.k rfl hK47 (fun _ _ h => h) ?_
        refine G.region ?_
        refine GL.run (j := 3) 3 [1, 5, 6, 7, 8, 9, 17, 18, 19] [(1, .slice B (ndg b) d), (5, .slice (some ⟨p7, 0, none⟩) (((ndg a) + (ndg b)) + 1) (((ndg a) + (ndg b)) + 1)), (6, .int .i64 (i : Int)), (7, .int .u64 ((dgt a i) : Int)), (8, .int .u64 ((((cy + d51) + ((dgt a i) * (dgt b k))) / 65536 : Nat) : Int)), (9, .int .i64 (IntKind.i64.wrap ((k : Int) + 1))), (17, .slice A (ndg a) c), (18, .int .i64 (((ndg a) : Nat) : Int)), (19, .int .i64 (i : Int))] (by kernel_rfl) rfl ?_
        have e66 : (IntKind.i64.wrap ((k : Int) + 1)) = ((k + 1 : Nat) : Int) := by rw [in_i64 (by omega)]; omega
        refine GL.eq (M' := [(1, .slice B (ndg b) d), (5, .slice (some ⟨p7, 0, none⟩) (((ndg a) + (ndg b)) + 1) (((ndg a) + (ndg b)) + 1)), (6, .int .i64 (i : Int)), (7, .int .u64 ((dgt a i) : Int)), (8, .int .u64 ((((cy + d51) + ((dgt a i) * (dgt b k))) / 65536 : Nat) : Int)), (9, .int .i64 ((k + 1 : Nat) : Int)), (17, .slice A (ndg a) c), (18, .int .i64 (((ndg a) : Nat) : Int)), (19, .int .i64 (i : Int))]) (by rw [e66]) ?_
        clear e66
        refine GL.fit (ts := [1, 5, 6, 7, 8, 9, 17, 18, 19]) (M' := [(1, .slice B (ndg b) d), (5, .slice (some ⟨p7, 0, none⟩) (((ndg a) + (ndg b)) + 1) (((ndg a) + (ndg b)) + 1)), (6, .int .i64 (i : Int)), (7, .int .u64 ((dgt a i) : Int)), (8, .int .u64 ((((cy + d51) + ((dgt a i) * (dgt b k))) / 65536 : Nat) : Int)), (9, .int .i64 ((k + 1 : Nat) : Int)), (17, .slice A (ndg a) c), (18, .int .i64 (((ndg a) : Nat) : Int)), (19, .int .i64 (i : Int))]) (by kernel_rfl) ?_
        refine GL.eq (M' := [(1, .slice B (ndg b) d), (5, .slice (some ⟨p7, 0, none⟩) (((ndg a) + (ndg b)) + 1) (((ndg a) + (ndg b)) + 1)), (6, .int .i64 (i : Int)), (7, .int .u64 ((dgt a i) : Int)), (8, .int .u64 ((((cy + d51) + ((dgt a i) * (dgt b k))) / 65536 : Nat) : Int)), (9, .int .i64 (((k + 1) : Nat) : Int)), (17, .slice A (ndg a) c), (18, .int .i64 (((ndg a) : Nat) : Int)), (19, .int .i64 (i : Int))]) (by rfl) ?_
        exact GL.again ⟨(k + 1), ((cy + d51) + ((dgt a i) * (dgt b k))) / 65536, (List.set ys (i + k) (((cy + d51) + ((dgt a i) * (dgt b k))) % 65536))⟩ [1, 5, 6, 7, 8, 9, 17, 18, 19] rfl (by kernel_rfl) (by show ndg b + 1 - (k + 1) < ndg b + 1 - k; omega) ⟨⟨by simp [hyl], ok_set hyok (Nat.mod_lt _ (by decide)), by omega, mul_round hdx rfl hyv⟩, H64⟩
    · skip
      have hb43f := of_decide_eq_true hb43
      have hkb : k ≤ ndg b := mul_in hyv (by omega)
      refine GL.run (j := 8) 3 [1, 5, 6, 7, 8, 9, 17, 18, 19, 31] [(1, .slice B (ndg b) d), (5, .slice (some ⟨p7, 0, none⟩) (((ndg a) + (ndg b)) + 1) (((ndg a) + (ndg b)) + 1)), (6, .int .i64 (i : Int)), (7, .int .u64 ((dgt a i) : Int)), (8, .int .u64 (cy : Int)), (9, .int .i64 (k : Int)), (17, .slice A (ndg a) c), (18, .int .i64 (((ndg a) : Nat) : Int)), (19, .int .i64 (i : Int)), (31, .bool true)] (by kernel_rfl) rfl ?_
      refine GL.k rfl hK42 (fun _ _ h => h) ?_
      refine G.yes rfl ?_
      refine G.skipK hK40 (fun _ _ h => h) ?_
      refine G.seqK fun K67 hK68 => ?_
      refine G.block ?_
      refine G.seqK fun K69 hK70 => ?_
      refine G.draw H38 (by kernel_rfl) (by kernel_rfl) ?_
      refine GQ.run (j := 5) 5 [1, 5, 6, 7, 9, 17, 18, 19, 34, 35, 38] [(1, .slice B (ndg b) d), (5, .slice (some ⟨p7, 0, none⟩) (((ndg a) + (ndg b)) + 1) (((ndg a) + (ndg b)) + 1)), (6, .int .i64 (i : Int)), (7, .int .u64 ((dgt a i) : Int)), (9, .int .i64 (k : Int)), (17, .slice A (ndg a) c), (18, .int .i64 (((ndg a) : Nat) : Int)), (19, .int .i64 (i : Int)), (34, .int .u64 (cy : Int)), (35, .slice (some ⟨p7, 0, none⟩) (((ndg a) + (ndg b)) + 1) (((ndg a) + (ndg b)) + 1)), (38, .int .i64 (IntKind.i64.wrap ((i : Int) + (k : Int))))] (by kernel_rfl) rfl ?_
      have e71 : (IntKind.i64.wrap ((i : Int) + (k : Int))) = ((i + k : Nat) : Int) := by rw [in_i64 (by omega)]; omega
      refine GQ.eq (M' := [(1, .slice B (ndg b) d), (5, .slice (some ⟨p7, 0, none⟩) (((ndg a) + (ndg b)) + 1) (((ndg a) + (ndg b)) + 1)), (6, .int .i64 (i : Int)), (7, .int .u64 ((dgt a i) : Int)), (9, .int .i64 (k : Int)), (17, .slice A (ndg a) c), (18, .int .i64 (((ndg a) : Nat) : Int)), (19, .int .i64 (i : Int)), (34, .int .u64 (cy : Int)), (35, .slice (some ⟨p7, 0, none⟩) (((ndg a) + (ndg b)) + 1) (((ndg a) + (ndg b)) + 1)), (38, .int .i64 ((i + k : Nat) : Int))]) (by rw [e71]) ?_
      clear e71
      refine GQ.sem (j := 6) (fun w_ H_ => run_idxRd (P := Tryd.prog) (k := .i64) (t := 31) (A := (some ⟨p7, 0, none⟩)) (len := ((ndg a) + (ndg b)) + 1) (cap := ((ndg a) + (ndg b)) + 1) (j := i + k) (by kernel_rfl) rfl (H_.rdRow 0 rfl) (by first | exact dg_length _ | rw [dg_length]; first | rfl | assumption | (symm; assumption) | (simp; done) | (rw [List.length_take]; omega) | omega) (by omega)) [1, 5, 6, 7, 9, 17, 18, 19, 34, 39] [(1, .slice B (ndg b) d), (5, .slice (some ⟨p7, 0, none⟩) (((ndg a) + (ndg b)) + 1) (((ndg a) + (ndg b)) + 1)), (6, .int .i64 (i : Int)), (7, .int .u64 ((dgt a i) : Int)), (9, .int .i64 (k : Int)), (17, .slice A (ndg a) c), (18, .int .i64 (((ndg a) : Nat) : Int)), (19, .int .i64 (i : Int)), (34, .int .u64 (cy : Int)), (39, .pointer (Option.map (fun x => Addr.add x (i + k)) (some ⟨p7, 0, none⟩)))] (by kernel_rfl) (by kernel_rfl) rfl ?_
      obtain ⟨d72, hd73⟩ : ∃ d : Nat, (ys)[i + k]? = some d := ⟨_, List.getElem?_eq_getElem (by omega)⟩
      have hdx := hd73
      have hdB := ok_at hyok hdx
      refine GQ.sem (j := 7) (fun w_ H_ => run_ldRd (P := Tryd.prog) (ty := 22) (A := (some ⟨p7, 0, none⟩)) (j := i + k) (v := .int .u64 (d72 : Int)) (by kernel_rfl) (H_.rdRow 0 rfl) (dg_at hd73)) [1, 5, 6, 7, 9, 17, 18, 19, 34, 40] [(1, .slice B (ndg b) d), (5, .slice (some ⟨p7, 0, none⟩) (((ndg a) + (ndg b)) + 1) (((ndg a) + (ndg b)) + 1)), (6, .int .i64 (i : Int)), (7, .int .u64 ((dgt a i) : Int)), (9, .int .i64 (k : Int)), (17, .slice A (ndg a) c), (18, .int .i64 (((ndg a) : Nat) : Int)), (19, .int .i64 (i : Int)), (34, .int .u64 (cy : Int)), (40, .int .u64 (d72 : Int))] (by kernel_rfl) (by kernel_rfl) rfl ?_
      refine GQ.run (j := 11) 4 [1, 5, 6, 7, 9, 17, 18, 19, 41, 42, 43, 44] [(1, .slice B (ndg b) d), (5, .slice (some ⟨p7, 0, none⟩) (((ndg a) + (ndg b)) + 1) (((ndg a) + (ndg b)) + 1)), (6, .int .i64 (i : Int)), (7, .int .u64 ((dgt a i) : Int)), (9, .int .i64 (k : Int)), (17, .slice A (ndg a) c), (18, .int .i64 (((ndg a) : Nat) : Int)), (19, .int .i64 (i : Int)), (41, .int .u64 (IntKind.u64.wrap ((cy : Int) + (d72 : Int)))), (42, .int .u64 ((dgt a i) : Int)), (43, .slice B (ndg b) d), (44, .int .i64 (k : Int))] (by kernel_rfl) rfl ?_
      have e74 : (IntKind.u64.wrap ((cy : Int) + (d72 : Int))) = ((cy + d72 : Nat) : Int) := n_add' (a := cy) (b := d72) (by omega)
      refine GQ.eq (M' := [(1, .slice B (ndg b) d), (5, .slice (some ⟨p7, 0, none⟩) (((ndg a) + (ndg b)) + 1) (((ndg a) + (ndg b)) + 1)), (6, .int .i64 (i : Int)), (7, .int .u64 ((dgt a i) : Int)), (9, .int .i64 (k : Int)), (17, .slice A (ndg a) c), (18, .int .i64 (((ndg a) : Nat) : Int)), (19, .int .i64 (i : Int)), (41, .int .u64 ((cy + d72 : Nat) : Int)), (42, .int .u64 ((dgt a i) : Int)), (43, .slice B (ndg b) d), (44, .int .i64 (k : Int))]) (by rw [e74]) ?_
      clear e74
      refine GQ.call (fun w_ H_ => (digit_calls b k B d w_ (hs.hp H_)).mono fun e_ w2_ ⟨he_, h2_⟩ => ⟨he_, H_.callNil h2_⟩) [1, 5, 6, 7, 9, 17, 18, 19, 41, 42, 45] [(1, .slice B (ndg b) d), (5, .slice (some ⟨p7, 0, none⟩) (((ndg a) + (ndg b)) + 1) (((ndg a) + (ndg b)) + 1)), (6, .int .i64 (i : Int)), (7, .int .u64 ((dgt a i) : Int)), (9, .int .i64 (k : Int)), (17, .slice A (ndg a) c), (18, .int .i64 (((ndg a) : Nat) : Int)), (19, .int .i64 (i : Int)), (41, .int .u64 ((cy + d72 : Nat) : Int)), (42, .int .u64 ((dgt a i) : Int)), (45, .int .u64 ((dgt b k) : Int))] (by kernel_rfl) (by kernel_rfl) (j := 12) rfl ?_
      refine GQ.run (j := 15) 3 [1, 5, 6, 7, 8, 9, 17, 18, 19] [(1, .slice B (ndg b) d), (5, .slice (some ⟨p7, 0, none⟩) (((ndg a) + (ndg b)) + 1) (((ndg a) + (ndg b)) + 1)), (6, .int .i64 (i : Int)), (7, .int .u64 ((dgt a i) : Int)), (8, .int .u64 (IntKind.u64.wrap (((cy + d72 : Nat) : Int) + (IntKind.u64.wrap (((dgt a i) : Int) * ((dgt b k) : Int)))))), (9, .int .i64 (k : Int)), (17, .slice A (ndg a) c), (18, .int .i64 (((ndg a) : Nat) : Int)), (19, .int .i64 (i : Int))] (by kernel_rfl) rfl ?_
      have e75 : (IntKind.u64.wrap (((dgt a i) : Int) * ((dgt b k) : Int))) = (((dgt a i) * (dgt b k) : Nat) : Int) := n_mul' (a := (dgt a i)) (b := (dgt b k)) (by omega)
      have e76 : (IntKind.u64.wrap (((cy + d72 : Nat) : Int) + (((dgt a i) * (dgt b k) : Nat) : Int))) = (((cy + d72) + ((dgt a i) * (dgt b k)) : Nat) : Int) := n_add' (a := (cy + d72)) (b := ((dgt a i) * (dgt b k))) (by omega)
      refine GQ.eq (M' := [(1, .slice B (ndg b) d), (5, .slice (some ⟨p7, 0, none⟩) (((ndg a) + (ndg b)) + 1) (((ndg a) + (ndg b)) + 1)), (6, .int .i64 (i : Int)), (7, .int .u64 ((dgt a i) : Int)), (8, .int .u64 (((cy + d72) + ((dgt a i) * (dgt b k)) : Nat) : Int)), (9, .int .i64 (k : Int)), (17, .slice A (ndg a) c), (18, .int .i64 (((ndg a) : Nat) : Int)), (19, .int .i64 (i : Int))]) (by rw [e75, e76]) ?_
      clear e75 e76
      refine GQ.k rfl hK70 (fun _ _ h => h) (fun w77 H78 => ?_)
      refine G.seqK fun K79 hK80 => ?_
      refine G.region ?_
      refine GL.run (j := 6) 6 [1, 5, 6, 7, 8, 9, 17, 18, 19, 48, 51, 53] [(1, .slice B (ndg b) d), (5, .slice (some ⟨p7, 0, none⟩) (((ndg a) + (ndg b)) + 1) (((ndg a) + (ndg b)) + 1)), (6, .int .i64 (i : Int)), (7, .int .u64 ((dgt a i) : Int)), (8, .int .u64 (((cy + d72) + ((dgt a i) * (dgt b k)) : Nat) : Int)), (9, .int .i64 (k : Int)), (17, .slice A (ndg a) c), (18, .int .i64 (((ndg a) : Nat) : Int)), (19, .int .i64 (i : Int)), (48, .slice (some ⟨p7, 0, none⟩) (((ndg a) + (ndg b)) + 1) (((ndg a) + (ndg b)) + 1)), (51, .int .i64 (IntKind.i64.wrap ((i : Int) + (k : Int)))), (53, .int .u64 (Int.tmod (((cy + d72) + ((dgt a i) * (dgt b k)) : Nat) : Int) 65536))] (by kernel_rfl) rfl ?_
      have e81 : (IntKind.i64.wrap ((i : Int) + (k : Int))) = ((i + k : Nat) : Int) := by rw [in_i64 (by omega)]; omega
      have e82 : (Int.tmod (((cy + d72) + ((dgt a i) * (dgt b k)) : Nat) : Int) 65536) = ((((cy + d72) + ((dgt a i) * (dgt b k))) % 65536 : Nat) : Int) := n_rem _ 65536
      refine GL.eq (M' := [(1, .slice B (ndg b) d), (5, .slice (some ⟨p7, 0, none⟩) (((ndg a) + (ndg b)) + 1) (((ndg a) + (ndg b)) + 1)), (6, .int .i64 (i : Int)), (7, .int .u64 ((dgt a i) : Int)), (8, .int .u64 (((cy + d72) + ((dgt a i) * (dgt b k)) : Nat) : Int)), (9, .int .i64 (k : Int)), (17, .slice A (ndg a) c), (18, .int .i64 (((ndg a) : Nat) : Int)), (19, .int .i64 (i : Int)), (48, .slice (some ⟨p7, 0, none⟩) (((ndg a) + (ndg b)) + 1) (((ndg a) + (ndg b)) + 1)), (51, .int .i64 ((i + k : Nat) : Int)), (53, .int .u64 ((((cy + d72) + ((dgt a i) * (dgt b k))) % 65536 : Nat) : Int))]) (by rw [e81, e82]) ?_
      clear e81 e82
      refine GL.sem (j := 7) (run_idxRd (P := Tryd.prog) (k := .i64) (t := 31) (A := (some ⟨p7, 0, none⟩)) (len := ((ndg a) + (ndg b)) + 1) (cap := ((ndg a) + (ndg b)) + 1) (j := i + k) (by kernel_rfl) rfl (H78.rdRow 0 rfl) (by first | exact dg_length _ | rw [dg_length]; first | rfl | assumption | (symm; assumption) | (simp; done) | (rw [List.length_take]; omega) | omega) (by omega)) [1, 5, 6, 7, 8, 9, 17, 18, 19, 53, 54] [(1, .slice B (ndg b) d), (5, .slice (some ⟨p7, 0, none⟩) (((ndg a) + (ndg b)) + 1) (((ndg a) + (ndg b)) + 1)), (6, .int .i64 (i : Int)), (7, .int .u64 ((dgt a i) : Int)), (8, .int .u64 (((cy + d72) + ((dgt a i) * (dgt b k)) : Nat) : Int)), (9, .int .i64 (k : Int)), (17, .slice A (ndg a) c), (18, .int .i64 (((ndg a) : Nat) : Int)), (19, .int .i64 (i : Int)), (53, .int .u64 ((((cy + d72) + ((dgt a i) * (dgt b k))) % 65536 : Nat) : Int)), (54, .pointer (Option.map (fun x => Addr.add x (i + k)) (some ⟨p7, 0, none⟩)))] (by kernel_rfl) (by kernel_rfl) rfl ?_
      obtain ⟨w83, r84, H85⟩ := H78.stRow (P := Tryd.prog) (q := i + k) (ty := 22) (v := .int .u64 ((((cy + d72) + ((dgt a i) * (dgt b k))) % 65536 : Nat) : Int)) 0 rfl (by kernel_rfl) (by rw [dg_length]; omega) rfl
      rw [dg_set] at H85
      have H85 : Hp w [] [.row (some ⟨p7, 0, none⟩) (((ndg a) + (ndg b)) + 1) (((ndg a) + (ndg b)) + 1) 22 1 (dg (List.set ys (i + k) (((cy + d72) + ((dgt a i) * (dgt b k))) % 65536)))] w83 := H85
      refine GL.semU (j := 8) r84 [1, 5, 6, 7, 8, 9, 17, 18, 19] [(1, .slice B (ndg b) d), (5, .slice (some ⟨p7, 0, none⟩) (((ndg a) + (ndg b)) + 1) (((ndg a) + (ndg b)) + 1)), (6, .int .i64 (i : Int)), (7, .int .u64 ((dgt a i) : Int)), (8, .int .u64 (((cy + d72) + ((dgt a i) * (dgt b k)) : Nat) : Int)), (9, .int .i64 (k : Int)), (17, .slice A (ndg a) c), (18, .int .i64 (((ndg a) : Nat) : Int)), (19, .int .i64 (i : Int))] (by kernel_rfl) rfl rfl rfl ?_
      refine GL.k rfl hK80 (fun _ _ h => h) ?_
      refine G.region ?_
      refine GL.run (j := 3) 3 [1, 5, 6, 7, 8, 9, 17, 18, 19] [(1, .slice B (ndg b) d), (5, .slice (some ⟨p7, 0, none⟩) (((ndg a) + (ndg b)) + 1) (((ndg a) + (ndg b)) + 1)), (6, .int .i64 (i : Int)), (7, .int .u64 ((dgt a i) : Int)), (8, .int .u64 (IntKind.u64.wrap (Int.tdiv (((cy + d72) + ((dgt a i) * (dgt b k)) : Nat) : Int) 65536))), (9, .int .i64 (k : Int)), (17, .slice A (ndg a) c), (18, .int .i64 (((ndg a) : Nat) : Int)), (19, .int .i64 (i : Int))] (by kernel_rfl) rfl ?_
      have e86 : (IntKind.u64.wrap (Int.tdiv (((cy + d72) + ((dgt a i) * (dgt b k)) : Nat) : Int) 65536)) = ((((cy + d72) + ((dgt a i) * (dgt b k))) / 65536 : Nat) : Int) := n_quo 65536 (by omega)
      refine GL.eq (M' := [(1, .slice B (ndg b) d), (5, .slice (some ⟨p7, 0, none⟩) (((ndg a) + (ndg b)) + 1) (((ndg a) + (ndg b)) + 1)), (6, .int .i64 (i : Int)), (7, .int .u64 ((dgt a i) : Int)), (8, .int .u64 ((((cy + d72) + ((dgt a i) * (dgt b k))) / 65536 : Nat) : Int)), (9, .int .i64 (k : Int)), (17, .slice A (ndg a) c), (18, .int .i64 (((ndg a) : Nat) : Int)), (19, .int .i64 (i : Int))]) (by rw [e86]) ?_
      clear e86
      refine GL.k rfl hK68 (fun _ _ h => h) ?_
      refine G.region ?_
      refine GL.run (j := 3) 3 [1, 5, 6, 7, 8, 9, 17, 18, 19] [(1, .slice B (ndg b) d), (5, .slice (some ⟨p7, 0, none⟩) (((ndg a) + (ndg b)) + 1) (((ndg a) + (ndg b)) + 1)), (6, .int .i64 (i : Int)), (7, .int .u64 ((dgt a i) : Int)), (8, .int .u64 ((((cy + d72) + ((dgt a i) * (dgt b k))) / 65536 : Nat) : Int)), (9, .int .i64 (IntKind.i64.wrap ((k : Int) + 1))), (17, .slice A (ndg a) c), (18, .int .i64 (((ndg a) : Nat) : Int)), (19, .int .i64 (i : Int))] (by kernel_rfl) rfl ?_
      have e87 : (IntKind.i64.wrap ((k : Int) + 1)) = ((k + 1 : Nat) : Int) := by rw [in_i64 (by omega)]; omega
      refine GL.eq (M' := [(1, .slice B (ndg b) d), (5, .slice (some ⟨p7, 0, none⟩) (((ndg a) + (ndg b)) + 1) (((ndg a) + (ndg b)) + 1)), (6, .int .i64 (i : Int)), (7, .int .u64 ((dgt a i) : Int)), (8, .int .u64 ((((cy + d72) + ((dgt a i) * (dgt b k))) / 65536 : Nat) : Int)), (9, .int .i64 ((k + 1 : Nat) : Int)), (17, .slice A (ndg a) c), (18, .int .i64 (((ndg a) : Nat) : Int)), (19, .int .i64 (i : Int))]) (by rw [e87]) ?_
      clear e87
      refine GL.fit (ts := [1, 5, 6, 7, 8, 9, 17, 18, 19]) (M' := [(1, .slice B (ndg b) d), (5, .slice (some ⟨p7, 0, none⟩) (((ndg a) + (ndg b)) + 1) (((ndg a) + (ndg b)) + 1)), (6, .int .i64 (i : Int)), (7, .int .u64 ((dgt a i) : Int)), (8, .int .u64 ((((cy + d72) + ((dgt a i) * (dgt b k))) / 65536 : Nat) : Int)), (9, .int .i64 ((k + 1 : Nat) : Int)), (17, .slice A (ndg a) c), (18, .int .i64 (((ndg a) : Nat) : Int)), (19, .int .i64 (i : Int))]) (by kernel_rfl) ?_
      refine GL.eq (M' := [(1, .slice B (ndg b) d), (5, .slice (some ⟨p7, 0, none⟩) (((ndg a) + (ndg b)) + 1) (((ndg a) + (ndg b)) + 1)), (6, .int .i64 (i : Int)), (7, .int .u64 ((dgt a i) : Int)), (8, .int .u64 ((((cy + d72) + ((dgt a i) * (dgt b k))) / 65536 : Nat) : Int)), (9, .int .i64 (((k + 1) : Nat) : Int)), (17, .slice A (ndg a) c), (18, .int .i64 (((ndg a) : Nat) : Int)), (19, .int .i64 (i : Int))]) (by rfl) ?_
      exact GL.again ⟨(k + 1), ((cy + d72) + ((dgt a i) * (dgt b k))) / 65536, (List.set ys (i + k) (((cy + d72) + ((dgt a i) * (dgt b k))) % 65536))⟩ [1, 5, 6, 7, 8, 9, 17, 18, 19] rfl (by kernel_rfl) (by show ndg b + 1 - (k + 1) < ndg b + 1 - k; omega) ⟨⟨by simp [hyl], ok_set hyok (Nat.mod_lt _ (by decide)), by omega, mul_round hdx rfl hyv⟩, H85⟩
end Go.Proofs.YtgbhiklengafiaaDoor
set_option maxRecDepth 100000
namespace Go.Proofs.YtgbhiklengafiaaDoor
open Go.RowKit
theorem Part_upA (a u d : Nat) (ha : a < K) (hu : u < K) (hd : d < K) (w : World) : Calls Tryd.prog 11 #[.int .u64 (a : Int), .int .u64 (u : Int), .int .u64 (d : Int), .bool true] w fun e w' => e = .returned (.tuple #[.int .u64 ((partV a u d true : Nat) : Int), .int .i64 ((partE a u d true : Nat) : Int)]) ∧ Hp w [] [] w' := by
  by_cases h : d = 0
  · subst h
    exact Part_up0 a u ha hu w
  · exact Part_up a u d ha hu hd h w
theorem Part_downA (a u d : Nat) (ha : a < K) (hu : u < K) (hd : d < K) (w : World) : Calls Tryd.prog 11 #[.int .u64 (a : Int), .int .u64 (u : Int), .int .u64 (d : Int), .bool false] w fun e w' => e = .returned (.tuple #[.int .u64 ((partV a u d false : Nat) : Int), .int .i64 ((partE a u d false : Nat) : Int)]) ∧ Hp w [] [] w' := by
  by_cases h : d = 0
  · subst h
    exact Part_down0 a u ha hu w
  · exact Part_down a u d ha hu hd h w
theorem lives_calls (w : World) : Calls Tryd.prog 4 #[] w fun e w' => e = .returned (.bool true) ∧ Hp w [] [] w' := by
  refine calls_G (args := []) Tryd.func4 rfl Tryd.ntmps4 rfl ?_
  intro Q0 hRet hNor hPan
  have H := Hp.start w
  have H : Hp w [] [] w := H
  refine G.seqK fun K1 hK2 => ?_
  refine G.region ?_
  refine GL.run (j := 1) 1 [] [] (by kernel_rfl) rfl ?_
  refine GL.k rfl hK2 (fun _ _ h => h) ?_
  refine G.seqK fun K3 hK4 => ?_
  refine G.region ?_
  refine GL.call (j := 1) (Part_downA 10 2 3 (by decide) (by decide) (by decide) w) (by kernel_rfl) rfl (fun e_ w5 hR => ?_)
  obtain ⟨rfl, H7⟩ := hR
  have H6 : Hp w [] [] w5 := H.callNil H7
  refine ⟨_, rfl, [6], [(6, .tuple #[.int .u64 (((partV 10 2 3 false) : Nat) : Int), .int .i64 (((partE 10 2 3 false) : Nat) : Int)])], by kernel_rfl, ?_⟩
  refine GL.run (j := 6) 5 [1, 2] [(1, .int .u64 (((partV 10 2 3 false) : Nat) : Int)), (2, .int .i64 (((partE 10 2 3 false) : Nat) : Int))] (by kernel_rfl) rfl ?_
  refine GL.k rfl hK4 (fun _ _ h => h) ?_
  refine G.seqK fun K8 hK9 => ?_
  refine G.region ?_
  refine GL.call (j := 1) (Part_upA 10 2 3 (by decide) (by decide) (by decide) w5) (by kernel_rfl) rfl (fun e_ w10 hR => ?_)
  obtain ⟨rfl, H12⟩ := hR
  have H11 : Hp w [] [] w10 := H6.callNil H12
  refine ⟨_, rfl, [1, 2, 10], [(1, .int .u64 (((partV 10 2 3 false) : Nat) : Int)), (2, .int .i64 (((partE 10 2 3 false) : Nat) : Int)), (10, .tuple #[.int .u64 (((partV 10 2 3 true) : Nat) : Int), .int .i64 (((partE 10 2 3 true) : Nat) : Int)])], by kernel_rfl, ?_⟩
  refine GL.run (j := 6) 5 [1, 2, 3, 4] [(1, .int .u64 (((partV 10 2 3 false) : Nat) : Int)), (2, .int .i64 (((partE 10 2 3 false) : Nat) : Int)), (3, .int .u64 (((partV 10 2 3 true) : Nat) : Int)), (4, .int .i64 (((partE 10 2 3 true) : Nat) : Int))] (by kernel_rfl) rfl ?_
  refine GL.k rfl hK9 (fun _ _ h => h) ?_
  refine G.seqK fun K13 hK14 => ?_
  refine G.region ?_
  refine GL.run (j := 3) 3 [1, 3, 4, 15] [(1, .int .u64 (((partV 10 2 3 false) : Nat) : Int)), (3, .int .u64 (((partV 10 2 3 true) : Nat) : Int)), (4, .int .i64 (((partE 10 2 3 true) : Nat) : Int)), (15, .bool ((((partE 10 2 3 false) : Nat) : Int) == 0))] (by kernel_rfl) rfl ?_
  have hb15 : ((((partE 10 2 3 false) : Nat) : Int) == 0) = true := by kernel_rfl
  rw [hb15]
  refine GL.run (j := 7) 4 [1, 3, 19] [(1, .int .u64 (((partV 10 2 3 false) : Nat) : Int)), (3, .int .u64 (((partV 10 2 3 true) : Nat) : Int)), (19, .bool ((((partE 10 2 3 true) : Nat) : Int) == 0))] (by kernel_rfl) rfl ?_
  have hb16 : ((((partE 10 2 3 true) : Nat) : Int) == 0) = true := by kernel_rfl
  rw [hb16]
  refine GL.run (j := 11) 4 [3, 23] [(3, .int .u64 (((partV 10 2 3 true) : Nat) : Int)), (23, .bool ((((partV 10 2 3 false) : Nat) : Int) == 6))] (by kernel_rfl) rfl ?_
  have hb17 : ((((partV 10 2 3 false) : Nat) : Int) == 6) = true := by kernel_rfl
  rw [hb17]
  refine GL.run (j := 15) 4 [0] [(0, .bool ((((partV 10 2 3 true) : Nat) : Int) == 7))] (by kernel_rfl) rfl ?_
  refine GL.k rfl hK14 (fun _ _ h => h) ?_
  refine G.ret ?_
  intro F_ hF_ hM_
  refine hRet _ _ (bodyPost_1 rfl (RV.tmp rfl) ?_ F_ hF_ hM_)
  have hb18 : ((((partV 10 2 3 true) : Nat) : Int) == 7) = true := by kernel_rfl
  rw [hb18]
  exact ⟨rfl, H11.sub (List.nil_sublist _)⟩
end Go.Proofs.YtgbhiklengafiaaDoor
namespace Go.Proofs.YtgbhiklengafiaaDoor
open Go.RowKit
section
variable {P : Program} {n : Nat} {M : FM} {w : World}
theorem G.seqJ {a b : Code} {Q : Exit → Act → World → Prop} {X : Type} (Mx : X → FM) (J : X → World → Prop)
    (h : (∀ x w', J x w' → G P b Q n (Mx x) w') → ∀ K : Act → World → Prop, (∀ a w, b.wp P Q a w → K a w) → G P a (Exit.then K Q) n M w)
    (hb : ∀ x w', J x w' → G P b Q n (Mx x) w') : G P (.seq a b) Q n M w := G.seqK fun K hK => h hb K hK
end
end Go.Proofs.YtgbhiklengafiaaDoor
set_option maxRecDepth 100000
namespace Go.Proofs.YtgbhiklengafiaaDoor
open Go.RowKit
theorem mpV_lt (l : List UInt8) : mpV l < K := by
  have hK : K = 18446744073709551616 := rfl
  unfold mpV
  split
  · split <;> omega
  · omega
set_option maxHeartbeats 4000000 in
theorem MoneyTexts_calls (a : Nat) (ha : a < K) (A : Option Addr) (bs : List UInt8) (c : Nat) (tp : TypeId) (pv : Value) (w : World) (hx : RdS w A (by8 bs)) (hT : Lib.TabIs Tryd.prog w "internal/strconv.uint64pow10" .u64 Lib.pow10Tab) (hv : w.cell? ⟨2, 0, none⟩ = some (.iface tp pv)) : Calls Tryd.prog 3 #[.int .u64 (a : Int), .slice A bs.length c] w fun e w' => e = .returned (.bool true) ∧ Hp w [] [] w' := by
  refine calls_G (args := [.int .u64 (a : Int), .slice A bs.length c]) Tryd.func3 rfl Tryd.ntmps3 rfl ?_
  intro Q0 hRet hNor hPan
  have H := Hp.start w
  have H : Hp w [] [] w := H
  refine G.seqK fun K1 hK2 => ?_
  refine G.region ?_
  refine GL.run (j := 1) 1 [0, 1] [(0, .int .u64 (a : Int)), (1, .slice A bs.length c)] (by kernel_rfl) rfl ?_
  refine GL.k rfl hK2 (fun _ _ h => h) ?_
  refine G.seqK fun K3 hK4 => ?_
  refine G.seqK fun K5 hK6 => ?_
  refine G.region ?_
  refine GL.call (j := 1) (lives_calls w) (by kernel_rfl) rfl (fun e_ w7 hR => ?_)
  obtain ⟨rfl, H9⟩ := hR
  have H8 : Hp w [] [] w7 := H.callNil H9
  refine ⟨_, rfl, [0, 1, 16], [(0, .int .u64 (a : Int)), (1, .slice A bs.length c), (16, .bool true)], by kernel_rfl, ?_⟩
  refine GL.run (j := 7) 6 [0, 1, 22] [(0, .int .u64 (a : Int)), (1, .slice A bs.length c), (22, .bool (decide (60 < (bs.length : Int))))] (by kernel_rfl) rfl ?_
  refine GL.k rfl hK6 (fun _ _ h => h) ?_
  cases hb10 : (decide (60 < (bs.length : Int)))
  · skip
    have hb10f := of_decide_eq_false hb10
    have hl60 : bs.length ≤ 60 := by omega
    refine G.no rfl ?_
    refine G.skipK hK4 (fun _ _ h => h) ?_
    refine G.seqK fun K11 hK12 => ?_
    refine G.region ?_
    refine GL.run (j := 1) 1 [0, 1, 24] [(0, .int .u64 (a : Int)), (1, .slice A bs.length c), (24, .int .u64 (a : Int))] (by kernel_rfl) rfl ?_
    refine GL.call (j := 2) (Text_calls a ha w7 ((Lib.tabBelow_of_tabIs hT) _ H8.below)) (by kernel_rfl) rfl (fun e_ w15 hR => ?_)
    obtain ⟨A13, c14, rfl, H17⟩ := hR
    have H16 : Hp w [] [.row A13 ((Lib.decDigits a).length) c14 5 1 (by8 (Lib.decDigits a))] w15 := H8.callNew H17
    refine ⟨_, rfl, [0, 1, 25], [(0, .int .u64 (a : Int)), (1, .slice A bs.length c), (25, .slice A13 ((Lib.decDigits a).length) c14)], by kernel_rfl, ?_⟩
    refine GL.run (j := 3) 1 [0, 1, 5] [(0, .int .u64 (a : Int)), (1, .slice A bs.length c), (5, .slice A13 ((Lib.decDigits a).length) c14)] (by kernel_rfl) rfl ?_
    refine GL.k rfl hK12 (fun _ _ h => h) ?_
    refine G.seqK fun K18 hK19 => ?_
    refine G.region ?_
    refine GL.run (j := 1) 1 [0, 1, 27] [(0, .int .u64 (a : Int)), (1, .slice A bs.length c), (27, .slice A13 ((Lib.decDigits a).length) c14)] (by kernel_rfl) rfl ?_
    refine GL.call (j := 2) (Parse_calls (Lib.decDigits a) (Nat.le_trans (dd_len _ ha) (by decide)) tp pv A13 c14 w15 (H16.oldCell hv) (H16.rdRow 0 rfl)) (by kernel_rfl) rfl (fun e_ w20 hR => ?_)
    obtain ⟨rfl, H22⟩ := hR
    have H21 : Hp w [] [.row A13 ((Lib.decDigits a).length) c14 5 1 (by8 (Lib.decDigits a))] w20 := H16.callNil H22
    refine ⟨_, rfl, [0, 1, 28], [(0, .int .u64 (a : Int)), (1, .slice A bs.length c), (28, .tuple #[.int .u64 (((mpV (Lib.decDigits a)) : Nat) : Int), .int .i64 (((mpE (Lib.decDigits a)) : Nat) : Int)])], by kernel_rfl, ?_⟩
    refine GL.run (j := 7) 5 [0, 1, 6, 7] [(0, .int .u64 (a : Int)), (1, .slice A bs.length c), (6, .int .u64 (((mpV (Lib.decDigits a)) : Nat) : Int)), (7, .int .i64 (((mpE (Lib.decDigits a)) : Nat) : Int))] (by kernel_rfl) rfl ?_
    refine GL.k rfl hK19 (fun _ _ h => h) ?_
    refine G.seqK fun K23 hK24 => ?_
    refine G.seqK fun K25 hK26 => ?_
    refine G.region ?_
    refine GL.run (j := 3) 3 [0, 1, 6, 7, 33] [(0, .int .u64 (a : Int)), (1, .slice A bs.length c), (6, .int .u64 (((mpV (Lib.decDigits a)) : Nat) : Int)), (7, .int .i64 (((mpE (Lib.decDigits a)) : Nat) : Int)), (33, .bool (decide (4611686018427387904 < (a : Int))))] (by kernel_rfl) rfl ?_
    cases hb27 : (decide (4611686018427387904 < (a : Int)))
    · skip
      have hb27f := of_decide_eq_false hb27
      refine GL.run (j := 10) 7 [0, 1, 6, 7, 37, 40] [(0, .int .u64 (a : Int)), (1, .slice A bs.length c), (6, .int .u64 (((mpV (Lib.decDigits a)) : Nat) : Int)), (7, .int .i64 (((mpE (Lib.decDigits a)) : Nat) : Int)), (37, .bool false), (40, .bool (decide ((a : Int) ≤ 4611686018427387904)))] (by kernel_rfl) rfl ?_
      cases hb28 : (decide ((a : Int) ≤ 4611686018427387904))
      · skip
        have hb28f := of_decide_eq_false hb28
        refine GL.run (j := 19) 9 [1, 49] [(1, .slice A bs.length c), (49, .bool false)] (by kernel_rfl) rfl ?_
        refine GL.k rfl hK26 (fun _ _ h => h) ?_
        refine G.no rfl ?_
        refine G.skipK hK24 (fun _ _ h => h) ?_
        refine G.seqK fun K29 hK30 => ?_
        refine G.region ?_
        refine GL.run (j := 1) 1 [1, 51] [(1, .slice A bs.length c), (51, .slice A bs.length c)] (by kernel_rfl) rfl ?_
        refine GL.call (j := 2) (Parse_calls bs (by omega) tp pv A c w20 (H21.oldCell hv) (hx.hp H21)) (by kernel_rfl) rfl (fun e_ w31 hR => ?_)
        obtain ⟨rfl, H33⟩ := hR
        have H32 : Hp w [] [.row A13 ((Lib.decDigits a).length) c14 5 1 (by8 (Lib.decDigits a))] w31 := H21.callNil H33
        refine ⟨_, rfl, [1, 52], [(1, .slice A bs.length c), (52, .tuple #[.int .u64 (((mpV bs) : Nat) : Int), .int .i64 (((mpE bs) : Nat) : Int)])], by kernel_rfl, ?_⟩
        refine GL.run (j := 7) 5 [1, 8, 9] [(1, .slice A bs.length c), (8, .int .u64 (((mpV bs) : Nat) : Int)), (9, .int .i64 (((mpE bs) : Nat) : Int))] (by kernel_rfl) rfl ?_
        refine GL.k rfl hK30 (fun _ _ h => h) ?_
        refine G.seqJ (X := Bool) (fun dg0 => [(1, .slice A bs.length c), (8, .int .u64 (((mpV bs) : Nat) : Int)), (9, .int .i64 (((mpE bs) : Nat) : Int)), (10, .bool dg0)]) (fun dg0 w_ => ((dg0 = true) ↔ dgF bs 0) ∧ Hp w [] [.row A13 ((Lib.decDigits a).length) c14 5 1 (by8 (Lib.decDigits a))] w_) (fun J34 K35 hK36 => ?_) ?_
        · skip
          refine G.region ?_
          refine GL.run (j := 4) 4 [1, 8, 9, 58] [(1, .slice A bs.length c), (8, .int .u64 (((mpV bs) : Nat) : Int)), (9, .int .i64 (((mpE bs) : Nat) : Int)), (58, .bool (decide (0 < (bs.length : Int))))] (by kernel_rfl) rfl ?_
          cases hb37 : (decide (0 < (bs.length : Int)))
          · skip
            have hb37f := of_decide_eq_false hb37
            refine GL.run (j := 15) 11 [1, 8, 9, 10] [(1, .slice A bs.length c), (8, .int .u64 (((mpV bs) : Nat) : Int)), (9, .int .i64 (((mpE bs) : Nat) : Int)), (10, .bool false)] (by kernel_rfl) rfl ?_
            refine GL.k rfl hK36 (fun _ _ h => h) ?_
            refine G.fit [1, 8, 9, 10] (M' := [(1, .slice A bs.length c), (8, .int .u64 (((mpV bs) : Nat) : Int)), (9, .int .i64 (((mpE bs) : Nat) : Int)), (10, .bool false)]) (by kernel_rfl) ?_
            exact J34 false _ ⟨dgF_none (by omega), H32⟩
          · skip
            have hb37f := of_decide_eq_true hb37
            refine GL.run (j := 8) 4 [1, 8, 9, 58, 62] [(1, .slice A bs.length c), (8, .int .u64 (((mpV bs) : Nat) : Int)), (9, .int .i64 (((mpE bs) : Nat) : Int)), (58, .bool true), (62, .bool ((bs.length : Int) == 1))] (by kernel_rfl) rfl ?_
            cases hb38 : ((bs.length : Int) == 1)
            · skip
              have hb38f := ne_of_beq_false hb38
              refine GL.run (j := 9) 1 [1, 8, 9, 58, 62, 63] [(1, .slice A bs.length c), (8, .int .u64 (((mpV bs) : Nat) : Int)), (9, .int .i64 (((mpE bs) : Nat) : Int)), (58, .bool true), (62, .bool false), (63, .slice A bs.length c)] (by kernel_rfl) rfl ?_
              refine GL.sem (j := 10) (run_idxRd (P := Tryd.prog) (k := .i64) (t := 24) (A := A) (len := bs.length) (cap := c) (j := 0) (by kernel_rfl) rfl (hx.hp H32) (by rw [by8_length]) (by first | rfl | omega | (simp only [List.length_cons, List.length_nil, List.length_drop, List.length_take, List.length_append] <;> omega))) [1, 8, 9, 58, 62, 64] [(1, .slice A bs.length c), (8, .int .u64 (((mpV bs) : Nat) : Int)), (9, .int .i64 (((mpE bs) : Nat) : Int)), (58, .bool true), (62, .bool false), (64, .pointer (Option.map (fun x => Addr.add x 0) A))] (by kernel_rfl) (by kernel_rfl) rfl ?_
              obtain ⟨b39, hat40⟩ : ∃ b : UInt8, bs[0]? = some b := ⟨_, List.getElem?_eq_getElem (by first | rfl | omega | (simp only [List.length_cons, List.length_nil, List.length_drop, List.length_take, List.length_append] <;> omega))⟩
              refine GL.sem (j := 11) (run_ldRd (P := Tryd.prog) (ty := 5) (A := A) (j := 0) (v := .int .u8 (b39.toNat : Int)) (by kernel_rfl) (hx.hp H32) (by8_at hat40)) [1, 8, 9, 58, 62, 65] [(1, .slice A bs.length c), (8, .int .u64 (((mpV bs) : Nat) : Int)), (9, .int .i64 (((mpE bs) : Nat) : Int)), (58, .bool true), (62, .bool false), (65, .int .u8 (b39.toNat : Int))] (by kernel_rfl) (by kernel_rfl) rfl ?_
              refine GL.run (j := 15) 4 [1, 8, 9, 10] [(1, .slice A bs.length c), (8, .int .u64 (((mpV bs) : Nat) : Int)), (9, .int .i64 (((mpE bs) : Nat) : Int)), (10, .bool ((b39.toNat : Int) != 48))] (by kernel_rfl) rfl ?_
              refine GL.k rfl hK36 (fun _ _ h => h) ?_
              refine G.fit [1, 8, 9, 10] (M' := [(1, .slice A bs.length c), (8, .int .u64 (((mpV bs) : Nat) : Int)), (9, .int .i64 (((mpE bs) : Nat) : Int)), (10, .bool ((b39.toNat : Int) != 48))]) (by kernel_rfl) ?_
              exact J34 ((b39.toNat : Int) != 48) _ ⟨dgF_more (by omega) (by omega) hat40, H32⟩
            · skip
              have hb38f := eq_of_beq hb38
              refine GL.run (j := 15) 7 [1, 8, 9, 10] [(1, .slice A bs.length c), (8, .int .u64 (((mpV bs) : Nat) : Int)), (9, .int .i64 (((mpE bs) : Nat) : Int)), (10, .bool true)] (by kernel_rfl) rfl ?_
              refine GL.k rfl hK36 (fun _ _ h => h) ?_
              refine G.fit [1, 8, 9, 10] (M' := [(1, .slice A bs.length c), (8, .int .u64 (((mpV bs) : Nat) : Int)), (9, .int .i64 (((mpE bs) : Nat) : Int)), (10, .bool true)]) (by kernel_rfl) ?_
              exact J34 true _ ⟨dgF_one (by omega), H32⟩
        · skip
          rintro dg0 w41 ⟨hi42, H43⟩
          refine G.eq (M' := [(1, .slice A bs.length c), (8, .int .u64 (((mpV bs) : Nat) : Int)), (9, .int .i64 (((mpE bs) : Nat) : Int)), (10, .bool dg0)]) rfl ?_
          have H43 : Hp w [] [.row A13 ((Lib.decDigits a).length) c14 5 1 (by8 (Lib.decDigits a))] w41 := H43
          have hdg0 := hi42
          refine G.seqK fun K44 hK45 => ?_
          refine G.seqK fun K46 hK47 => ?_
          refine G.region ?_
          refine GL.run (j := 3) 3 [1, 8, 9, 10, 69, 70, 71] [(1, .slice A bs.length c), (8, .int .u64 (((mpV bs) : Nat) : Int)), (9, .int .i64 (((mpE bs) : Nat) : Int)), (10, .bool dg0), (69, .slice A bs.length c), (70, .int .i64 (bs.length : Int)), (71, .int .i64 0)] (by kernel_rfl) rfl ?_
          refine GL.k rfl hK47 (fun _ _ h => h) ?_
          refine G.block ?_
          have H48 : Hp w [] [] w41 := H43.sub (List.Sublist.cons _ (List.Sublist.slnil))
          refine G.fit [1, 8, 9, 10, 69, 70, 71] (M' := [(1, .slice A bs.length c), (8, .int .u64 (((mpV bs) : Nat) : Int)), (9, .int .i64 (((mpE bs) : Nat) : Int)), (10, .bool dg0), (69, .slice A bs.length c), (70, .int .i64 (bs.length : Int)), (71, .int .i64 0)]) (by kernel_rfl) ?_
          refine G.loop (X := Nat × Bool) (fun ⟨i, dg⟩ => [(1, .slice A bs.length c), (8, .int .u64 (((mpV bs) : Nat) : Int)), (9, .int .i64 (((mpE bs) : Nat) : Int)), (10, .bool dg), (69, .slice A bs.length c), (70, .int .i64 (bs.length : Int)), (71, .int .i64 (i : Int))]) (fun ⟨i, dg⟩ w_ => (i ≤ bs.length ∧ (dg = true ↔ dgF bs i)) ∧ Hp w [] [] w_) (fun ⟨i, dg⟩ => bs.length - i) ⟨0, dg0⟩ [1, 8, 9, 10, 69, 70, 71] (by kernel_rfl) ⟨⟨Nat.zero_le _, hdg0⟩, H48⟩ ?_
          rintro ⟨i, dg⟩ w49 ⟨hi50, H51⟩
          refine G.eq (M' := [(1, .slice A bs.length c), (8, .int .u64 (((mpV bs) : Nat) : Int)), (9, .int .i64 (((mpE bs) : Nat) : Int)), (10, .bool dg), (69, .slice A bs.length c), (70, .int .i64 (bs.length : Int)), (71, .int .i64 (i : Int))]) rfl ?_
          have H51 : Hp w [] [] w49 := H51
          obtain ⟨hi9, hdg⟩ := hi50
          refine G.seqK fun K52 hK53 => ?_
          refine G.region ?_
          refine GL.run (j := 1) 1 [1, 8, 9, 10, 69, 70, 71, 72] [(1, .slice A bs.length c), (8, .int .u64 (((mpV bs) : Nat) : Int)), (9, .int .i64 (((mpE bs) : Nat) : Int)), (10, .bool dg), (69, .slice A bs.length c), (70, .int .i64 (bs.length : Int)), (71, .int .i64 (i : Int)), (72, .bool (decide ((i : Int) < (bs.length : Int))))] (by kernel_rfl) rfl ?_
          refine GL.k rfl hK53 (fun _ _ h => h) ?_
          refine G.seqK fun K54 hK55 => ?_
          cases hb56 : (decide ((i : Int) < (bs.length : Int)))
          · skip
            have hb56f := of_decide_eq_false hb56
            refine G.no rfl ?_
            refine G.exitK hK45 (fun _ _ h => h) ?_
            refine G.seqK fun K57 hK58 => ?_
            refine G.seqK fun K59 hK60 => ?_
            refine G.region ?_
            rcases (Bool.eq_false_or_eq_true dg).symm with hdv | hdv
            · skip
              have hno : ¬ dgOk bs := fun h_ => absurd (hdg.2 ((dgF_all (by omega)).2 h_)) (by rw [hdv]; decide)
              subst hdv
              refine GL.eq (M' := [(1, .slice A bs.length c), (8, .int .u64 (((mpV bs) : Nat) : Int)), (9, .int .i64 (((mpE bs) : Nat) : Int)), (10, .bool false), (69, .slice A bs.length c), (70, .int .i64 (bs.length : Int)), (71, .int .i64 (i : Int)), (72, .bool false)]) rfl ?_
              refine GL.run (j := 2) 2 [1, 8, 9, 86] [(1, .slice A bs.length c), (8, .int .u64 (((mpV bs) : Nat) : Int)), (9, .int .i64 (((mpE bs) : Nat) : Int)), (86, .bool true)] (by kernel_rfl) rfl ?_
              refine GL.k rfl hK60 (fun _ _ h => h) ?_
              refine G.yes rfl ?_
              refine G.seqK fun K61 hK62 => ?_
              refine G.region ?_
              refine GL.run (j := 3) 3 [8, 89] [(8, .int .u64 (((mpV bs) : Nat) : Int)), (89, .bool ((((mpE bs) : Nat) : Int) == 2))] (by kernel_rfl) rfl ?_
              have hb63 : ((((mpE bs) : Nat) : Int) == 2) = true := by rw [mpE, if_neg hno]; rfl
              rw [hb63]
              refine GL.run (j := 7) 4 [4] [(4, .bool ((((mpV bs) : Nat) : Int) == 0))] (by kernel_rfl) rfl ?_
              refine GL.k rfl hK62 (fun _ _ h => h) ?_
              refine G.ret ?_
              intro F_ hF_ hM_
              refine hRet _ _ (bodyPost_1 rfl (RV.tmp rfl) ?_ F_ hF_ hM_)
              have hb64 : ((((mpV bs) : Nat) : Int) == 0) = true := by first | (rw [mpV, if_neg hno]; rfl) | (rw [mpV, if_pos hok, if_neg (by omega)]; rfl)
              rw [hb64]
              exact ⟨rfl, H51.sub (List.nil_sublist _)⟩
            · skip
              have hok : dgOk bs := (dgF_all (by omega)).1 (hdg.1 hdv)
              subst hdv
              refine GL.eq (M' := [(1, .slice A bs.length c), (8, .int .u64 (((mpV bs) : Nat) : Int)), (9, .int .i64 (((mpE bs) : Nat) : Int)), (10, .bool true), (69, .slice A bs.length c), (70, .int .i64 (bs.length : Int)), (71, .int .i64 (i : Int)), (72, .bool false)]) rfl ?_
              refine GL.run (j := 2) 2 [1, 8, 9, 86] [(1, .slice A bs.length c), (8, .int .u64 (((mpV bs) : Nat) : Int)), (9, .int .i64 (((mpE bs) : Nat) : Int)), (86, .bool false)] (by kernel_rfl) rfl ?_
              refine GL.k rfl hK60 (fun _ _ h => h) ?_
              refine G.no rfl ?_
              refine G.skipK hK58 (fun _ _ h => h) ?_
              refine G.seqK fun K65 hK66 => ?_
              refine G.region ?_
              refine GL.run (j := 1) 1 [1, 8, 9, 13] [(1, .slice A bs.length c), (8, .int .u64 (((mpV bs) : Nat) : Int)), (9, .int .i64 (((mpE bs) : Nat) : Int)), (13, .slice none 0 0)] (by kernel_rfl) rfl ?_
              refine GL.k rfl hK66 (fun _ _ h => h) ?_
              refine G.seqK fun K67 hK68 => ?_
              refine G.seqK fun K69 hK70 => ?_
              refine G.region ?_
              refine GL.run (j := 3) 3 [1, 8, 9, 13, 93, 94, 95] [(1, .slice A bs.length c), (8, .int .u64 (((mpV bs) : Nat) : Int)), (9, .int .i64 (((mpE bs) : Nat) : Int)), (13, .slice none 0 0), (93, .slice A bs.length c), (94, .int .i64 (bs.length : Int)), (95, .int .i64 0)] (by kernel_rfl) rfl ?_
              refine GL.k rfl hK70 (fun _ _ h => h) ?_
              refine G.block ?_
              have H71 := H51.rowNil 22 1
              refine G.fit [1, 8, 9, 13, 93, 94, 95] (M' := [(1, .slice A bs.length c), (8, .int .u64 (((mpV bs) : Nat) : Int)), (9, .int .i64 (((mpE bs) : Nat) : Int)), (13, .slice none 0 0), (93, .slice A bs.length c), (94, .int .i64 (bs.length : Int)), (95, .int .i64 0)]) (by kernel_rfl) ?_
              refine G.eq (M' := [(1, .slice A bs.length c), (8, .int .u64 (((mpV bs) : Nat) : Int)), (9, .int .i64 (((mpE bs) : Nat) : Int)), (13, .slice none (ndg (dcF 0 (bs.take 0))) 0), (93, .slice A bs.length c), (94, .int .i64 (bs.length : Int)), (95, .int .i64 0)]) (by rfl) ?_
              refine G.loop (X := Nat × Option Addr × Nat) (fun ⟨j, nA, nc⟩ => [(1, .slice A bs.length c), (8, .int .u64 (((mpV bs) : Nat) : Int)), (9, .int .i64 (((mpE bs) : Nat) : Int)), (13, .slice nA (ndg (dcF 0 (bs.take j))) nc), (93, .slice A bs.length c), (94, .int .i64 (bs.length : Int)), (95, .int .i64 (j : Int))]) (fun ⟨j, nA, nc⟩ w_ => (j ≤ bs.length) ∧ Hp w [] [.row nA (ndg (dcF 0 (bs.take j))) nc 22 1 (dg (digs (dcF 0 (bs.take j))))] w_) (fun ⟨j, nA, nc⟩ => bs.length - j) ⟨0, none, 0⟩ [1, 8, 9, 13, 93, 94, 95] (by kernel_rfl) ⟨Nat.zero_le _, H71⟩ ?_
              rintro ⟨j, nA, nc⟩ w72 ⟨hi73, H74⟩
              refine G.eq (M' := [(1, .slice A bs.length c), (8, .int .u64 (((mpV bs) : Nat) : Int)), (9, .int .i64 (((mpE bs) : Nat) : Int)), (13, .slice nA (ndg (dcF 0 (bs.take j))) nc), (93, .slice A bs.length c), (94, .int .i64 (bs.length : Int)), (95, .int .i64 (j : Int))]) rfl ?_
              have H74 : Hp w [] [.row nA (ndg (dcF 0 (bs.take j))) nc 22 1 (dg (digs (dcF 0 (bs.take j))))] w72 := H74
              have hj9 : j ≤ bs.length := hi73
              have hN13 : ndg (dcF 0 (bs.take j)) ≤ 13 := ndg_le.2 (Nat.lt_of_lt_of_le (dcF_lt60 (l := bs.take j) (fun x hx => hok.2.2 x (List.mem_of_mem_take hx)) (by rw [List.length_take]; omega)) (by decide))
              refine G.seqK fun K75 hK76 => ?_
              refine G.region ?_
              refine GL.run (j := 1) 1 [1, 8, 9, 13, 93, 94, 95, 96] [(1, .slice A bs.length c), (8, .int .u64 (((mpV bs) : Nat) : Int)), (9, .int .i64 (((mpE bs) : Nat) : Int)), (13, .slice nA (ndg (dcF 0 (bs.take j))) nc), (93, .slice A bs.length c), (94, .int .i64 (bs.length : Int)), (95, .int .i64 (j : Int)), (96, .bool (decide ((j : Int) < (bs.length : Int))))] (by kernel_rfl) rfl ?_
              refine GL.k rfl hK76 (fun _ _ h => h) ?_
              refine G.seqK fun K77 hK78 => ?_
              cases hb79 : (decide ((j : Int) < (bs.length : Int)))
              · skip
                have hb79f := of_decide_eq_false hb79
                refine G.no rfl ?_
                refine G.exitK hK68 (fun _ _ h => h) ?_
                refine G.seqK fun K80 hK81 => ?_
                refine G.seqK fun K82 hK83 => ?_
                refine G.region ?_
                refine GL.run (j := 2) 2 [1, 8, 9, 109, 110] [(1, .slice A bs.length c), (8, .int .u64 (((mpV bs) : Nat) : Int)), (9, .int .i64 (((mpE bs) : Nat) : Int)), (109, .slice nA (ndg (dcF 0 (bs.take j))) nc), (110, .agg #[.int .u64 4611686018427387904, .int .u64 0, .int .u64 0, .int .u64 0])] (by kernel_rfl) rfl ?_
                have hN89 : ndg 4611686018427387904 ≤ 4 := ndg_K (by decide)
                refine GL.call (j := 3) (Of_calls_n 4611686018427387904 (by decide) w72) (by kernel_rfl) rfl (fun e_ w88 hR => ?_)
                obtain ⟨A84, c85, rfl, H87⟩ := hR
                have H86 : Hp w [] [.row nA (ndg (dcF 0 (bs.take j))) nc 22 1 (dg (digs (dcF 0 (bs.take j)))), .row A84 (ndg 4611686018427387904) c85 22 1 (dg (digs 4611686018427387904))] w88 := H74.callNew H87
                refine ⟨_, rfl, [1, 8, 9, 109, 111], [(1, .slice A bs.length c), (8, .int .u64 (((mpV bs) : Nat) : Int)), (9, .int .i64 (((mpE bs) : Nat) : Int)), (109, .slice nA (ndg (dcF 0 (bs.take j))) nc), (111, .slice A84 (ndg 4611686018427387904) c85)], by kernel_rfl, ?_⟩
                refine GL.call (j := 4) (CmpN_calls (dcF 0 (bs.take j)) 4611686018427387904 nA A84 nc c85 w88 (H86.rdRow 0 rfl) (H86.rdRow 1 rfl) (Nat.le_trans hN13 (by decide)) (Nat.le_trans hN89 (by decide))) (by kernel_rfl) rfl (fun e_ w90 hR => ?_)
                obtain ⟨rfl, H92⟩ := hR
                have H91 : Hp w [] [.row nA (ndg (dcF 0 (bs.take j))) nc 22 1 (dg (digs (dcF 0 (bs.take j)))), .row A84 (ndg 4611686018427387904) c85 22 1 (dg (digs 4611686018427387904))] w90 := H86.callNil H92
                refine ⟨_, rfl, [1, 8, 9, 112], [(1, .slice A bs.length c), (8, .int .u64 (((mpV bs) : Nat) : Int)), (9, .int .i64 (((mpE bs) : Nat) : Int)), (112, .int .i64 (cmpN (dcF 0 (bs.take j)) 4611686018427387904))], by kernel_rfl, ?_⟩
                refine GL.run (j := 5) 1 [1, 8, 9, 113] [(1, .slice A bs.length c), (8, .int .u64 (((mpV bs) : Nat) : Int)), (9, .int .i64 (((mpE bs) : Nat) : Int)), (113, .bool (decide (0 < (cmpN (dcF 0 (bs.take j)) 4611686018427387904))))] (by kernel_rfl) rfl ?_
                refine GL.k rfl hK83 (fun _ _ h => h) ?_
                cases hb93 : (decide (0 < (cmpN (dcF 0 (bs.take j)) 4611686018427387904)))
                · skip
                  have hb93f := of_decide_eq_false hb93
                  have hcm : ¬ (4611686018427387904 < dcF 0 (bs.take j)) := fun h_ => of_decide_eq_false hb93 (cmpN_pos.2 h_)
                  rw [List.take_of_length_le (show bs.length ≤ j by omega)] at hcm
                  refine G.no rfl ?_
                  refine G.skipK hK81 (fun _ _ h => h) ?_
                  refine G.seqK fun K94 hK95 => ?_
                  refine G.heldP (Hp w [] [.row nA (ndg (dcF 0 (bs.take j))) nc 22 1 (dg (digs (dcF 0 (bs.take j)))), .row A84 (ndg 4611686018427387904) c85 22 1 (dg (digs 4611686018427387904))]) (by kernel_rfl) (by kernel_rfl) (fun c_ a_ d_ v_ w_ h_ => hPan c_ a_ d_ v_ w_ h_) ?_
                  have H96 := H91.drew
                  generalize ({ w90 with drawn := w90.drawn + 1 } : World) = w97 at H96 ⊢
                  have hS98 : Hp w [] [.row nA (ndg (dcF 0 (bs.take j))) nc 22 1 (dg (digs (dcF 0 (bs.take j)))), .row A84 (ndg 4611686018427387904) c85 22 1 (dg (digs 4611686018427387904))] w97 := H96.sub (List.Sublist.cons_cons _ (List.Sublist.cons_cons _ (List.Sublist.slnil)))
                  refine GP.run [0, 1, 2] [1, 8, 122] [(1, .slice A bs.length c), (8, .int .u64 (((mpV bs) : Nat) : Int)), (122, .bool ((((mpE bs) : Nat) : Int) == 0))] [0, 1, 2] (by kernel_rfl) rfl hS98 ?_
                  have hb99 : ((((mpE bs) : Nat) : Int) == 0) = true := by rw [mpE, if_pos hok, if_pos (by omega)]; rfl
                  rw [hb99]
                  refine GP.run [3, 6] [122, 123, 126] [(122, .bool true), (123, .int .u64 (((mpV bs) : Nat) : Int)), (126, .slice A bs.length c)] [0, 1, 2, 3, 6] (by kernel_rfl) rfl hS98 ?_
                  refine GP.sem 7 (fun w_ H_ => run_toStr (P := Tryd.prog) (src := 24) (dst := 9) (A := A) (bs := bs) (n := bs.length) (c := c) (by kernel_rfl) (by kernel_rfl) (hx.hp H_) (rfl)) [122, 123, 127] [(122, .bool true), (123, .int .u64 (((mpV bs) : Nat) : Int)), (127, .string (strOf bs))] (by kernel_rfl) (by kernel_rfl) (by kernel_rfl) hS98 ?_
                  refine GP.call 4 (Text_calls (mpV bs) (mpV_lt _) w97 ((Lib.tabBelow_of_tabIs hT) _ H96.below)) (by kernel_rfl) (by kernel_rfl) (fun e_ w102 hR => ?_)
                  obtain ⟨A100, c101, rfl, H104⟩ := hR
                  have H103 : Hp w [] [.row nA (ndg (dcF 0 (bs.take j))) nc 22 1 (dg (digs (dcF 0 (bs.take j)))), .row A84 (ndg 4611686018427387904) c85 22 1 (dg (digs 4611686018427387904)), .row A100 ((Lib.decDigits (mpV bs)).length) c101 5 1 (by8 (Lib.decDigits (mpV bs)))] w102 := H96.callNew H104
                  have hS105 : Hp w [] [.row nA (ndg (dcF 0 (bs.take j))) nc 22 1 (dg (digs (dcF 0 (bs.take j)))), .row A84 (ndg 4611686018427387904) c85 22 1 (dg (digs 4611686018427387904))] w102 := H103.sub (List.Sublist.cons_cons _ (List.Sublist.cons_cons _ (List.Sublist.cons _ (List.Sublist.slnil))))
                  refine ⟨_, rfl, hS105, [122, 124, 127], [(122, .bool true), (124, .slice A100 ((Lib.decDigits (mpV bs)).length) c101), (127, .string (strOf bs))], by kernel_rfl, ?_⟩
                  refine GP.weak (Hp w [] [.row nA (ndg (dcF 0 (bs.take j))) nc 22 1 (dg (digs (dcF 0 (bs.take j)))), .row A84 (ndg 4611686018427387904) c85 22 1 (dg (digs 4611686018427387904)), .row A100 ((Lib.decDigits (mpV bs)).length) c101 5 1 (by8 (Lib.decDigits (mpV bs)))]) (fun w_ h_ => h_.sub (List.Sublist.cons_cons _ (List.Sublist.cons_cons _ (List.Sublist.cons _ (List.Sublist.slnil))))) ?_
                  have hS106 : Hp w [] [.row nA (ndg (dcF 0 (bs.take j))) nc 22 1 (dg (digs (dcF 0 (bs.take j)))), .row A84 (ndg 4611686018427387904) c85 22 1 (dg (digs 4611686018427387904)), .row A100 ((Lib.decDigits (mpV bs)).length) c101 5 1 (by8 (Lib.decDigits (mpV bs)))] w102 := H103.sub (List.Sublist.cons_cons _ (List.Sublist.cons_cons _ (List.Sublist.cons_cons _ (List.Sublist.slnil))))
                  refine GP.sem 5 (fun w_ H_ => run_toStr (P := Tryd.prog) (src := 24) (dst := 9) (A := A100) (bs := (Lib.decDigits (mpV bs))) (n := (Lib.decDigits (mpV bs)).length) (c := c101) (by kernel_rfl) (by kernel_rfl) (H_.rdRow 2 rfl) (rfl)) [122, 125, 127] [(122, .bool true), (125, .string (strOf (Lib.decDigits (mpV bs)))), (127, .string (strOf bs))] (by kernel_rfl) (by kernel_rfl) (by kernel_rfl) hS106 ?_
                  refine GP.sem 8 (fun w_ H_ => run_str_eql (P := Tryd.prog) (t := 9) (Lib.decDigits (mpV bs)) bs _) [122, 128] [(122, .bool true), (128, .bool ((Lib.decDigits (mpV bs)) == bs))] (by kernel_rfl) (by kernel_rfl) (by kernel_rfl) hS106 ?_
                  refine GP.run [9, 10] [4] [(4, .bool ((Lib.decDigits (mpV bs)) == bs))] [0, 1, 2, 3, 6, 7, 4, 5, 8, 9, 10] (by kernel_rfl) rfl hS106 ?_
                  refine GP.k (by kernel_rfl) hK95 (fun _ _ h => h) ?_
                  refine G.ret ?_
                  intro F_ hF_ hM_
                  refine hRet _ _ (bodyPost_1 rfl (RV.tmp rfl) ?_ F_ hF_ hM_)
                  have hb107 : ((Lib.decDigits (mpV bs)) == bs) = true := by rw [mpV, if_pos hok, if_pos (by omega), dd_back' hok]; exact beq_self_eq_true _
                  rw [hb107]
                  exact ⟨rfl, H103.sub (List.nil_sublist _)⟩
                · skip
                  have hb93f := of_decide_eq_true hb93
                  have hcm : 4611686018427387904 < dcF 0 (bs.take j) := cmpN_pos.1 (of_decide_eq_true hb93)
                  rw [List.take_of_length_le (show bs.length ≤ j by omega)] at hcm
                  refine G.yes rfl ?_
                  refine G.seqK fun K108 hK109 => ?_
                  refine G.region ?_
                  refine GL.run (j := 3) 3 [8, 116] [(8, .int .u64 (((mpV bs) : Nat) : Int)), (116, .bool ((((mpE bs) : Nat) : Int) == 4))] (by kernel_rfl) rfl ?_
                  have hb110 : ((((mpE bs) : Nat) : Int) == 4) = true := by rw [mpE, if_pos hok, if_neg (by omega)]; rfl
                  rw [hb110]
                  refine GL.run (j := 7) 4 [4] [(4, .bool ((((mpV bs) : Nat) : Int) == 0))] (by kernel_rfl) rfl ?_
                  refine GL.k rfl hK109 (fun _ _ h => h) ?_
                  refine G.ret ?_
                  intro F_ hF_ hM_
                  refine hRet _ _ (bodyPost_1 rfl (RV.tmp rfl) ?_ F_ hF_ hM_)
                  have hb111 : ((((mpV bs) : Nat) : Int) == 0) = true := by first | (rw [mpV, if_neg hno]; rfl) | (rw [mpV, if_pos hok, if_neg (by omega)]; rfl)
                  rw [hb111]
                  exact ⟨rfl, H91.sub (List.nil_sublist _)⟩
              · skip
                have hb79f := of_decide_eq_true hb79
                refine G.yes rfl ?_
                refine G.skipK hK78 (fun _ _ h => h) ?_
                refine G.seqK fun K112 hK113 => ?_
                refine G.block ?_
                refine G.seqK fun K114 hK115 => ?_
                refine G.region ?_
                refine GL.sem (j := 1) (run_idxRd (P := Tryd.prog) (k := .i64) (t := 24) (A := A) (len := bs.length) (cap := c) (j := j) (by kernel_rfl) rfl (hx.hp H74) (by rw [by8_length]) (by first | rfl | omega | (simp only [List.length_cons, List.length_nil, List.length_drop, List.length_take, List.length_append] <;> omega))) [1, 8, 9, 13, 93, 94, 95, 97] [(1, .slice A bs.length c), (8, .int .u64 (((mpV bs) : Nat) : Int)), (9, .int .i64 (((mpE bs) : Nat) : Int)), (13, .slice nA (ndg (dcF 0 (bs.take j))) nc), (93, .slice A bs.length c), (94, .int .i64 (bs.length : Int)), (95, .int .i64 (j : Int)), (97, .pointer (Option.map (fun x => Addr.add x j) A))] (by kernel_rfl) (by kernel_rfl) rfl ?_
                obtain ⟨b116, hat117⟩ : ∃ b : UInt8, bs[j]? = some b := ⟨_, List.getElem?_eq_getElem (by first | rfl | omega | (simp only [List.length_cons, List.length_nil, List.length_drop, List.length_take, List.length_append] <;> omega))⟩
                refine GL.sem (j := 2) (run_ldRd (P := Tryd.prog) (ty := 5) (A := A) (j := j) (v := .int .u8 (b116.toNat : Int)) (by kernel_rfl) (hx.hp H74) (by8_at hat117)) [1, 8, 9, 13, 93, 94, 95, 98] [(1, .slice A bs.length c), (8, .int .u64 (((mpV bs) : Nat) : Int)), (9, .int .i64 (((mpE bs) : Nat) : Int)), (13, .slice nA (ndg (dcF 0 (bs.take j))) nc), (93, .slice A bs.length c), (94, .int .i64 (bs.length : Int)), (95, .int .i64 (j : Int)), (98, .int .u8 (b116.toNat : Int))] (by kernel_rfl) (by kernel_rfl) rfl ?_
                refine GL.run (j := 3) 1 [1, 8, 9, 13, 15, 93, 94, 95] [(1, .slice A bs.length c), (8, .int .u64 (((mpV bs) : Nat) : Int)), (9, .int .i64 (((mpE bs) : Nat) : Int)), (13, .slice nA (ndg (dcF 0 (bs.take j))) nc), (15, .int .u8 (b116.toNat : Int)), (93, .slice A bs.length c), (94, .int .i64 (bs.length : Int)), (95, .int .i64 (j : Int))] (by kernel_rfl) rfl ?_
                refine GL.k rfl hK115 (fun _ _ h => h) ?_
                refine G.region ?_
                have := 0
                · skip
                  have hdgb : 48 ≤ b116.toNat ∧ b116.toNat ≤ 57 := hok.2.2 b116 (List.mem_of_getElem? hat117)
                  refine GL.run (j := 1) 1 [1, 8, 9, 15, 93, 94, 95, 99] [(1, .slice A bs.length c), (8, .int .u64 (((mpV bs) : Nat) : Int)), (9, .int .i64 (((mpE bs) : Nat) : Int)), (15, .int .u8 (b116.toNat : Int)), (93, .slice A bs.length c), (94, .int .i64 (bs.length : Int)), (95, .int .i64 (j : Int)), (99, .slice nA (ndg (dcF 0 (bs.take j))) nc)] (by kernel_rfl) rfl ?_
                  obtain ⟨p118, w119, r120, H121⟩ := H74.madeRow (P := Tryd.prog) (Instr.buildSlice 31 1 #[(0, .int .u64 10)]) (fun b_ => .slice (some ⟨b_, 0, none⟩) 1 1) [.int .u64 10] 22 1 1 1 (by kernel_rfl) (by decide) (by decide) rfl
                  have H121 : Hp w [] [.row nA (ndg (dcF 0 (bs.take j))) nc 22 1 (dg (digs (dcF 0 (bs.take j)))), .row (some ⟨p118, 0, none⟩) 1 1 22 1 (dg [10])] w119 := H121
                  refine GL.sem (j := 2) (r120) [1, 8, 9, 15, 93, 94, 95, 99, 100] [(1, .slice A bs.length c), (8, .int .u64 (((mpV bs) : Nat) : Int)), (9, .int .i64 (((mpE bs) : Nat) : Int)), (15, .int .u8 (b116.toNat : Int)), (93, .slice A bs.length c), (94, .int .i64 (bs.length : Int)), (95, .int .i64 (j : Int)), (99, .slice nA (ndg (dcF 0 (bs.take j))) nc), (100, .slice (some ⟨p118, 0, none⟩) 1 1)] (by kernel_rfl) (by kernel_rfl) rfl ?_
                  have hN129 : ndg ((dcF 0 (bs.take j)) * 10) ≤ 14 := ndg_mul hN13 (show ndg 10 ≤ 1 from ndg_le.2 (by decide))
                  refine GL.call (j := 3) (MulN_calls (dcF 0 (bs.take j)) 10 nA nc (some ⟨p118, 0, none⟩) 1 w119 (H121.rdRow 0 rfl) (H121.rdRow 1 rfl) (Nat.le_trans hN13 (by decide)) (Nat.le_trans (show ndg 10 ≤ 1 from ndg_le.2 (by decide)) (by decide))) (by kernel_rfl) rfl (fun e_ w126 hR => ?_)
                  obtain ⟨A122, c123, rfl, H125⟩ := hR
                  have H124 : Hp w [] [.row nA (ndg (dcF 0 (bs.take j))) nc 22 1 (dg (digs (dcF 0 (bs.take j)))), .row (some ⟨p118, 0, none⟩) 1 1 22 1 (dg [10]), .row A122 (ndg ((dcF 0 (bs.take j)) * 10)) c123 22 1 (dg (digs ((dcF 0 (bs.take j)) * 10)))] w126 := H121.callNew H125
                  refine ⟨_, rfl, [1, 8, 9, 15, 93, 94, 95, 101], [(1, .slice A bs.length c), (8, .int .u64 (((mpV bs) : Nat) : Int)), (9, .int .i64 (((mpE bs) : Nat) : Int)), (15, .int .u8 (b116.toNat : Int)), (93, .slice A bs.length c), (94, .int .i64 (bs.length : Int)), (95, .int .i64 (j : Int)), (101, .slice A122 (ndg ((dcF 0 (bs.take j)) * 10)) c123)], by kernel_rfl, ?_⟩
                  refine GL.run (j := 7) 4 [1, 8, 9, 93, 94, 95, 101, 105] [(1, .slice A bs.length c), (8, .int .u64 (((mpV bs) : Nat) : Int)), (9, .int .i64 (((mpE bs) : Nat) : Int)), (93, .slice A bs.length c), (94, .int .i64 (bs.length : Int)), (95, .int .i64 (j : Int)), (101, .slice A122 (ndg ((dcF 0 (bs.take j)) * 10)) c123), (105, .agg #[.int .u64 (IntKind.u64.wrap (IntKind.u8.wrap ((b116.toNat : Int) - 48))), .int .u64 0, .int .u64 0, .int .u64 0])] (by kernel_rfl) rfl ?_
                  have e130 : (IntKind.u8.wrap ((b116.toNat : Int) - 48)) = ((b116.toNat - 48 : Nat) : Int) := by rw [in_u8 (by omega)]; omega
                  have e131 : (IntKind.u64.wrap ((b116.toNat - 48 : Nat) : Int)) = ((b116.toNat - 48 : Nat) : Int) := in_u64 (by omega)
                  refine GL.eq (M' := [(1, .slice A bs.length c), (8, .int .u64 (((mpV bs) : Nat) : Int)), (9, .int .i64 (((mpE bs) : Nat) : Int)), (93, .slice A bs.length c), (94, .int .i64 (bs.length : Int)), (95, .int .i64 (j : Int)), (101, .slice A122 (ndg ((dcF 0 (bs.take j)) * 10)) c123), (105, .agg #[.int .u64 ((b116.toNat - 48 : Nat) : Int), .int .u64 0, .int .u64 0, .int .u64 0])]) (by rw [e130, e131]) ?_
                  clear e130 e131
                  have hN137 : ndg (b116.toNat - 48) ≤ 4 := ndg_K (Nat.lt_trans (show b116.toNat - 48 < 256 by omega) (by decide))
                  refine GL.call (j := 8) (Of1_calls_n (b116.toNat - 48) (Nat.lt_trans (show b116.toNat - 48 < 256 by omega) (by decide)) w126) (by kernel_rfl) rfl (fun e_ w136 hR => ?_)
                  obtain ⟨A132, c133, rfl, H135⟩ := hR
                  have H134 : Hp w [] [.row nA (ndg (dcF 0 (bs.take j))) nc 22 1 (dg (digs (dcF 0 (bs.take j)))), .row (some ⟨p118, 0, none⟩) 1 1 22 1 (dg [10]), .row A122 (ndg ((dcF 0 (bs.take j)) * 10)) c123 22 1 (dg (digs ((dcF 0 (bs.take j)) * 10))), .row A132 (ndg (b116.toNat - 48)) c133 22 1 (dg (digs (b116.toNat - 48)))] w136 := H124.callNew H135
                  refine ⟨_, rfl, [1, 8, 9, 93, 94, 95, 101, 106], [(1, .slice A bs.length c), (8, .int .u64 (((mpV bs) : Nat) : Int)), (9, .int .i64 (((mpE bs) : Nat) : Int)), (93, .slice A bs.length c), (94, .int .i64 (bs.length : Int)), (95, .int .i64 (j : Int)), (101, .slice A122 (ndg ((dcF 0 (bs.take j)) * 10)) c123), (106, .slice A132 (ndg (b116.toNat - 48)) c133)], by kernel_rfl, ?_⟩
                  have hN143 : ndg (((dcF 0 (bs.take j)) * 10) + (b116.toNat - 48)) ≤ 15 := ndg_add (i := 14) (Nat.le_trans hN129 (by decide)) (Nat.le_trans hN137 (by decide))
                  refine GL.call (j := 9) (AddN_calls ((dcF 0 (bs.take j)) * 10) (b116.toNat - 48) A122 c123 A132 c133 w136 (H134.rdRow 2 rfl) (H134.rdRow 3 rfl) (Nat.le_trans hN129 (by decide)) (Nat.le_trans hN137 (by decide))) (by kernel_rfl) rfl (fun e_ w142 hR => ?_)
                  obtain ⟨A138, c139, rfl, H141⟩ := hR
                  have H140 : Hp w [] [.row nA (ndg (dcF 0 (bs.take j))) nc 22 1 (dg (digs (dcF 0 (bs.take j)))), .row (some ⟨p118, 0, none⟩) 1 1 22 1 (dg [10]), .row A122 (ndg ((dcF 0 (bs.take j)) * 10)) c123 22 1 (dg (digs ((dcF 0 (bs.take j)) * 10))), .row A132 (ndg (b116.toNat - 48)) c133 22 1 (dg (digs (b116.toNat - 48))), .row A138 (ndg (((dcF 0 (bs.take j)) * 10) + (b116.toNat - 48))) c139 22 1 (dg (digs (((dcF 0 (bs.take j)) * 10) + (b116.toNat - 48))))] w142 := H134.callNew H141
                  refine ⟨_, rfl, [1, 8, 9, 93, 94, 95, 107], [(1, .slice A bs.length c), (8, .int .u64 (((mpV bs) : Nat) : Int)), (9, .int .i64 (((mpE bs) : Nat) : Int)), (93, .slice A bs.length c), (94, .int .i64 (bs.length : Int)), (95, .int .i64 (j : Int)), (107, .slice A138 (ndg (((dcF 0 (bs.take j)) * 10) + (b116.toNat - 48))) c139)], by kernel_rfl, ?_⟩
                  refine GL.run (j := 10) 1 [1, 8, 9, 13, 93, 94, 95] [(1, .slice A bs.length c), (8, .int .u64 (((mpV bs) : Nat) : Int)), (9, .int .i64 (((mpE bs) : Nat) : Int)), (13, .slice A138 (ndg (((dcF 0 (bs.take j)) * 10) + (b116.toNat - 48))) c139), (93, .slice A bs.length c), (94, .int .i64 (bs.length : Int)), (95, .int .i64 (j : Int))] (by kernel_rfl) rfl ?_
                  refine GL.k rfl hK113 (fun _ _ h => h) ?_
                  refine G.region ?_
                  refine GL.run (j := 2) 2 [1, 8, 9, 13, 93, 94, 95] [(1, .slice A bs.length c), (8, .int .u64 (((mpV bs) : Nat) : Int)), (9, .int .i64 (((mpE bs) : Nat) : Int)), (13, .slice A138 (ndg (((dcF 0 (bs.take j)) * 10) + (b116.toNat - 48))) c139), (93, .slice A bs.length c), (94, .int .i64 (bs.length : Int)), (95, .int .i64 (IntKind.i64.wrap ((j : Int) + 1)))] (by kernel_rfl) rfl ?_
                  have e144 : (IntKind.i64.wrap ((j : Int) + 1)) = ((j + 1 : Nat) : Int) := by rw [in_i64 (by omega)]; omega
                  refine GL.eq (M' := [(1, .slice A bs.length c), (8, .int .u64 (((mpV bs) : Nat) : Int)), (9, .int .i64 (((mpE bs) : Nat) : Int)), (13, .slice A138 (ndg (((dcF 0 (bs.take j)) * 10) + (b116.toNat - 48))) c139), (93, .slice A bs.length c), (94, .int .i64 (bs.length : Int)), (95, .int .i64 ((j + 1 : Nat) : Int))]) (by rw [e144]) ?_
                  clear e144
                  have H145 : Hp w [] [.row A138 (ndg (((dcF 0 (bs.take j)) * 10) + (b116.toNat - 48))) c139 22 1 (dg (digs (((dcF 0 (bs.take j)) * 10) + (b116.toNat - 48))))] w142 := H140.sub (List.Sublist.cons _ (List.Sublist.cons _ (List.Sublist.cons _ (List.Sublist.cons _ (List.Sublist.cons_cons _ (List.Sublist.slnil))))))
                  have H146 := H145
                  rw [← dcF_take hat117] at H146
                  refine GL.fit (ts := [1, 8, 9, 13, 93, 94, 95]) (M' := [(1, .slice A bs.length c), (8, .int .u64 (((mpV bs) : Nat) : Int)), (9, .int .i64 (((mpE bs) : Nat) : Int)), (13, .slice A138 (ndg (((dcF 0 (bs.take j)) * 10) + (b116.toNat - 48))) c139), (93, .slice A bs.length c), (94, .int .i64 (bs.length : Int)), (95, .int .i64 ((j + 1 : Nat) : Int))]) (by kernel_rfl) ?_
                  refine GL.eq (M' := [(1, .slice A bs.length c), (8, .int .u64 (((mpV bs) : Nat) : Int)), (9, .int .i64 (((mpE bs) : Nat) : Int)), (13, .slice A138 (ndg (dcF 0 (bs.take (j + 1)))) c139), (93, .slice A bs.length c), (94, .int .i64 (bs.length : Int)), (95, .int .i64 (((j + 1) : Nat) : Int))]) (by rw [dcF_take hat117]) ?_
                  exact GL.again ⟨(j + 1), A138, c139⟩ [1, 8, 9, 13, 93, 94, 95] rfl (by kernel_rfl) (by show bs.length - (j + 1) < bs.length - j; omega) ⟨by omega, H146⟩
          · skip
            have hb56f := of_decide_eq_true hb56
            refine G.yes rfl ?_
            refine G.skipK hK55 (fun _ _ h => h) ?_
            refine G.seqK fun K147 hK148 => ?_
            refine G.block ?_
            refine G.seqK fun K149 hK150 => ?_
            refine G.region ?_
            refine GL.sem (j := 1) (run_idxRd (P := Tryd.prog) (k := .i64) (t := 24) (A := A) (len := bs.length) (cap := c) (j := i) (by kernel_rfl) rfl (hx.hp H51) (by rw [by8_length]) (by first | rfl | omega | (simp only [List.length_cons, List.length_nil, List.length_drop, List.length_take, List.length_append] <;> omega))) [1, 8, 9, 10, 69, 70, 71, 73] [(1, .slice A bs.length c), (8, .int .u64 (((mpV bs) : Nat) : Int)), (9, .int .i64 (((mpE bs) : Nat) : Int)), (10, .bool dg), (69, .slice A bs.length c), (70, .int .i64 (bs.length : Int)), (71, .int .i64 (i : Int)), (73, .pointer (Option.map (fun x => Addr.add x i) A))] (by kernel_rfl) (by kernel_rfl) rfl ?_
            obtain ⟨b151, hat152⟩ : ∃ b : UInt8, bs[i]? = some b := ⟨_, List.getElem?_eq_getElem (by first | rfl | omega | (simp only [List.length_cons, List.length_nil, List.length_drop, List.length_take, List.length_append] <;> omega))⟩
            refine GL.sem (j := 2) (run_ldRd (P := Tryd.prog) (ty := 5) (A := A) (j := i) (v := .int .u8 (b151.toNat : Int)) (by kernel_rfl) (hx.hp H51) (by8_at hat152)) [1, 8, 9, 10, 69, 70, 71, 74] [(1, .slice A bs.length c), (8, .int .u64 (((mpV bs) : Nat) : Int)), (9, .int .i64 (((mpE bs) : Nat) : Int)), (10, .bool dg), (69, .slice A bs.length c), (70, .int .i64 (bs.length : Int)), (71, .int .i64 (i : Int)), (74, .int .u8 (b151.toNat : Int))] (by kernel_rfl) (by kernel_rfl) rfl ?_
            refine GL.run (j := 3) 1 [1, 8, 9, 10, 12, 69, 70, 71] [(1, .slice A bs.length c), (8, .int .u64 (((mpV bs) : Nat) : Int)), (9, .int .i64 (((mpE bs) : Nat) : Int)), (10, .bool dg), (12, .int .u8 (b151.toNat : Int)), (69, .slice A bs.length c), (70, .int .i64 (bs.length : Int)), (71, .int .i64 (i : Int))] (by kernel_rfl) rfl ?_
            refine GL.k rfl hK150 (fun _ _ h => h) ?_
            refine G.region ?_
            refine GL.run (j := 2) 2 [1, 8, 9, 12, 69, 70, 71, 76] [(1, .slice A bs.length c), (8, .int .u64 (((mpV bs) : Nat) : Int)), (9, .int .i64 (((mpE bs) : Nat) : Int)), (12, .int .u8 (b151.toNat : Int)), (69, .slice A bs.length c), (70, .int .i64 (bs.length : Int)), (71, .int .i64 (i : Int)), (76, .bool dg)] (by kernel_rfl) rfl ?_
            rcases (Bool.eq_false_or_eq_true dg).symm with hb153 | hb153
            · skip
              refine GL.eq (M' := [(1, .slice A bs.length c), (8, .int .u64 (((mpV bs) : Nat) : Int)), (9, .int .i64 (((mpE bs) : Nat) : Int)), (12, .int .u8 (b151.toNat : Int)), (69, .slice A bs.length c), (70, .int .i64 (bs.length : Int)), (71, .int .i64 (i : Int)), (76, .bool false)]) (by first | (rw [hb153]; done) | (rw [hb153]; rfl)) ?_
              refine GL.run (j := 10) 8 [1, 8, 9, 10, 69, 70, 71] [(1, .slice A bs.length c), (8, .int .u64 (((mpV bs) : Nat) : Int)), (9, .int .i64 (((mpE bs) : Nat) : Int)), (10, .bool false), (69, .slice A bs.length c), (70, .int .i64 (bs.length : Int)), (71, .int .i64 (i : Int))] (by kernel_rfl) rfl ?_
              refine GL.k rfl hK148 (fun _ _ h => h) ?_
              refine G.region ?_
              refine GL.run (j := 2) 2 [1, 8, 9, 10, 69, 70, 71] [(1, .slice A bs.length c), (8, .int .u64 (((mpV bs) : Nat) : Int)), (9, .int .i64 (((mpE bs) : Nat) : Int)), (10, .bool false), (69, .slice A bs.length c), (70, .int .i64 (bs.length : Int)), (71, .int .i64 (IntKind.i64.wrap ((i : Int) + 1)))] (by kernel_rfl) rfl ?_
              have e154 : (IntKind.i64.wrap ((i : Int) + 1)) = ((i + 1 : Nat) : Int) := by rw [in_i64 (by omega)]; omega
              refine GL.eq (M' := [(1, .slice A bs.length c), (8, .int .u64 (((mpV bs) : Nat) : Int)), (9, .int .i64 (((mpE bs) : Nat) : Int)), (10, .bool false), (69, .slice A bs.length c), (70, .int .i64 (bs.length : Int)), (71, .int .i64 ((i + 1 : Nat) : Int))]) (by rw [e154]) ?_
              clear e154
              refine GL.fit (ts := [1, 8, 9, 10, 69, 70, 71]) (M' := [(1, .slice A bs.length c), (8, .int .u64 (((mpV bs) : Nat) : Int)), (9, .int .i64 (((mpE bs) : Nat) : Int)), (10, .bool false), (69, .slice A bs.length c), (70, .int .i64 (bs.length : Int)), (71, .int .i64 ((i + 1 : Nat) : Int))]) (by kernel_rfl) ?_
              refine GL.eq (M' := [(1, .slice A bs.length c), (8, .int .u64 (((mpV bs) : Nat) : Int)), (9, .int .i64 (((mpE bs) : Nat) : Int)), (10, .bool false), (69, .slice A bs.length c), (70, .int .i64 (bs.length : Int)), (71, .int .i64 (((i + 1) : Nat) : Int))]) (by rfl) ?_
              exact GL.again ⟨(i + 1), false⟩ [1, 8, 9, 10, 69, 70, 71] rfl (by kernel_rfl) (by show bs.length - (i + 1) < bs.length - i; omega) ⟨⟨by omega, ⟨fun h_ => (by cases h_), fun h_ => absurd (hdg.2 ((dgF_step hat152).1 h_).1) (by rw [hb153]; decide)⟩⟩, H51⟩
            · skip
              refine GL.eq (M' := [(1, .slice A bs.length c), (8, .int .u64 (((mpV bs) : Nat) : Int)), (9, .int .i64 (((mpE bs) : Nat) : Int)), (12, .int .u8 (b151.toNat : Int)), (69, .slice A bs.length c), (70, .int .i64 (bs.length : Int)), (71, .int .i64 (i : Int)), (76, .bool true)]) (by first | (rw [hb153]; done) | (rw [hb153]; rfl)) ?_
              refine GL.run (j := 6) 4 [1, 8, 9, 12, 69, 70, 71, 80] [(1, .slice A bs.length c), (8, .int .u64 (((mpV bs) : Nat) : Int)), (9, .int .i64 (((mpE bs) : Nat) : Int)), (12, .int .u8 (b151.toNat : Int)), (69, .slice A bs.length c), (70, .int .i64 (bs.length : Int)), (71, .int .i64 (i : Int)), (80, .bool (decide (48 ≤ (b151.toNat : Int))))] (by kernel_rfl) rfl ?_
              cases hb155 : (decide (48 ≤ (b151.toNat : Int)))
              · skip
                have hb155f := of_decide_eq_false hb155
                refine GL.run (j := 10) 4 [1, 8, 9, 10, 69, 70, 71] [(1, .slice A bs.length c), (8, .int .u64 (((mpV bs) : Nat) : Int)), (9, .int .i64 (((mpE bs) : Nat) : Int)), (10, .bool false), (69, .slice A bs.length c), (70, .int .i64 (bs.length : Int)), (71, .int .i64 (i : Int))] (by kernel_rfl) rfl ?_
                refine GL.k rfl hK148 (fun _ _ h => h) ?_
                refine G.region ?_
                refine GL.run (j := 2) 2 [1, 8, 9, 10, 69, 70, 71] [(1, .slice A bs.length c), (8, .int .u64 (((mpV bs) : Nat) : Int)), (9, .int .i64 (((mpE bs) : Nat) : Int)), (10, .bool false), (69, .slice A bs.length c), (70, .int .i64 (bs.length : Int)), (71, .int .i64 (IntKind.i64.wrap ((i : Int) + 1)))] (by kernel_rfl) rfl ?_
                have e156 : (IntKind.i64.wrap ((i : Int) + 1)) = ((i + 1 : Nat) : Int) := by rw [in_i64 (by omega)]; omega
                refine GL.eq (M' := [(1, .slice A bs.length c), (8, .int .u64 (((mpV bs) : Nat) : Int)), (9, .int .i64 (((mpE bs) : Nat) : Int)), (10, .bool false), (69, .slice A bs.length c), (70, .int .i64 (bs.length : Int)), (71, .int .i64 ((i + 1 : Nat) : Int))]) (by rw [e156]) ?_
                clear e156
                refine GL.fit (ts := [1, 8, 9, 10, 69, 70, 71]) (M' := [(1, .slice A bs.length c), (8, .int .u64 (((mpV bs) : Nat) : Int)), (9, .int .i64 (((mpE bs) : Nat) : Int)), (10, .bool false), (69, .slice A bs.length c), (70, .int .i64 (bs.length : Int)), (71, .int .i64 ((i + 1 : Nat) : Int))]) (by kernel_rfl) ?_
                refine GL.eq (M' := [(1, .slice A bs.length c), (8, .int .u64 (((mpV bs) : Nat) : Int)), (9, .int .i64 (((mpE bs) : Nat) : Int)), (10, .bool false), (69, .slice A bs.length c), (70, .int .i64 (bs.length : Int)), (71, .int .i64 (((i + 1) : Nat) : Int))]) (by rfl) ?_
                exact GL.again ⟨(i + 1), false⟩ [1, 8, 9, 10, 69, 70, 71] rfl (by kernel_rfl) (by show bs.length - (i + 1) < bs.length - i; omega) ⟨⟨by omega, ⟨fun h_ => (by cases h_), fun h_ => absurd (show 48 ≤ b151.toNat ∧ b151.toNat ≤ 57 from ((dgF_step hat152).1 h_).2) (by omega)⟩⟩, H51⟩
              · skip
                have hb155f := of_decide_eq_true hb155
                refine GL.run (j := 10) 4 [1, 8, 9, 10, 69, 70, 71] [(1, .slice A bs.length c), (8, .int .u64 (((mpV bs) : Nat) : Int)), (9, .int .i64 (((mpE bs) : Nat) : Int)), (10, .bool (decide ((b151.toNat : Int) ≤ 57))), (69, .slice A bs.length c), (70, .int .i64 (bs.length : Int)), (71, .int .i64 (i : Int))] (by kernel_rfl) rfl ?_
                refine GL.k rfl hK148 (fun _ _ h => h) ?_
                refine G.region ?_
                refine GL.run (j := 2) 2 [1, 8, 9, 10, 69, 70, 71] [(1, .slice A bs.length c), (8, .int .u64 (((mpV bs) : Nat) : Int)), (9, .int .i64 (((mpE bs) : Nat) : Int)), (10, .bool (decide ((b151.toNat : Int) ≤ 57))), (69, .slice A bs.length c), (70, .int .i64 (bs.length : Int)), (71, .int .i64 (IntKind.i64.wrap ((i : Int) + 1)))] (by kernel_rfl) rfl ?_
                have e157 : (IntKind.i64.wrap ((i : Int) + 1)) = ((i + 1 : Nat) : Int) := by rw [in_i64 (by omega)]; omega
                refine GL.eq (M' := [(1, .slice A bs.length c), (8, .int .u64 (((mpV bs) : Nat) : Int)), (9, .int .i64 (((mpE bs) : Nat) : Int)), (10, .bool (decide ((b151.toNat : Int) ≤ 57))), (69, .slice A bs.length c), (70, .int .i64 (bs.length : Int)), (71, .int .i64 ((i + 1 : Nat) : Int))]) (by rw [e157]) ?_
                clear e157
                refine GL.fit (ts := [1, 8, 9, 10, 69, 70, 71]) (M' := [(1, .slice A bs.length c), (8, .int .u64 (((mpV bs) : Nat) : Int)), (9, .int .i64 (((mpE bs) : Nat) : Int)), (10, .bool (decide ((b151.toNat : Int) ≤ 57))), (69, .slice A bs.length c), (70, .int .i64 (bs.length : Int)), (71, .int .i64 ((i + 1 : Nat) : Int))]) (by kernel_rfl) ?_
                refine GL.eq (M' := [(1, .slice A bs.length c), (8, .int .u64 (((mpV bs) : Nat) : Int)), (9, .int .i64 (((mpE bs) : Nat) : Int)), (10, .bool (decide ((b151.toNat : Int) ≤ 57))), (69, .slice A bs.length c), (70, .int .i64 (bs.length : Int)), (71, .int .i64 (((i + 1) : Nat) : Int))]) (by rfl) ?_
                exact GL.again ⟨(i + 1), (decide ((b151.toNat : Int) ≤ 57))⟩ [1, 8, 9, 10, 69, 70, 71] rfl (by kernel_rfl) (by show bs.length - (i + 1) < bs.length - i; omega) ⟨⟨by omega, ⟨fun h_ => (dgF_step hat152).2 ⟨hdg.1 hb153, (show 48 ≤ b151.toNat ∧ b151.toNat ≤ 57 from ⟨by omega, by have q_ := of_decide_eq_true h_; omega⟩)⟩, fun h_ => decide_eq_true (by have q_ : 48 ≤ b151.toNat ∧ b151.toNat ≤ 57 := ((dgF_step hat152).1 h_).2; omega)⟩⟩, H51⟩
      · skip
        have hb28f := of_decide_eq_true hb28
        refine GL.run (j := 13) 3 [0, 1, 6, 37, 40, 43] [(0, .int .u64 (a : Int)), (1, .slice A bs.length c), (6, .int .u64 (((mpV (Lib.decDigits a)) : Nat) : Int)), (37, .bool false), (40, .bool true), (43, .bool ((((mpE (Lib.decDigits a)) : Nat) : Int) != 0))] (by kernel_rfl) rfl ?_
        have hb158 : ((((mpE (Lib.decDigits a)) : Nat) : Int) != 0) = false := by rw [mpE_dd, if_pos (by omega)]; rfl
        rw [hb158]
        refine GL.run (j := 19) 6 [1, 49] [(1, .slice A bs.length c), (49, .bool ((((mpV (Lib.decDigits a)) : Nat) : Int) != (a : Int)))] (by kernel_rfl) rfl ?_
        refine GL.k rfl hK26 (fun _ _ h => h) ?_
        have hb159 : ((((mpV (Lib.decDigits a)) : Nat) : Int) != (a : Int)) = false := by rw [mpV_dd, if_pos (by omega)]; exact bne_self_eq_false _
        rw [hb159]
        refine G.no rfl ?_
        refine G.skipK hK24 (fun _ _ h => h) ?_
        refine G.seqK fun K160 hK161 => ?_
        refine G.region ?_
        refine GL.run (j := 1) 1 [1, 51] [(1, .slice A bs.length c), (51, .slice A bs.length c)] (by kernel_rfl) rfl ?_
        refine GL.call (j := 2) (Parse_calls bs (by omega) tp pv A c w20 (H21.oldCell hv) (hx.hp H21)) (by kernel_rfl) rfl (fun e_ w162 hR => ?_)
        obtain ⟨rfl, H164⟩ := hR
        have H163 : Hp w [] [.row A13 ((Lib.decDigits a).length) c14 5 1 (by8 (Lib.decDigits a))] w162 := H21.callNil H164
        refine ⟨_, rfl, [1, 52], [(1, .slice A bs.length c), (52, .tuple #[.int .u64 (((mpV bs) : Nat) : Int), .int .i64 (((mpE bs) : Nat) : Int)])], by kernel_rfl, ?_⟩
        refine GL.run (j := 7) 5 [1, 8, 9] [(1, .slice A bs.length c), (8, .int .u64 (((mpV bs) : Nat) : Int)), (9, .int .i64 (((mpE bs) : Nat) : Int))] (by kernel_rfl) rfl ?_
        refine GL.k rfl hK161 (fun _ _ h => h) ?_
        refine G.seqJ (X := Bool) (fun dg0 => [(1, .slice A bs.length c), (8, .int .u64 (((mpV bs) : Nat) : Int)), (9, .int .i64 (((mpE bs) : Nat) : Int)), (10, .bool dg0)]) (fun dg0 w_ => ((dg0 = true) ↔ dgF bs 0) ∧ Hp w [] [.row A13 ((Lib.decDigits a).length) c14 5 1 (by8 (Lib.decDigits a))] w_) (fun J165 K166 hK167 => ?_) ?_
        · skip
          refine G.region ?_
          refine GL.run (j := 4) 4 [1, 8, 9, 58] [(1, .slice A bs.length c), (8, .int .u64 (((mpV bs) : Nat) : Int)), (9, .int .i64 (((mpE bs) : Nat) : Int)), (58, .bool (decide (0 < (bs.length : Int))))] (by kernel_rfl) rfl ?_
          cases hb168 : (decide (0 < (bs.length : Int)))
          · skip
            have hb168f := of_decide_eq_false hb168
            refine GL.run (j := 15) 11 [1, 8, 9, 10] [(1, .slice A bs.length c), (8, .int .u64 (((mpV bs) : Nat) : Int)), (9, .int .i64 (((mpE bs) : Nat) : Int)), (10, .bool false)] (by kernel_rfl) rfl ?_
            refine GL.k rfl hK167 (fun _ _ h => h) ?_
            refine G.fit [1, 8, 9, 10] (M' := [(1, .slice A bs.length c), (8, .int .u64 (((mpV bs) : Nat) : Int)), (9, .int .i64 (((mpE bs) : Nat) : Int)), (10, .bool false)]) (by kernel_rfl) ?_
            exact J165 false _ ⟨dgF_none (by omega), H163⟩
          · skip
            have hb168f := of_decide_eq_true hb168
            refine GL.run (j := 8) 4 [1, 8, 9, 58, 62] [(1, .slice A bs.length c), (8, .int .u64 (((mpV bs) : Nat) : Int)), (9, .int .i64 (((mpE bs) : Nat) : Int)), (58, .bool true), (62, .bool ((bs.length : Int) == 1))] (by kernel_rfl) rfl ?_
            cases hb169 : ((bs.length : Int) == 1)
            · skip
              have hb169f := ne_of_beq_false hb169
              refine GL.run (j := 9) 1 [1, 8, 9, 58, 62, 63] [(1, .slice A bs.length c), (8, .int .u64 (((mpV bs) : Nat) : Int)), (9, .int .i64 (((mpE bs) : Nat) : Int)), (58, .bool true), (62, .bool false), (63, .slice A bs.length c)] (by kernel_rfl) rfl ?_
              refine GL.sem (j := 10) (run_idxRd (P := Tryd.prog) (k := .i64) (t := 24) (A := A) (len := bs.length) (cap := c) (j := 0) (by kernel_rfl) rfl (hx.hp H163) (by rw [by8_length]) (by first | rfl | omega | (simp only [List.length_cons, List.length_nil, List.length_drop, List.length_take, List.length_append] <;> omega))) [1, 8, 9, 58, 62, 64] [(1, .slice A bs.length c), (8, .int .u64 (((mpV bs) : Nat) : Int)), (9, .int .i64 (((mpE bs) : Nat) : Int)), (58, .bool true), (62, .bool false), (64, .pointer (Option.map (fun x => Addr.add x 0) A))] (by kernel_rfl) (by kernel_rfl) rfl ?_
              obtain ⟨b170, hat171⟩ : ∃ b : UInt8, bs[0]? = some b := ⟨_, List.getElem?_eq_getElem (by first | rfl | omega | (simp only [List.length_cons, List.length_nil, List.length_drop, List.length_take, List.length_append] <;> omega))⟩
              refine GL.sem (j := 11) (run_ldRd (P := Tryd.prog) (ty := 5) (A := A) (j := 0) (v := .int .u8 (b170.toNat : Int)) (by kernel_rfl) (hx.hp H163) (by8_at hat171)) [1, 8, 9, 58, 62, 65] [(1, .slice A bs.length c), (8, .int .u64 (((mpV bs) : Nat) : Int)), (9, .int .i64 (((mpE bs) : Nat) : Int)), (58, .bool true), (62, .bool false), (65, .int .u8 (b170.toNat : Int))] (by kernel_rfl) (by kernel_rfl) rfl ?_
              refine GL.run (j := 15) 4 [1, 8, 9, 10] [(1, .slice A bs.length c), (8, .int .u64 (((mpV bs) : Nat) : Int)), (9, .int .i64 (((mpE bs) : Nat) : Int)), (10, .bool ((b170.toNat : Int) != 48))] (by kernel_rfl) rfl ?_
              refine GL.k rfl hK167 (fun _ _ h => h) ?_
              refine G.fit [1, 8, 9, 10] (M' := [(1, .slice A bs.length c), (8, .int .u64 (((mpV bs) : Nat) : Int)), (9, .int .i64 (((mpE bs) : Nat) : Int)), (10, .bool ((b170.toNat : Int) != 48))]) (by kernel_rfl) ?_
              exact J165 ((b170.toNat : Int) != 48) _ ⟨dgF_more (by omega) (by omega) hat171, H163⟩
            · skip
              have hb169f := eq_of_beq hb169
              refine GL.run (j := 15) 7 [1, 8, 9, 10] [(1, .slice A bs.length c), (8, .int .u64 (((mpV bs) : Nat) : Int)), (9, .int .i64 (((mpE bs) : Nat) : Int)), (10, .bool true)] (by kernel_rfl) rfl ?_
              refine GL.k rfl hK167 (fun _ _ h => h) ?_
              refine G.fit [1, 8, 9, 10] (M' := [(1, .slice A bs.length c), (8, .int .u64 (((mpV bs) : Nat) : Int)), (9, .int .i64 (((mpE bs) : Nat) : Int)), (10, .bool true)]) (by kernel_rfl) ?_
              exact J165 true _ ⟨dgF_one (by omega), H163⟩
        · skip
          rintro dg0 w172 ⟨hi173, H174⟩
          refine G.eq (M' := [(1, .slice A bs.length c), (8, .int .u64 (((mpV bs) : Nat) : Int)), (9, .int .i64 (((mpE bs) : Nat) : Int)), (10, .bool dg0)]) rfl ?_
          have H174 : Hp w [] [.row A13 ((Lib.decDigits a).length) c14 5 1 (by8 (Lib.decDigits a))] w172 := H174
          have hdg0 := hi173
          refine G.seqK fun K175 hK176 => ?_
          refine G.seqK fun K177 hK178 => ?_
          refine G.region ?_
          refine GL.run (j := 3) 3 [1, 8, 9, 10, 69, 70, 71] [(1, .slice A bs.length c), (8, .int .u64 (((mpV bs) : Nat) : Int)), (9, .int .i64 (((mpE bs) : Nat) : Int)), (10, .bool dg0), (69, .slice A bs.length c), (70, .int .i64 (bs.length : Int)), (71, .int .i64 0)] (by kernel_rfl) rfl ?_
          refine GL.k rfl hK178 (fun _ _ h => h) ?_
          refine G.block ?_
          have H179 : Hp w [] [] w172 := H174.sub (List.Sublist.cons _ (List.Sublist.slnil))
          refine G.fit [1, 8, 9, 10, 69, 70, 71] (M' := [(1, .slice A bs.length c), (8, .int .u64 (((mpV bs) : Nat) : Int)), (9, .int .i64 (((mpE bs) : Nat) : Int)), (10, .bool dg0), (69, .slice A bs.length c), (70, .int .i64 (bs.length : Int)), (71, .int .i64 0)]) (by kernel_rfl) ?_
          refine G.loop (X := Nat × Bool) (fun ⟨i, dg⟩ => [(1, .slice A bs.length c), (8, .int .u64 (((mpV bs) : Nat) : Int)), (9, .int .i64 (((mpE bs) : Nat) : Int)), (10, .bool dg), (69, .slice A bs.length c), (70, .int .i64 (bs.length : Int)), (71, .int .i64 (i : Int))]) (fun ⟨i, dg⟩ w_ => (i ≤ bs.length ∧ (dg = true ↔ dgF bs i)) ∧ Hp w [] [] w_) (fun ⟨i, dg⟩ => bs.length - i) ⟨0, dg0⟩ [1, 8, 9, 10, 69, 70, 71] (by kernel_rfl) ⟨⟨Nat.zero_le _, hdg0⟩, H179⟩ ?_
          rintro ⟨i, dg⟩ w180 ⟨hi181, H182⟩
          refine G.eq (M' := [(1, .slice A bs.length c), (8, .int .u64 (((mpV bs) : Nat) : Int)), (9, .int .i64 (((mpE bs) : Nat) : Int)), (10, .bool dg), (69, .slice A bs.length c), (70, .int .i64 (bs.length : Int)), (71, .int .i64 (i : Int))]) rfl ?_
          have H182 : Hp w [] [] w180 := H182
          obtain ⟨hi9, hdg⟩ := hi181
          refine G.seqK fun K183 hK184 => ?_
          refine G.region ?_
          refine GL.run (j := 1) 1 [1, 8, 9, 10, 69, 70, 71, 72] [(1, .slice A bs.length c), (8, .int .u64 (((mpV bs) : Nat) : Int)), (9, .int .i64 (((mpE bs) : Nat) : Int)), (10, .bool dg), (69, .slice A bs.length c), (70, .int .i64 (bs.length : Int)), (71, .int .i64 (i : Int)), (72, .bool (decide ((i : Int) < (bs.length : Int))))] (by kernel_rfl) rfl ?_
          refine GL.k rfl hK184 (fun _ _ h => h) ?_
          refine G.seqK fun K185 hK186 => ?_
          cases hb187 : (decide ((i : Int) < (bs.length : Int)))
          · skip
            have hb187f := of_decide_eq_false hb187
            refine G.no rfl ?_
            refine G.exitK hK176 (fun _ _ h => h) ?_
            refine G.seqK fun K188 hK189 => ?_
            refine G.seqK fun K190 hK191 => ?_
            refine G.region ?_
            rcases (Bool.eq_false_or_eq_true dg).symm with hdv | hdv
            · skip
              have hno : ¬ dgOk bs := fun h_ => absurd (hdg.2 ((dgF_all (by omega)).2 h_)) (by rw [hdv]; decide)
              subst hdv
              refine GL.eq (M' := [(1, .slice A bs.length c), (8, .int .u64 (((mpV bs) : Nat) : Int)), (9, .int .i64 (((mpE bs) : Nat) : Int)), (10, .bool false), (69, .slice A bs.length c), (70, .int .i64 (bs.length : Int)), (71, .int .i64 (i : Int)), (72, .bool false)]) rfl ?_
              refine GL.run (j := 2) 2 [1, 8, 9, 86] [(1, .slice A bs.length c), (8, .int .u64 (((mpV bs) : Nat) : Int)), (9, .int .i64 (((mpE bs) : Nat) : Int)), (86, .bool true)] (by kernel_rfl) rfl ?_
              refine GL.k rfl hK191 (fun _ _ h => h) ?_
              refine G.yes rfl ?_
              refine G.seqK fun K192 hK193 => ?_
              refine G.region ?_
              refine GL.run (j := 3) 3 [8, 89] [(8, .int .u64 (((mpV bs) : Nat) : Int)), (89, .bool ((((mpE bs) : Nat) : Int) == 2))] (by kernel_rfl) rfl ?_
              have hb194 : ((((mpE bs) : Nat) : Int) == 2) = true := by rw [mpE, if_neg hno]; rfl
              rw [hb194]
              refine GL.run (j := 7) 4 [4] [(4, .bool ((((mpV bs) : Nat) : Int) == 0))] (by kernel_rfl) rfl ?_
              refine GL.k rfl hK193 (fun _ _ h => h) ?_
              refine G.ret ?_
              intro F_ hF_ hM_
              refine hRet _ _ (bodyPost_1 rfl (RV.tmp rfl) ?_ F_ hF_ hM_)
              have hb195 : ((((mpV bs) : Nat) : Int) == 0) = true := by first | (rw [mpV, if_neg hno]; rfl) | (rw [mpV, if_pos hok, if_neg (by omega)]; rfl)
              rw [hb195]
              exact ⟨rfl, H182.sub (List.nil_sublist _)⟩
            · skip
              have hok : dgOk bs := (dgF_all (by omega)).1 (hdg.1 hdv)
              subst hdv
              refine GL.eq (M' := [(1, .slice A bs.length c), (8, .int .u64 (((mpV bs) : Nat) : Int)), (9, .int .i64 (((mpE bs) : Nat) : Int)), (10, .bool true), (69, .slice A bs.length c), (70, .int .i64 (bs.length : Int)), (71, .int .i64 (i : Int)), (72, .bool false)]) rfl ?_
              refine GL.run (j := 2) 2 [1, 8, 9, 86] [(1, .slice A bs.length c), (8, .int .u64 (((mpV bs) : Nat) : Int)), (9, .int .i64 (((mpE bs) : Nat) : Int)), (86, .bool false)] (by kernel_rfl) rfl ?_
              refine GL.k rfl hK191 (fun _ _ h => h) ?_
              refine G.no rfl ?_
              refine G.skipK hK189 (fun _ _ h => h) ?_
              refine G.seqK fun K196 hK197 => ?_
              refine G.region ?_
              refine GL.run (j := 1) 1 [1, 8, 9, 13] [(1, .slice A bs.length c), (8, .int .u64 (((mpV bs) : Nat) : Int)), (9, .int .i64 (((mpE bs) : Nat) : Int)), (13, .slice none 0 0)] (by kernel_rfl) rfl ?_
              refine GL.k rfl hK197 (fun _ _ h => h) ?_
              refine G.seqK fun K198 hK199 => ?_
              refine G.seqK fun K200 hK201 => ?_
              refine G.region ?_
              refine GL.run (j := 3) 3 [1, 8, 9, 13, 93, 94, 95] [(1, .slice A bs.length c), (8, .int .u64 (((mpV bs) : Nat) : Int)), (9, .int .i64 (((mpE bs) : Nat) : Int)), (13, .slice none 0 0), (93, .slice A bs.length c), (94, .int .i64 (bs.length : Int)), (95, .int .i64 0)] (by kernel_rfl) rfl ?_
              refine GL.k rfl hK201 (fun _ _ h => h) ?_
              refine G.block ?_
              have H202 := H182.rowNil 22 1
              refine G.fit [1, 8, 9, 13, 93, 94, 95] (M' := [(1, .slice A bs.length c), (8, .int .u64 (((mpV bs) : Nat) : Int)), (9, .int .i64 (((mpE bs) : Nat) : Int)), (13, .slice none 0 0), (93, .slice A bs.length c), (94, .int .i64 (bs.length : Int)), (95, .int .i64 0)]) (by kernel_rfl) ?_
              refine G.eq (M' := [(1, .slice A bs.length c), (8, .int .u64 (((mpV bs) : Nat) : Int)), (9, .int .i64 (((mpE bs) : Nat) : Int)), (13, .slice none (ndg (dcF 0 (bs.take 0))) 0), (93, .slice A bs.length c), (94, .int .i64 (bs.length : Int)), (95, .int .i64 0)]) (by rfl) ?_
              refine G.loop (X := Nat × Option Addr × Nat) (fun ⟨j, nA, nc⟩ => [(1, .slice A bs.length c), (8, .int .u64 (((mpV bs) : Nat) : Int)), (9, .int .i64 (((mpE bs) : Nat) : Int)), (13, .slice nA (ndg (dcF 0 (bs.take j))) nc), (93, .slice A bs.length c), (94, .int .i64 (bs.length : Int)), (95, .int .i64 (j : Int))]) (fun ⟨j, nA, nc⟩ w_ => (j ≤ bs.length) ∧ Hp w [] [.row nA (ndg (dcF 0 (bs.take j))) nc 22 1 (dg (digs (dcF 0 (bs.take j))))] w_) (fun ⟨j, nA, nc⟩ => bs.length - j) ⟨0, none, 0⟩ [1, 8, 9, 13, 93, 94, 95] (by kernel_rfl) ⟨Nat.zero_le _, H202⟩ ?_
              rintro ⟨j, nA, nc⟩ w203 ⟨hi204, H205⟩
              refine G.eq (M' := [(1, .slice A bs.length c), (8, .int .u64 (((mpV bs) : Nat) : Int)), (9, .int .i64 (((mpE bs) : Nat) : Int)), (13, .slice nA (ndg (dcF 0 (bs.take j))) nc), (93, .slice A bs.length c), (94, .int .i64 (bs.length : Int)), (95, .int .i64 (j : Int))]) rfl ?_
              have H205 : Hp w [] [.row nA (ndg (dcF 0 (bs.take j))) nc 22 1 (dg (digs (dcF 0 (bs.take j))))] w203 := H205
              have hj9 : j ≤ bs.length := hi204
              have hN13 : ndg (dcF 0 (bs.take j)) ≤ 13 := ndg_le.2 (Nat.lt_of_lt_of_le (dcF_lt60 (l := bs.take j) (fun x hx => hok.2.2 x (List.mem_of_mem_take hx)) (by rw [List.length_take]; omega)) (by decide))
              refine G.seqK fun K206 hK207 => ?_
              refine G.region ?_
              refine GL.run (j := 1) 1 [1, 8, 9, 13, 93, 94, 95, 96] [(1, .slice A bs.length c), (8, .int .u64 (((mpV bs) : Nat) : Int)), (9, .int .i64 (((mpE bs) : Nat) : Int)), (13, .slice nA (ndg (dcF 0 (bs.take j))) nc), (93, .slice A bs.length c), (94, .int .i64 (bs.length : Int)), (95, .int .i64 (j : Int)), (96, .bool (decide ((j : Int) < (bs.length : Int))))] (by kernel_rfl) rfl ?_
              refine GL.k rfl hK207 (fun _ _ h => h) ?_
              refine G.seqK fun K208 hK209 => ?_
              cases hb210 : (decide ((j : Int) < (bs.length : Int)))
              · skip
                have hb210f := of_decide_eq_false hb210
                refine G.no rfl ?_
                refine G.exitK hK199 (fun _ _ h => h) ?_
                refine G.seqK fun K211 hK212 => ?_
                refine G.seqK fun K213 hK214 => ?_
                refine G.region ?_
                refine GL.run (j := 2) 2 [1, 8, 9, 109, 110] [(1, .slice A bs.length c), (8, .int .u64 (((mpV bs) : Nat) : Int)), (9, .int .i64 (((mpE bs) : Nat) : Int)), (109, .slice nA (ndg (dcF 0 (bs.take j))) nc), (110, .agg #[.int .u64 4611686018427387904, .int .u64 0, .int .u64 0, .int .u64 0])] (by kernel_rfl) rfl ?_
                have hN220 : ndg 4611686018427387904 ≤ 4 := ndg_K (by decide)
                refine GL.call (j := 3) (Of_calls_n 4611686018427387904 (by decide) w203) (by kernel_rfl) rfl (fun e_ w219 hR => ?_)
                obtain ⟨A215, c216, rfl, H218⟩ := hR
                have H217 : Hp w [] [.row nA (ndg (dcF 0 (bs.take j))) nc 22 1 (dg (digs (dcF 0 (bs.take j)))), .row A215 (ndg 4611686018427387904) c216 22 1 (dg (digs 4611686018427387904))] w219 := H205.callNew H218
                refine ⟨_, rfl, [1, 8, 9, 109, 111], [(1, .slice A bs.length c), (8, .int .u64 (((mpV bs) : Nat) : Int)), (9, .int .i64 (((mpE bs) : Nat) : Int)), (109, .slice nA (ndg (dcF 0 (bs.take j))) nc), (111, .slice A215 (ndg 4611686018427387904) c216)], by kernel_rfl, ?_⟩
                refine GL.call (j := 4) (CmpN_calls (dcF 0 (bs.take j)) 4611686018427387904 nA A215 nc c216 w219 (H217.rdRow 0 rfl) (H217.rdRow 1 rfl) (Nat.le_trans hN13 (by decide)) (Nat.le_trans hN220 (by decide))) (by kernel_rfl) rfl (fun e_ w221 hR => ?_)
                obtain ⟨rfl, H223⟩ := hR
                have H222 : Hp w [] [.row nA (ndg (dcF 0 (bs.take j))) nc 22 1 (dg (digs (dcF 0 (bs.take j)))), .row A215 (ndg 4611686018427387904) c216 22 1 (dg (digs 4611686018427387904))] w221 := H217.callNil H223
                refine ⟨_, rfl, [1, 8, 9, 112], [(1, .slice A bs.length c), (8, .int .u64 (((mpV bs) : Nat) : Int)), (9, .int .i64 (((mpE bs) : Nat) : Int)), (112, .int .i64 (cmpN (dcF 0 (bs.take j)) 4611686018427387904))], by kernel_rfl, ?_⟩
                refine GL.run (j := 5) 1 [1, 8, 9, 113] [(1, .slice A bs.length c), (8, .int .u64 (((mpV bs) : Nat) : Int)), (9, .int .i64 (((mpE bs) : Nat) : Int)), (113, .bool (decide (0 < (cmpN (dcF 0 (bs.take j)) 4611686018427387904))))] (by kernel_rfl) rfl ?_
                refine GL.k rfl hK214 (fun _ _ h => h) ?_
                cases hb224 : (decide (0 < (cmpN (dcF 0 (bs.take j)) 4611686018427387904)))
                · skip
                  have hb224f := of_decide_eq_false hb224
                  have hcm : ¬ (4611686018427387904 < dcF 0 (bs.take j)) := fun h_ => of_decide_eq_false hb224 (cmpN_pos.2 h_)
                  rw [List.take_of_length_le (show bs.length ≤ j by omega)] at hcm
                  refine G.no rfl ?_
                  refine G.skipK hK212 (fun _ _ h => h) ?_
                  refine G.seqK fun K225 hK226 => ?_
                  refine G.heldP (Hp w [] [.row nA (ndg (dcF 0 (bs.take j))) nc 22 1 (dg (digs (dcF 0 (bs.take j)))), .row A215 (ndg 4611686018427387904) c216 22 1 (dg (digs 4611686018427387904))]) (by kernel_rfl) (by kernel_rfl) (fun c_ a_ d_ v_ w_ h_ => hPan c_ a_ d_ v_ w_ h_) ?_
                  have H227 := H222.drew
                  generalize ({ w221 with drawn := w221.drawn + 1 } : World) = w228 at H227 ⊢
                  have hS229 : Hp w [] [.row nA (ndg (dcF 0 (bs.take j))) nc 22 1 (dg (digs (dcF 0 (bs.take j)))), .row A215 (ndg 4611686018427387904) c216 22 1 (dg (digs 4611686018427387904))] w228 := H227.sub (List.Sublist.cons_cons _ (List.Sublist.cons_cons _ (List.Sublist.slnil)))
                  refine GP.run [0, 1, 2] [1, 8, 122] [(1, .slice A bs.length c), (8, .int .u64 (((mpV bs) : Nat) : Int)), (122, .bool ((((mpE bs) : Nat) : Int) == 0))] [0, 1, 2] (by kernel_rfl) rfl hS229 ?_
                  have hb230 : ((((mpE bs) : Nat) : Int) == 0) = true := by rw [mpE, if_pos hok, if_pos (by omega)]; rfl
                  rw [hb230]
                  refine GP.run [3, 6] [122, 123, 126] [(122, .bool true), (123, .int .u64 (((mpV bs) : Nat) : Int)), (126, .slice A bs.length c)] [0, 1, 2, 3, 6] (by kernel_rfl) rfl hS229 ?_
                  refine GP.sem 7 (fun w_ H_ => run_toStr (P := Tryd.prog) (src := 24) (dst := 9) (A := A) (bs := bs) (n := bs.length) (c := c) (by kernel_rfl) (by kernel_rfl) (hx.hp H_) (rfl)) [122, 123, 127] [(122, .bool true), (123, .int .u64 (((mpV bs) : Nat) : Int)), (127, .string (strOf bs))] (by kernel_rfl) (by kernel_rfl) (by kernel_rfl) hS229 ?_
                  refine GP.call 4 (Text_calls (mpV bs) (mpV_lt _) w228 ((Lib.tabBelow_of_tabIs hT) _ H227.below)) (by kernel_rfl) (by kernel_rfl) (fun e_ w233 hR => ?_)
                  obtain ⟨A231, c232, rfl, H235⟩ := hR
                  have H234 : Hp w [] [.row nA (ndg (dcF 0 (bs.take j))) nc 22 1 (dg (digs (dcF 0 (bs.take j)))), .row A215 (ndg 4611686018427387904) c216 22 1 (dg (digs 4611686018427387904)), .row A231 ((Lib.decDigits (mpV bs)).length) c232 5 1 (by8 (Lib.decDigits (mpV bs)))] w233 := H227.callNew H235
                  have hS236 : Hp w [] [.row nA (ndg (dcF 0 (bs.take j))) nc 22 1 (dg (digs (dcF 0 (bs.take j)))), .row A215 (ndg 4611686018427387904) c216 22 1 (dg (digs 4611686018427387904))] w233 := H234.sub (List.Sublist.cons_cons _ (List.Sublist.cons_cons _ (List.Sublist.cons _ (List.Sublist.slnil))))
                  refine ⟨_, rfl, hS236, [122, 124, 127], [(122, .bool true), (124, .slice A231 ((Lib.decDigits (mpV bs)).length) c232), (127, .string (strOf bs))], by kernel_rfl, ?_⟩
                  refine GP.weak (Hp w [] [.row nA (ndg (dcF 0 (bs.take j))) nc 22 1 (dg (digs (dcF 0 (bs.take j)))), .row A215 (ndg 4611686018427387904) c216 22 1 (dg (digs 4611686018427387904)), .row A231 ((Lib.decDigits (mpV bs)).length) c232 5 1 (by8 (Lib.decDigits (mpV bs)))]) (fun w_ h_ => h_.sub (List.Sublist.cons_cons _ (List.Sublist.cons_cons _ (List.Sublist.cons _ (List.Sublist.slnil))))) ?_
                  have hS237 : Hp w [] [.row nA (ndg (dcF 0 (bs.take j))) nc 22 1 (dg (digs (dcF 0 (bs.take j)))), .row A215 (ndg 4611686018427387904) c216 22 1 (dg (digs 4611686018427387904)), .row A231 ((Lib.decDigits (mpV bs)).length) c232 5 1 (by8 (Lib.decDigits (mpV bs)))] w233 := H234.sub (List.Sublist.cons_cons _ (List.Sublist.cons_cons _ (List.Sublist.cons_cons _ (List.Sublist.slnil))))
                  refine GP.sem 5 (fun w_ H_ => run_toStr (P := Tryd.prog) (src := 24) (dst := 9) (A := A231) (bs := (Lib.decDigits (mpV bs))) (n := (Lib.decDigits (mpV bs)).length) (c := c232) (by kernel_rfl) (by kernel_rfl) (H_.rdRow 2 rfl) (rfl)) [122, 125, 127] [(122, .bool true), (125, .string (strOf (Lib.decDigits (mpV bs)))), (127, .string (strOf bs))] (by kernel_rfl) (by kernel_rfl) (by kernel_rfl) hS237 ?_
                  refine GP.sem 8 (fun w_ H_ => run_str_eql (P := Tryd.prog) (t := 9) (Lib.decDigits (mpV bs)) bs _) [122, 128] [(122, .bool true), (128, .bool ((Lib.decDigits (mpV bs)) == bs))] (by kernel_rfl) (by kernel_rfl) (by kernel_rfl) hS237 ?_
                  refine GP.run [9, 10] [4] [(4, .bool ((Lib.decDigits (mpV bs)) == bs))] [0, 1, 2, 3, 6, 7, 4, 5, 8, 9, 10] (by kernel_rfl) rfl hS237 ?_
                  refine GP.k (by kernel_rfl) hK226 (fun _ _ h => h) ?_
                  refine G.ret ?_
                  intro F_ hF_ hM_
                  refine hRet _ _ (bodyPost_1 rfl (RV.tmp rfl) ?_ F_ hF_ hM_)
                  have hb238 : ((Lib.decDigits (mpV bs)) == bs) = true := by rw [mpV, if_pos hok, if_pos (by omega), dd_back' hok]; exact beq_self_eq_true _
                  rw [hb238]
                  exact ⟨rfl, H234.sub (List.nil_sublist _)⟩
                · skip
                  have hb224f := of_decide_eq_true hb224
                  have hcm : 4611686018427387904 < dcF 0 (bs.take j) := cmpN_pos.1 (of_decide_eq_true hb224)
                  rw [List.take_of_length_le (show bs.length ≤ j by omega)] at hcm
                  refine G.yes rfl ?_
                  refine G.seqK fun K239 hK240 => ?_
                  refine G.region ?_
                  refine GL.run (j := 3) 3 [8, 116] [(8, .int .u64 (((mpV bs) : Nat) : Int)), (116, .bool ((((mpE bs) : Nat) : Int) == 4))] (by kernel_rfl) rfl ?_
                  have hb241 : ((((mpE bs) : Nat) : Int) == 4) = true := by rw [mpE, if_pos hok, if_neg (by omega)]; rfl
                  rw [hb241]
                  refine GL.run (j := 7) 4 [4] [(4, .bool ((((mpV bs) : Nat) : Int) == 0))] (by kernel_rfl) rfl ?_
                  refine GL.k rfl hK240 (fun _ _ h => h) ?_
                  refine G.ret ?_
                  intro F_ hF_ hM_
                  refine hRet _ _ (bodyPost_1 rfl (RV.tmp rfl) ?_ F_ hF_ hM_)
                  have hb242 : ((((mpV bs) : Nat) : Int) == 0) = true := by first | (rw [mpV, if_neg hno]; rfl) | (rw [mpV, if_pos hok, if_neg (by omega)]; rfl)
                  rw [hb242]
                  exact ⟨rfl, H222.sub (List.nil_sublist _)⟩
              · skip
                have hb210f := of_decide_eq_true hb210
                refine G.yes rfl ?_
                refine G.skipK hK209 (fun _ _ h => h) ?_
                refine G.seqK fun K243 hK244 => ?_
                refine G.block ?_
                refine G.seqK fun K245 hK246 => ?_
                refine G.region ?_
                refine GL.sem (j := 1) (run_idxRd (P := Tryd.prog) (k := .i64) (t := 24) (A := A) (len := bs.length) (cap := c) (j := j) (by kernel_rfl) rfl (hx.hp H205) (by rw [by8_length]) (by first | rfl | omega | (simp only [List.length_cons, List.length_nil, List.length_drop, List.length_take, List.length_append] <;> omega))) [1, 8, 9, 13, 93, 94, 95, 97] [(1, .slice A bs.length c), (8, .int .u64 (((mpV bs) : Nat) : Int)), (9, .int .i64 (((mpE bs) : Nat) : Int)), (13, .slice nA (ndg (dcF 0 (bs.take j))) nc), (93, .slice A bs.length c), (94, .int .i64 (bs.length : Int)), (95, .int .i64 (j : Int)), (97, .pointer (Option.map (fun x => Addr.add x j) A))] (by kernel_rfl) (by kernel_rfl) rfl ?_
                obtain ⟨b247, hat248⟩ : ∃ b : UInt8, bs[j]? = some b := ⟨_, List.getElem?_eq_getElem (by first | rfl | omega | (simp only [List.length_cons, List.length_nil, List.length_drop, List.length_take, List.length_append] <;> omega))⟩
                refine GL.sem (j := 2) (run_ldRd (P := Tryd.prog) (ty := 5) (A := A) (j := j) (v := .int .u8 (b247.toNat : Int)) (by kernel_rfl) (hx.hp H205) (by8_at hat248)) [1, 8, 9, 13, 93, 94, 95, 98] [(1, .slice A bs.length c), (8, .int .u64 (((mpV bs) : Nat) : Int)), (9, .int .i64 (((mpE bs) : Nat) : Int)), (13, .slice nA (ndg (dcF 0 (bs.take j))) nc), (93, .slice A bs.length c), (94, .int .i64 (bs.length : Int)), (95, .int .i64 (j : Int)), (98, .int .u8 (b247.toNat : Int))] (by kernel_rfl) (by kernel_rfl) rfl ?_
                refine GL.run (j := 3) 1 [1, 8, 9, 13, 15, 93, 94, 95] [(1, .slice A bs.length c), (8, .int .u64 (((mpV bs) : Nat) : Int)), (9, .int .i64 (((mpE bs) : Nat) : Int)), (13, .slice nA (ndg (dcF 0 (bs.take j))) nc), (15, .int .u8 (b247.toNat : Int)), (93, .slice A bs.length c), (94, .int .i64 (bs.length : Int)), (95, .int .i64 (j : Int))] (by kernel_rfl) rfl ?_
                refine GL.k rfl hK246 (fun _ _ h => h) ?_
                refine G.region ?_
                have := 0
                · skip
                  have hdgb : 48 ≤ b247.toNat ∧ b247.toNat ≤ 57 := hok.2.2 b247 (List.mem_of_getElem? hat248)
                  refine GL.run (j := 1) 1 [1, 8, 9, 15, 93, 94, 95, 99] [(1, .slice A bs.length c), (8, .int .u64 (((mpV bs) : Nat) : Int)), (9, .int .i64 (((mpE bs) : Nat) : Int)), (15, .int .u8 (b247.toNat : Int)), (93, .slice A bs.length c), (94, .int .i64 (bs.length : Int)), (95, .int .i64 (j : Int)), (99, .slice nA (ndg (dcF 0 (bs.take j))) nc)] (by kernel_rfl) rfl ?_
                  obtain ⟨p249, w250, r251, H252⟩ := H205.madeRow (P := Tryd.prog) (Instr.buildSlice 31 1 #[(0, .int .u64 10)]) (fun b_ => .slice (some ⟨b_, 0, none⟩) 1 1) [.int .u64 10] 22 1 1 1 (by kernel_rfl) (by decide) (by decide) rfl
                  have H252 : Hp w [] [.row nA (ndg (dcF 0 (bs.take j))) nc 22 1 (dg (digs (dcF 0 (bs.take j)))), .row (some ⟨p249, 0, none⟩) 1 1 22 1 (dg [10])] w250 := H252
                  refine GL.sem (j := 2) (r251) [1, 8, 9, 15, 93, 94, 95, 99, 100] [(1, .slice A bs.length c), (8, .int .u64 (((mpV bs) : Nat) : Int)), (9, .int .i64 (((mpE bs) : Nat) : Int)), (15, .int .u8 (b247.toNat : Int)), (93, .slice A bs.length c), (94, .int .i64 (bs.length : Int)), (95, .int .i64 (j : Int)), (99, .slice nA (ndg (dcF 0 (bs.take j))) nc), (100, .slice (some ⟨p249, 0, none⟩) 1 1)] (by kernel_rfl) (by kernel_rfl) rfl ?_
                  have hN260 : ndg ((dcF 0 (bs.take j)) * 10) ≤ 14 := ndg_mul hN13 (show ndg 10 ≤ 1 from ndg_le.2 (by decide))
                  refine GL.call (j := 3) (MulN_calls (dcF 0 (bs.take j)) 10 nA nc (some ⟨p249, 0, none⟩) 1 w250 (H252.rdRow 0 rfl) (H252.rdRow 1 rfl) (Nat.le_trans hN13 (by decide)) (Nat.le_trans (show ndg 10 ≤ 1 from ndg_le.2 (by decide)) (by decide))) (by kernel_rfl) rfl (fun e_ w257 hR => ?_)
                  obtain ⟨A253, c254, rfl, H256⟩ := hR
                  have H255 : Hp w [] [.row nA (ndg (dcF 0 (bs.take j))) nc 22 1 (dg (digs (dcF 0 (bs.take j)))), .row (some ⟨p249, 0, none⟩) 1 1 22 1 (dg [10]), .row A253 (ndg ((dcF 0 (bs.take j)) * 10)) c254 22 1 (dg (digs ((dcF 0 (bs.take j)) * 10)))] w257 := H252.callNew H256
                  refine ⟨_, rfl, [1, 8, 9, 15, 93, 94, 95, 101], [(1, .slice A bs.length c), (8, .int .u64 (((mpV bs) : Nat) : Int)), (9, .int .i64 (((mpE bs) : Nat) : Int)), (15, .int .u8 (b247.toNat : Int)), (93, .slice A bs.length c), (94, .int .i64 (bs.length : Int)), (95, .int .i64 (j : Int)), (101, .slice A253 (ndg ((dcF 0 (bs.take j)) * 10)) c254)], by kernel_rfl, ?_⟩
                  refine GL.run (j := 7) 4 [1, 8, 9, 93, 94, 95, 101, 105] [(1, .slice A bs.length c), (8, .int .u64 (((mpV bs) : Nat) : Int)), (9, .int .i64 (((mpE bs) : Nat) : Int)), (93, .slice A bs.length c), (94, .int .i64 (bs.length : Int)), (95, .int .i64 (j : Int)), (101, .slice A253 (ndg ((dcF 0 (bs.take j)) * 10)) c254), (105, .agg #[.int .u64 (IntKind.u64.wrap (IntKind.u8.wrap ((b247.toNat : Int) - 48))), .int .u64 0, .int .u64 0, .int .u64 0])] (by kernel_rfl) rfl ?_
                  have e261 : (IntKind.u8.wrap ((b247.toNat : Int) - 48)) = ((b247.toNat - 48 : Nat) : Int) := by rw [in_u8 (by omega)]; omega
                  have e262 : (IntKind.u64.wrap ((b247.toNat - 48 : Nat) : Int)) = ((b247.toNat - 48 : Nat) : Int) := in_u64 (by omega)
                  refine GL.eq (M' := [(1, .slice A bs.length c), (8, .int .u64 (((mpV bs) : Nat) : Int)), (9, .int .i64 (((mpE bs) : Nat) : Int)), (93, .slice A bs.length c), (94, .int .i64 (bs.length : Int)), (95, .int .i64 (j : Int)), (101, .slice A253 (ndg ((dcF 0 (bs.take j)) * 10)) c254), (105, .agg #[.int .u64 ((b247.toNat - 48 : Nat) : Int), .int .u64 0, .int .u64 0, .int .u64 0])]) (by rw [e261, e262]) ?_
                  clear e261 e262
                  have hN268 : ndg (b247.toNat - 48) ≤ 4 := ndg_K (Nat.lt_trans (show b247.toNat - 48 < 256 by omega) (by decide))
                  refine GL.call (j := 8) (Of1_calls_n (b247.toNat - 48) (Nat.lt_trans (show b247.toNat - 48 < 256 by omega) (by decide)) w257) (by kernel_rfl) rfl (fun e_ w267 hR => ?_)
                  obtain ⟨A263, c264, rfl, H266⟩ := hR
                  have H265 : Hp w [] [.row nA (ndg (dcF 0 (bs.take j))) nc 22 1 (dg (digs (dcF 0 (bs.take j)))), .row (some ⟨p249, 0, none⟩) 1 1 22 1 (dg [10]), .row A253 (ndg ((dcF 0 (bs.take j)) * 10)) c254 22 1 (dg (digs ((dcF 0 (bs.take j)) * 10))), .row A263 (ndg (b247.toNat - 48)) c264 22 1 (dg (digs (b247.toNat - 48)))] w267 := H255.callNew H266
                  refine ⟨_, rfl, [1, 8, 9, 93, 94, 95, 101, 106], [(1, .slice A bs.length c), (8, .int .u64 (((mpV bs) : Nat) : Int)), (9, .int .i64 (((mpE bs) : Nat) : Int)), (93, .slice A bs.length c), (94, .int .i64 (bs.length : Int)), (95, .int .i64 (j : Int)), (101, .slice A253 (ndg ((dcF 0 (bs.take j)) * 10)) c254), (106, .slice A263 (ndg (b247.toNat - 48)) c264)], by kernel_rfl, ?_⟩
                  have hN274 : ndg (((dcF 0 (bs.take j)) * 10) + (b247.toNat - 48)) ≤ 15 := ndg_add (i := 14) (Nat.le_trans hN260 (by decide)) (Nat.le_trans hN268 (by decide))
                  refine GL.call (j := 9) (AddN_calls ((dcF 0 (bs.take j)) * 10) (b247.toNat - 48) A253 c254 A263 c264 w267 (H265.rdRow 2 rfl) (H265.rdRow 3 rfl) (Nat.le_trans hN260 (by decide)) (Nat.le_trans hN268 (by decide))) (by kernel_rfl) rfl (fun e_ w273 hR => ?_)
                  obtain ⟨A269, c270, rfl, H272⟩ := hR
                  have H271 : Hp w [] [.row nA (ndg (dcF 0 (bs.take j))) nc 22 1 (dg (digs (dcF 0 (bs.take j)))), .row (some ⟨p249, 0, none⟩) 1 1 22 1 (dg [10]), .row A253 (ndg ((dcF 0 (bs.take j)) * 10)) c254 22 1 (dg (digs ((dcF 0 (bs.take j)) * 10))), .row A263 (ndg (b247.toNat - 48)) c264 22 1 (dg (digs (b247.toNat - 48))), .row A269 (ndg (((dcF 0 (bs.take j)) * 10) + (b247.toNat - 48))) c270 22 1 (dg (digs (((dcF 0 (bs.take j)) * 10) + (b247.toNat - 48))))] w273 := H265.callNew H272
                  refine ⟨_, rfl, [1, 8, 9, 93, 94, 95, 107], [(1, .slice A bs.length c), (8, .int .u64 (((mpV bs) : Nat) : Int)), (9, .int .i64 (((mpE bs) : Nat) : Int)), (93, .slice A bs.length c), (94, .int .i64 (bs.length : Int)), (95, .int .i64 (j : Int)), (107, .slice A269 (ndg (((dcF 0 (bs.take j)) * 10) + (b247.toNat - 48))) c270)], by kernel_rfl, ?_⟩
                  refine GL.run (j := 10) 1 [1, 8, 9, 13, 93, 94, 95] [(1, .slice A bs.length c), (8, .int .u64 (((mpV bs) : Nat) : Int)), (9, .int .i64 (((mpE bs) : Nat) : Int)), (13, .slice A269 (ndg (((dcF 0 (bs.take j)) * 10) + (b247.toNat - 48))) c270), (93, .slice A bs.length c), (94, .int .i64 (bs.length : Int)), (95, .int .i64 (j : Int))] (by kernel_rfl) rfl ?_
                  refine GL.k rfl hK244 (fun _ _ h => h) ?_
                  refine G.region ?_
                  refine GL.run (j := 2) 2 [1, 8, 9, 13, 93, 94, 95] [(1, .slice A bs.length c), (8, .int .u64 (((mpV bs) : Nat) : Int)), (9, .int .i64 (((mpE bs) : Nat) : Int)), (13, .slice A269 (ndg (((dcF 0 (bs.take j)) * 10) + (b247.toNat - 48))) c270), (93, .slice A bs.length c), (94, .int .i64 (bs.length : Int)), (95, .int .i64 (IntKind.i64.wrap ((j : Int) + 1)))] (by kernel_rfl) rfl ?_
                  have e275 : (IntKind.i64.wrap ((j : Int) + 1)) = ((j + 1 : Nat) : Int) := by rw [in_i64 (by omega)]; omega
                  refine GL.eq (M' := [(1, .slice A bs.length c), (8, .int .u64 (((mpV bs) : Nat) : Int)), (9, .int .i64 (((mpE bs) : Nat) : Int)), (13, .slice A269 (ndg (((dcF 0 (bs.take j)) * 10) + (b247.toNat - 48))) c270), (93, .slice A bs.length c), (94, .int .i64 (bs.length : Int)), (95, .int .i64 ((j + 1 : Nat) : Int))]) (by rw [e275]) ?_
                  clear e275
                  have H276 : Hp w [] [.row A269 (ndg (((dcF 0 (bs.take j)) * 10) + (b247.toNat - 48))) c270 22 1 (dg (digs (((dcF 0 (bs.take j)) * 10) + (b247.toNat - 48))))] w273 := H271.sub (List.Sublist.cons _ (List.Sublist.cons _ (List.Sublist.cons _ (List.Sublist.cons _ (List.Sublist.cons_cons _ (List.Sublist.slnil))))))
                  have H277 := H276
                  rw [← dcF_take hat248] at H277
                  refine GL.fit (ts := [1, 8, 9, 13, 93, 94, 95]) (M' := [(1, .slice A bs.length c), (8, .int .u64 (((mpV bs) : Nat) : Int)), (9, .int .i64 (((mpE bs) : Nat) : Int)), (13, .slice A269 (ndg (((dcF 0 (bs.take j)) * 10) + (b247.toNat - 48))) c270), (93, .slice A bs.length c), (94, .int .i64 (bs.length : Int)), (95, .int .i64 ((j + 1 : Nat) : Int))]) (by kernel_rfl) ?_
                  refine GL.eq (M' := [(1, .slice A bs.length c), (8, .int .u64 (((mpV bs) : Nat) : Int)), (9, .int .i64 (((mpE bs) : Nat) : Int)), (13, .slice A269 (ndg (dcF 0 (bs.take (j + 1)))) c270), (93, .slice A bs.length c), (94, .int .i64 (bs.length : Int)), (95, .int .i64 (((j + 1) : Nat) : Int))]) (by rw [dcF_take hat248]) ?_
                  exact GL.again ⟨(j + 1), A269, c270⟩ [1, 8, 9, 13, 93, 94, 95] rfl (by kernel_rfl) (by show bs.length - (j + 1) < bs.length - j; omega) ⟨by omega, H277⟩
          · skip
            have hb187f := of_decide_eq_true hb187
            refine G.yes rfl ?_
            refine G.skipK hK186 (fun _ _ h => h) ?_
            refine G.seqK fun K278 hK279 => ?_
            refine G.block ?_
            refine G.seqK fun K280 hK281 => ?_
            refine G.region ?_
            refine GL.sem (j := 1) (run_idxRd (P := Tryd.prog) (k := .i64) (t := 24) (A := A) (len := bs.length) (cap := c) (j := i) (by kernel_rfl) rfl (hx.hp H182) (by rw [by8_length]) (by first | rfl | omega | (simp only [List.length_cons, List.length_nil, List.length_drop, List.length_take, List.length_append] <;> omega))) [1, 8, 9, 10, 69, 70, 71, 73] [(1, .slice A bs.length c), (8, .int .u64 (((mpV bs) : Nat) : Int)), (9, .int .i64 (((mpE bs) : Nat) : Int)), (10, .bool dg), (69, .slice A bs.length c), (70, .int .i64 (bs.length : Int)), (71, .int .i64 (i : Int)), (73, .pointer (Option.map (fun x => Addr.add x i) A))] (by kernel_rfl) (by kernel_rfl) rfl ?_
            obtain ⟨b282, hat283⟩ : ∃ b : UInt8, bs[i]? = some b := ⟨_, List.getElem?_eq_getElem (by first | rfl | omega | (simp only [List.length_cons, List.length_nil, List.length_drop, List.length_take, List.length_append] <;> omega))⟩
            refine GL.sem (j := 2) (run_ldRd (P := Tryd.prog) (ty := 5) (A := A) (j := i) (v := .int .u8 (b282.toNat : Int)) (by kernel_rfl) (hx.hp H182) (by8_at hat283)) [1, 8, 9, 10, 69, 70, 71, 74] [(1, .slice A bs.length c), (8, .int .u64 (((mpV bs) : Nat) : Int)), (9, .int .i64 (((mpE bs) : Nat) : Int)), (10, .bool dg), (69, .slice A bs.length c), (70, .int .i64 (bs.length : Int)), (71, .int .i64 (i : Int)), (74, .int .u8 (b282.toNat : Int))] (by kernel_rfl) (by kernel_rfl) rfl ?_
            refine GL.run (j := 3) 1 [1, 8, 9, 10, 12, 69, 70, 71] [(1, .slice A bs.length c), (8, .int .u64 (((mpV bs) : Nat) : Int)), (9, .int .i64 (((mpE bs) : Nat) : Int)), (10, .bool dg), (12, .int .u8 (b282.toNat : Int)), (69, .slice A bs.length c), (70, .int .i64 (bs.length : Int)), (71, .int .i64 (i : Int))] (by kernel_rfl) rfl ?_
            refine GL.k rfl hK281 (fun _ _ h => h) ?_
            refine G.region ?_
            refine GL.run (j := 2) 2 [1, 8, 9, 12, 69, 70, 71, 76] [(1, .slice A bs.length c), (8, .int .u64 (((mpV bs) : Nat) : Int)), (9, .int .i64 (((mpE bs) : Nat) : Int)), (12, .int .u8 (b282.toNat : Int)), (69, .slice A bs.length c), (70, .int .i64 (bs.length : Int)), (71, .int .i64 (i : Int)), (76, .bool dg)] (by kernel_rfl) rfl ?_
            rcases (Bool.eq_false_or_eq_true dg).symm with hb284 | hb284
            · skip
              refine GL.eq (M' := [(1, .slice A bs.length c), (8, .int .u64 (((mpV bs) : Nat) : Int)), (9, .int .i64 (((mpE bs) : Nat) : Int)), (12, .int .u8 (b282.toNat : Int)), (69, .slice A bs.length c), (70, .int .i64 (bs.length : Int)), (71, .int .i64 (i : Int)), (76, .bool false)]) (by first | (rw [hb284]; done) | (rw [hb284]; rfl)) ?_
              refine GL.run (j := 10) 8 [1, 8, 9, 10, 69, 70, 71] [(1, .slice A bs.length c), (8, .int .u64 (((mpV bs) : Nat) : Int)), (9, .int .i64 (((mpE bs) : Nat) : Int)), (10, .bool false), (69, .slice A bs.length c), (70, .int .i64 (bs.length : Int)), (71, .int .i64 (i : Int))] (by kernel_rfl) rfl ?_
              refine GL.k rfl hK279 (fun _ _ h => h) ?_
              refine G.region ?_
              refine GL.run (j := 2) 2 [1, 8, 9, 10, 69, 70, 71] [(1, .slice A bs.length c), (8, .int .u64 (((mpV bs) : Nat) : Int)), (9, .int .i64 (((mpE bs) : Nat) : Int)), (10, .bool false), (69, .slice A bs.length c), (70, .int .i64 (bs.length : Int)), (71, .int .i64 (IntKind.i64.wrap ((i : Int) + 1)))] (by kernel_rfl) rfl ?_
              have e285 : (IntKind.i64.wrap ((i : Int) + 1)) = ((i + 1 : Nat) : Int) := by rw [in_i64 (by omega)]; omega
              refine GL.eq (M' := [(1, .slice A bs.length c), (8, .int .u64 (((mpV bs) : Nat) : Int)), (9, .int .i64 (((mpE bs) : Nat) : Int)), (10, .bool false), (69, .slice A bs.length c), (70, .int .i64 (bs.length : Int)), (71, .int .i64 ((i + 1 : Nat) : Int))]) (by rw [e285]) ?_
              clear e285
              refine GL.fit (ts := [1, 8, 9, 10, 69, 70, 71]) (M' := [(1, .slice A bs.length c), (8, .int .u64 (((mpV bs) : Nat) : Int)), (9, .int .i64 (((mpE bs) : Nat) : Int)), (10, .bool false), (69, .slice A bs.length c), (70, .int .i64 (bs.length : Int)), (71, .int .i64 ((i + 1 : Nat) : Int))]) (by kernel_rfl) ?_
              refine GL.eq (M' := [(1, .slice A bs.length c), (8, .int .u64 (((mpV bs) : Nat) : Int)), (9, .int .i64 (((mpE bs) : Nat) : Int)), (10, .bool false), (69, .slice A bs.length c), (70, .int .i64 (bs.length : Int)), (71, .int .i64 (((i + 1) : Nat) : Int))]) (by rfl) ?_
              exact GL.again ⟨(i + 1), false⟩ [1, 8, 9, 10, 69, 70, 71] rfl (by kernel_rfl) (by show bs.length - (i + 1) < bs.length - i; omega) ⟨⟨by omega, ⟨fun h_ => (by cases h_), fun h_ => absurd (hdg.2 ((dgF_step hat283).1 h_).1) (by rw [hb284]; decide)⟩⟩, H182⟩
            · skip
              refine GL.eq (M' := [(1, .slice A bs.length c), (8, .int .u64 (((mpV bs) : Nat) : Int)), (9, .int .i64 (((mpE bs) : Nat) : Int)), (12, .int .u8 (b282.toNat : Int)), (69, .slice A bs.length c), (70, .int .i64 (bs.length : Int)), (71, .int .i64 (i : Int)), (76, .bool true)]) (by first | (rw [hb284]; done) | (rw [hb284]; rfl)) ?_
              refine GL.run (j := 6) 4 [1, 8, 9, 12, 69, 70, 71, 80] [(1, .slice A bs.length c), (8, .int .u64 (((mpV bs) : Nat) : Int)), (9, .int .i64 (((mpE bs) : Nat) : Int)), (12, .int .u8 (b282.toNat : Int)), (69, .slice A bs.length c), (70, .int .i64 (bs.length : Int)), (71, .int .i64 (i : Int)), (80, .bool (decide (48 ≤ (b282.toNat : Int))))] (by kernel_rfl) rfl ?_
              cases hb286 : (decide (48 ≤ (b282.toNat : Int)))
              · skip
                have hb286f := of_decide_eq_false hb286
                refine GL.run (j := 10) 4 [1, 8, 9, 10, 69, 70, 71] [(1, .slice A bs.length c), (8, .int .u64 (((mpV bs) : Nat) : Int)), (9, .int .i64 (((mpE bs) : Nat) : Int)), (10, .bool false), (69, .slice A bs.length c), (70, .int .i64 (bs.length : Int)), (71, .int .i64 (i : Int))] (by kernel_rfl) rfl ?_
                refine GL.k rfl hK279 (fun _ _ h => h) ?_
                refine G.region ?_
                refine GL.run (j := 2) 2 [1, 8, 9, 10, 69, 70, 71] [(1, .slice A bs.length c), (8, .int .u64 (((mpV bs) : Nat) : Int)), (9, .int .i64 (((mpE bs) : Nat) : Int)), (10, .bool false), (69, .slice A bs.length c), (70, .int .i64 (bs.length : Int)), (71, .int .i64 (IntKind.i64.wrap ((i : Int) + 1)))] (by kernel_rfl) rfl ?_
                have e287 : (IntKind.i64.wrap ((i : Int) + 1)) = ((i + 1 : Nat) : Int) := by rw [in_i64 (by omega)]; omega
                refine GL.eq (M' := [(1, .slice A bs.length c), (8, .int .u64 (((mpV bs) : Nat) : Int)), (9, .int .i64 (((mpE bs) : Nat) : Int)), (10, .bool false), (69, .slice A bs.length c), (70, .int .i64 (bs.length : Int)), (71, .int .i64 ((i + 1 : Nat) : Int))]) (by rw [e287]) ?_
                clear e287
                refine GL.fit (ts := [1, 8, 9, 10, 69, 70, 71]) (M' := [(1, .slice A bs.length c), (8, .int .u64 (((mpV bs) : Nat) : Int)), (9, .int .i64 (((mpE bs) : Nat) : Int)), (10, .bool false), (69, .slice A bs.length c), (70, .int .i64 (bs.length : Int)), (71, .int .i64 ((i + 1 : Nat) : Int))]) (by kernel_rfl) ?_
                refine GL.eq (M' := [(1, .slice A bs.length c), (8, .int .u64 (((mpV bs) : Nat) : Int)), (9, .int .i64 (((mpE bs) : Nat) : Int)), (10, .bool false), (69, .slice A bs.length c), (70, .int .i64 (bs.length : Int)), (71, .int .i64 (((i + 1) : Nat) : Int))]) (by rfl) ?_
                exact GL.again ⟨(i + 1), false⟩ [1, 8, 9, 10, 69, 70, 71] rfl (by kernel_rfl) (by show bs.length - (i + 1) < bs.length - i; omega) ⟨⟨by omega, ⟨fun h_ => (by cases h_), fun h_ => absurd (show 48 ≤ b282.toNat ∧ b282.toNat ≤ 57 from ((dgF_step hat283).1 h_).2) (by omega)⟩⟩, H182⟩
              · skip
                have hb286f := of_decide_eq_true hb286
                refine GL.run (j := 10) 4 [1, 8, 9, 10, 69, 70, 71] [(1, .slice A bs.length c), (8, .int .u64 (((mpV bs) : Nat) : Int)), (9, .int .i64 (((mpE bs) : Nat) : Int)), (10, .bool (decide ((b282.toNat : Int) ≤ 57))), (69, .slice A bs.length c), (70, .int .i64 (bs.length : Int)), (71, .int .i64 (i : Int))] (by kernel_rfl) rfl ?_
                refine GL.k rfl hK279 (fun _ _ h => h) ?_
                refine G.region ?_
                refine GL.run (j := 2) 2 [1, 8, 9, 10, 69, 70, 71] [(1, .slice A bs.length c), (8, .int .u64 (((mpV bs) : Nat) : Int)), (9, .int .i64 (((mpE bs) : Nat) : Int)), (10, .bool (decide ((b282.toNat : Int) ≤ 57))), (69, .slice A bs.length c), (70, .int .i64 (bs.length : Int)), (71, .int .i64 (IntKind.i64.wrap ((i : Int) + 1)))] (by kernel_rfl) rfl ?_
                have e288 : (IntKind.i64.wrap ((i : Int) + 1)) = ((i + 1 : Nat) : Int) := by rw [in_i64 (by omega)]; omega
                refine GL.eq (M' := [(1, .slice A bs.length c), (8, .int .u64 (((mpV bs) : Nat) : Int)), (9, .int .i64 (((mpE bs) : Nat) : Int)), (10, .bool (decide ((b282.toNat : Int) ≤ 57))), (69, .slice A bs.length c), (70, .int .i64 (bs.length : Int)), (71, .int .i64 ((i + 1 : Nat) : Int))]) (by rw [e288]) ?_
                clear e288
                refine GL.fit (ts := [1, 8, 9, 10, 69, 70, 71]) (M' := [(1, .slice A bs.length c), (8, .int .u64 (((mpV bs) : Nat) : Int)), (9, .int .i64 (((mpE bs) : Nat) : Int)), (10, .bool (decide ((b282.toNat : Int) ≤ 57))), (69, .slice A bs.length c), (70, .int .i64 (bs.length : Int)), (71, .int .i64 ((i + 1 : Nat) : Int))]) (by kernel_rfl) ?_
                refine GL.eq (M' := [(1, .slice A bs.length c), (8, .int .u64 (((mpV bs) : Nat) : Int)), (9, .int .i64 (((mpE bs) : Nat) : Int)), (10, .bool (decide ((b282.toNat : Int) ≤ 57))), (69, .slice A bs.length c), (70, .int .i64 (bs.length : Int)), (71, .int .i64 (((i + 1) : Nat) : Int))]) (by rfl) ?_
                exact GL.again ⟨(i + 1), (decide ((b282.toNat : Int) ≤ 57))⟩ [1, 8, 9, 10, 69, 70, 71] rfl (by kernel_rfl) (by show bs.length - (i + 1) < bs.length - i; omega) ⟨⟨by omega, ⟨fun h_ => (dgF_step hat283).2 ⟨hdg.1 hb284, (show 48 ≤ b282.toNat ∧ b282.toNat ≤ 57 from ⟨by omega, by have q_ := of_decide_eq_true h_; omega⟩)⟩, fun h_ => decide_eq_true (by have q_ : 48 ≤ b282.toNat ∧ b282.toNat ≤ 57 := ((dgF_step hat283).1 h_).2; omega)⟩⟩, H182⟩
    · skip
      have hb27f := of_decide_eq_true hb27
      refine GL.run (j := 7) 4 [0, 1, 6, 7, 37] [(0, .int .u64 (a : Int)), (1, .slice A bs.length c), (6, .int .u64 (((mpV (Lib.decDigits a)) : Nat) : Int)), (7, .int .i64 (((mpE (Lib.decDigits a)) : Nat) : Int)), (37, .bool ((((mpE (Lib.decDigits a)) : Nat) : Int) != 4))] (by kernel_rfl) rfl ?_
      have hb289 : ((((mpE (Lib.decDigits a)) : Nat) : Int) != 4) = false := by rw [mpE_dd, if_neg (by omega)]; rfl
      rw [hb289]
      refine GL.run (j := 10) 3 [0, 1, 6, 7, 37, 40] [(0, .int .u64 (a : Int)), (1, .slice A bs.length c), (6, .int .u64 (((mpV (Lib.decDigits a)) : Nat) : Int)), (7, .int .i64 (((mpE (Lib.decDigits a)) : Nat) : Int)), (37, .bool false), (40, .bool (decide ((a : Int) ≤ 4611686018427387904)))] (by kernel_rfl) rfl ?_
      cases hb290 : (decide ((a : Int) ≤ 4611686018427387904))
      · skip
        have hb290f := of_decide_eq_false hb290
        refine GL.run (j := 19) 9 [1, 49] [(1, .slice A bs.length c), (49, .bool false)] (by kernel_rfl) rfl ?_
        refine GL.k rfl hK26 (fun _ _ h => h) ?_
        refine G.no rfl ?_
        refine G.skipK hK24 (fun _ _ h => h) ?_
        refine G.seqK fun K291 hK292 => ?_
        refine G.region ?_
        refine GL.run (j := 1) 1 [1, 51] [(1, .slice A bs.length c), (51, .slice A bs.length c)] (by kernel_rfl) rfl ?_
        refine GL.call (j := 2) (Parse_calls bs (by omega) tp pv A c w20 (H21.oldCell hv) (hx.hp H21)) (by kernel_rfl) rfl (fun e_ w293 hR => ?_)
        obtain ⟨rfl, H295⟩ := hR
        have H294 : Hp w [] [.row A13 ((Lib.decDigits a).length) c14 5 1 (by8 (Lib.decDigits a))] w293 := H21.callNil H295
        refine ⟨_, rfl, [1, 52], [(1, .slice A bs.length c), (52, .tuple #[.int .u64 (((mpV bs) : Nat) : Int), .int .i64 (((mpE bs) : Nat) : Int)])], by kernel_rfl, ?_⟩
        refine GL.run (j := 7) 5 [1, 8, 9] [(1, .slice A bs.length c), (8, .int .u64 (((mpV bs) : Nat) : Int)), (9, .int .i64 (((mpE bs) : Nat) : Int))] (by kernel_rfl) rfl ?_
        refine GL.k rfl hK292 (fun _ _ h => h) ?_
        refine G.seqJ (X := Bool) (fun dg0 => [(1, .slice A bs.length c), (8, .int .u64 (((mpV bs) : Nat) : Int)), (9, .int .i64 (((mpE bs) : Nat) : Int)), (10, .bool dg0)]) (fun dg0 w_ => ((dg0 = true) ↔ dgF bs 0) ∧ Hp w [] [.row A13 ((Lib.decDigits a).length) c14 5 1 (by8 (Lib.decDigits a))] w_) (fun J296 K297 hK298 => ?_) ?_
        · skip
          refine G.region ?_
          refine GL.run (j := 4) 4 [1, 8, 9, 58] [(1, .slice A bs.length c), (8, .int .u64 (((mpV bs) : Nat) : Int)), (9, .int .i64 (((mpE bs) : Nat) : Int)), (58, .bool (decide (0 < (bs.length : Int))))] (by kernel_rfl) rfl ?_
          cases hb299 : (decide (0 < (bs.length : Int)))
          · skip
            have hb299f := of_decide_eq_false hb299
            refine GL.run (j := 15) 11 [1, 8, 9, 10] [(1, .slice A bs.length c), (8, .int .u64 (((mpV bs) : Nat) : Int)), (9, .int .i64 (((mpE bs) : Nat) : Int)), (10, .bool false)] (by kernel_rfl) rfl ?_
            refine GL.k rfl hK298 (fun _ _ h => h) ?_
            refine G.fit [1, 8, 9, 10] (M' := [(1, .slice A bs.length c), (8, .int .u64 (((mpV bs) : Nat) : Int)), (9, .int .i64 (((mpE bs) : Nat) : Int)), (10, .bool false)]) (by kernel_rfl) ?_
            exact J296 false _ ⟨dgF_none (by omega), H294⟩
          · skip
            have hb299f := of_decide_eq_true hb299
            refine GL.run (j := 8) 4 [1, 8, 9, 58, 62] [(1, .slice A bs.length c), (8, .int .u64 (((mpV bs) : Nat) : Int)), (9, .int .i64 (((mpE bs) : Nat) : Int)), (58, .bool true), (62, .bool ((bs.length : Int) == 1))] (by kernel_rfl) rfl ?_
            cases hb300 : ((bs.length : Int) == 1)
            · skip
              have hb300f := ne_of_beq_false hb300
              refine GL.run (j := 9) 1 [1, 8, 9, 58, 62, 63] [(1, .slice A bs.length c), (8, .int .u64 (((mpV bs) : Nat) : Int)), (9, .int .i64 (((mpE bs) : Nat) : Int)), (58, .bool true), (62, .bool false), (63, .slice A bs.length c)] (by kernel_rfl) rfl ?_
              refine GL.sem (j := 10) (run_idxRd (P := Tryd.prog) (k := .i64) (t := 24) (A := A) (len := bs.length) (cap := c) (j := 0) (by kernel_rfl) rfl (hx.hp H294) (by rw [by8_length]) (by first | rfl | omega | (simp only [List.length_cons, List.length_nil, List.length_drop, List.length_take, List.length_append] <;> omega))) [1, 8, 9, 58, 62, 64] [(1, .slice A bs.length c), (8, .int .u64 (((mpV bs) : Nat) : Int)), (9, .int .i64 (((mpE bs) : Nat) : Int)), (58, .bool true), (62, .bool false), (64, .pointer (Option.map (fun x => Addr.add x 0) A))] (by kernel_rfl) (by kernel_rfl) rfl ?_
              obtain ⟨b301, hat302⟩ : ∃ b : UInt8, bs[0]? = some b := ⟨_, List.getElem?_eq_getElem (by first | rfl | omega | (simp only [List.length_cons, List.length_nil, List.length_drop, List.length_take, List.length_append] <;> omega))⟩
              refine GL.sem (j := 11) (run_ldRd (P := Tryd.prog) (ty := 5) (A := A) (j := 0) (v := .int .u8 (b301.toNat : Int)) (by kernel_rfl) (hx.hp H294) (by8_at hat302)) [1, 8, 9, 58, 62, 65] [(1, .slice A bs.length c), (8, .int .u64 (((mpV bs) : Nat) : Int)), (9, .int .i64 (((mpE bs) : Nat) : Int)), (58, .bool true), (62, .bool false), (65, .int .u8 (b301.toNat : Int))] (by kernel_rfl) (by kernel_rfl) rfl ?_
              refine GL.run (j := 15) 4 [1, 8, 9, 10] [(1, .slice A bs.length c), (8, .int .u64 (((mpV bs) : Nat) : Int)), (9, .int .i64 (((mpE bs) : Nat) : Int)), (10, .bool ((b301.toNat : Int) != 48))] (by kernel_rfl) rfl ?_
              refine GL.k rfl hK298 (fun _ _ h => h) ?_
              refine G.fit [1, 8, 9, 10] (M' := [(1, .slice A bs.length c), (8, .int .u64 (((mpV bs) : Nat) : Int)), (9, .int .i64 (((mpE bs) : Nat) : Int)), (10, .bool ((b301.toNat : Int) != 48))]) (by kernel_rfl) ?_
              exact J296 ((b301.toNat : Int) != 48) _ ⟨dgF_more (by omega) (by omega) hat302, H294⟩
            · skip
              have hb300f := eq_of_beq hb300
              refine GL.run (j := 15) 7 [1, 8, 9, 10] [(1, .slice A bs.length c), (8, .int .u64 (((mpV bs) : Nat) : Int)), (9, .int .i64 (((mpE bs) : Nat) : Int)), (10, .bool true)] (by kernel_rfl) rfl ?_
              refine GL.k rfl hK298 (fun _ _ h => h) ?_
              refine G.fit [1, 8, 9, 10] (M' := [(1, .slice A bs.length c), (8, .int .u64 (((mpV bs) : Nat) : Int)), (9, .int .i64 (((mpE bs) : Nat) : Int)), (10, .bool true)]) (by kernel_rfl) ?_
              exact J296 true _ ⟨dgF_one (by omega), H294⟩
        · skip
          rintro dg0 w303 ⟨hi304, H305⟩
          refine G.eq (M' := [(1, .slice A bs.length c), (8, .int .u64 (((mpV bs) : Nat) : Int)), (9, .int .i64 (((mpE bs) : Nat) : Int)), (10, .bool dg0)]) rfl ?_
          have H305 : Hp w [] [.row A13 ((Lib.decDigits a).length) c14 5 1 (by8 (Lib.decDigits a))] w303 := H305
          have hdg0 := hi304
          refine G.seqK fun K306 hK307 => ?_
          refine G.seqK fun K308 hK309 => ?_
          refine G.region ?_
          refine GL.run (j := 3) 3 [1, 8, 9, 10, 69, 70, 71] [(1, .slice A bs.length c), (8, .int .u64 (((mpV bs) : Nat) : Int)), (9, .int .i64 (((mpE bs) : Nat) : Int)), (10, .bool dg0), (69, .slice A bs.length c), (70, .int .i64 (bs.length : Int)), (71, .int .i64 0)] (by kernel_rfl) rfl ?_
          refine GL.k rfl hK309 (fun _ _ h => h) ?_
          refine G.block ?_
          have H310 : Hp w [] [] w303 := H305.sub (List.Sublist.cons _ (List.Sublist.slnil))
          refine G.fit [1, 8, 9, 10, 69, 70, 71] (M' := [(1, .slice A bs.length c), (8, .int .u64 (((mpV bs) : Nat) : Int)), (9, .int .i64 (((mpE bs) : Nat) : Int)), (10, .bool dg0), (69, .slice A bs.length c), (70, .int .i64 (bs.length : Int)), (71, .int .i64 0)]) (by kernel_rfl) ?_
          refine G.loop (X := Nat × Bool) (fun ⟨i, dg⟩ => [(1, .slice A bs.length c), (8, .int .u64 (((mpV bs) : Nat) : Int)), (9, .int .i64 (((mpE bs) : Nat) : Int)), (10, .bool dg), (69, .slice A bs.length c), (70, .int .i64 (bs.length : Int)), (71, .int .i64 (i : Int))]) (fun ⟨i, dg⟩ w_ => (i ≤ bs.length ∧ (dg = true ↔ dgF bs i)) ∧ Hp w [] [] w_) (fun ⟨i, dg⟩ => bs.length - i) ⟨0, dg0⟩ [1, 8, 9, 10, 69, 70, 71] (by kernel_rfl) ⟨⟨Nat.zero_le _, hdg0⟩, H310⟩ ?_
          rintro ⟨i, dg⟩ w311 ⟨hi312, H313⟩
          refine G.eq (M' := [(1, .slice A bs.length c), (8, .int .u64 (((mpV bs) : Nat) : Int)), (9, .int .i64 (((mpE bs) : Nat) : Int)), (10, .bool dg), (69, .slice A bs.length c), (70, .int .i64 (bs.length : Int)), (71, .int .i64 (i : Int))]) rfl ?_
          have H313 : Hp w [] [] w311 := H313
          obtain ⟨hi9, hdg⟩ := hi312
          refine G.seqK fun K314 hK315 => ?_
          refine G.region ?_
          refine GL.run (j := 1) 1 [1, 8, 9, 10, 69, 70, 71, 72] [(1, .slice A bs.length c), (8, .int .u64 (((mpV bs) : Nat) : Int)), (9, .int .i64 (((mpE bs) : Nat) : Int)), (10, .bool dg), (69, .slice A bs.length c), (70, .int .i64 (bs.length : Int)), (71, .int .i64 (i : Int)), (72, .bool (decide ((i : Int) < (bs.length : Int))))] (by kernel_rfl) rfl ?_
          refine GL.k rfl hK315 (fun _ _ h => h) ?_
          refine G.seqK fun K316 hK317 => ?_
          cases hb318 : (decide ((i : Int) < (bs.length : Int)))
          · skip
            have hb318f := of_decide_eq_false hb318
            refine G.no rfl ?_
            refine G.exitK hK307 (fun _ _ h => h) ?_
            refine G.seqK fun K319 hK320 => ?_
            refine G.seqK fun K321 hK322 => ?_
            refine G.region ?_
            rcases (Bool.eq_false_or_eq_true dg).symm with hdv | hdv
            · skip
              have hno : ¬ dgOk bs := fun h_ => absurd (hdg.2 ((dgF_all (by omega)).2 h_)) (by rw [hdv]; decide)
              subst hdv
              refine GL.eq (M' := [(1, .slice A bs.length c), (8, .int .u64 (((mpV bs) : Nat) : Int)), (9, .int .i64 (((mpE bs) : Nat) : Int)), (10, .bool false), (69, .slice A bs.length c), (70, .int .i64 (bs.length : Int)), (71, .int .i64 (i : Int)), (72, .bool false)]) rfl ?_
              refine GL.run (j := 2) 2 [1, 8, 9, 86] [(1, .slice A bs.length c), (8, .int .u64 (((mpV bs) : Nat) : Int)), (9, .int .i64 (((mpE bs) : Nat) : Int)), (86, .bool true)] (by kernel_rfl) rfl ?_
              refine GL.k rfl hK322 (fun _ _ h => h) ?_
              refine G.yes rfl ?_
              refine G.seqK fun K323 hK324 => ?_
              refine G.region ?_
              refine GL.run (j := 3) 3 [8, 89] [(8, .int .u64 (((mpV bs) : Nat) : Int)), (89, .bool ((((mpE bs) : Nat) : Int) == 2))] (by kernel_rfl) rfl ?_
              have hb325 : ((((mpE bs) : Nat) : Int) == 2) = true := by rw [mpE, if_neg hno]; rfl
              rw [hb325]
              refine GL.run (j := 7) 4 [4] [(4, .bool ((((mpV bs) : Nat) : Int) == 0))] (by kernel_rfl) rfl ?_
              refine GL.k rfl hK324 (fun _ _ h => h) ?_
              refine G.ret ?_
              intro F_ hF_ hM_
              refine hRet _ _ (bodyPost_1 rfl (RV.tmp rfl) ?_ F_ hF_ hM_)
              have hb326 : ((((mpV bs) : Nat) : Int) == 0) = true := by first | (rw [mpV, if_neg hno]; rfl) | (rw [mpV, if_pos hok, if_neg (by omega)]; rfl)
              rw [hb326]
              exact ⟨rfl, H313.sub (List.nil_sublist _)⟩
            · skip
              have hok : dgOk bs := (dgF_all (by omega)).1 (hdg.1 hdv)
              subst hdv
              refine GL.eq (M' := [(1, .slice A bs.length c), (8, .int .u64 (((mpV bs) : Nat) : Int)), (9, .int .i64 (((mpE bs) : Nat) : Int)), (10, .bool true), (69, .slice A bs.length c), (70, .int .i64 (bs.length : Int)), (71, .int .i64 (i : Int)), (72, .bool false)]) rfl ?_
              refine GL.run (j := 2) 2 [1, 8, 9, 86] [(1, .slice A bs.length c), (8, .int .u64 (((mpV bs) : Nat) : Int)), (9, .int .i64 (((mpE bs) : Nat) : Int)), (86, .bool false)] (by kernel_rfl) rfl ?_
              refine GL.k rfl hK322 (fun _ _ h => h) ?_
              refine G.no rfl ?_
              refine G.skipK hK320 (fun _ _ h => h) ?_
              refine G.seqK fun K327 hK328 => ?_
              refine G.region ?_
              refine GL.run (j := 1) 1 [1, 8, 9, 13] [(1, .slice A bs.length c), (8, .int .u64 (((mpV bs) : Nat) : Int)), (9, .int .i64 (((mpE bs) : Nat) : Int)), (13, .slice none 0 0)] (by kernel_rfl) rfl ?_
              refine GL.k rfl hK328 (fun _ _ h => h) ?_
              refine G.seqK fun K329 hK330 => ?_
              refine G.seqK fun K331 hK332 => ?_
              refine G.region ?_
              refine GL.run (j := 3) 3 [1, 8, 9, 13, 93, 94, 95] [(1, .slice A bs.length c), (8, .int .u64 (((mpV bs) : Nat) : Int)), (9, .int .i64 (((mpE bs) : Nat) : Int)), (13, .slice none 0 0), (93, .slice A bs.length c), (94, .int .i64 (bs.length : Int)), (95, .int .i64 0)] (by kernel_rfl) rfl ?_
              refine GL.k rfl hK332 (fun _ _ h => h) ?_
              refine G.block ?_
              have H333 := H313.rowNil 22 1
              refine G.fit [1, 8, 9, 13, 93, 94, 95] (M' := [(1, .slice A bs.length c), (8, .int .u64 (((mpV bs) : Nat) : Int)), (9, .int .i64 (((mpE bs) : Nat) : Int)), (13, .slice none 0 0), (93, .slice A bs.length c), (94, .int .i64 (bs.length : Int)), (95, .int .i64 0)]) (by kernel_rfl) ?_
              refine G.eq (M' := [(1, .slice A bs.length c), (8, .int .u64 (((mpV bs) : Nat) : Int)), (9, .int .i64 (((mpE bs) : Nat) : Int)), (13, .slice none (ndg (dcF 0 (bs.take 0))) 0), (93, .slice A bs.length c), (94, .int .i64 (bs.length : Int)), (95, .int .i64 0)]) (by rfl) ?_
              refine G.loop (X := Nat × Option Addr × Nat) (fun ⟨j, nA, nc⟩ => [(1, .slice A bs.length c), (8, .int .u64 (((mpV bs) : Nat) : Int)), (9, .int .i64 (((mpE bs) : Nat) : Int)), (13, .slice nA (ndg (dcF 0 (bs.take j))) nc), (93, .slice A bs.length c), (94, .int .i64 (bs.length : Int)), (95, .int .i64 (j : Int))]) (fun ⟨j, nA, nc⟩ w_ => (j ≤ bs.length) ∧ Hp w [] [.row nA (ndg (dcF 0 (bs.take j))) nc 22 1 (dg (digs (dcF 0 (bs.take j))))] w_) (fun ⟨j, nA, nc⟩ => bs.length - j) ⟨0, none, 0⟩ [1, 8, 9, 13, 93, 94, 95] (by kernel_rfl) ⟨Nat.zero_le _, H333⟩ ?_
              rintro ⟨j, nA, nc⟩ w334 ⟨hi335, H336⟩
              refine G.eq (M' := [(1, .slice A bs.length c), (8, .int .u64 (((mpV bs) : Nat) : Int)), (9, .int .i64 (((mpE bs) : Nat) : Int)), (13, .slice nA (ndg (dcF 0 (bs.take j))) nc), (93, .slice A bs.length c), (94, .int .i64 (bs.length : Int)), (95, .int .i64 (j : Int))]) rfl ?_
              have H336 : Hp w [] [.row nA (ndg (dcF 0 (bs.take j))) nc 22 1 (dg (digs (dcF 0 (bs.take j))))] w334 := H336
              have hj9 : j ≤ bs.length := hi335
              have hN13 : ndg (dcF 0 (bs.take j)) ≤ 13 := ndg_le.2 (Nat.lt_of_lt_of_le (dcF_lt60 (l := bs.take j) (fun x hx => hok.2.2 x (List.mem_of_mem_take hx)) (by rw [List.length_take]; omega)) (by decide))
              refine G.seqK fun K337 hK338 => ?_
              refine G.region ?_
              refine GL.run (j := 1) 1 [1, 8, 9, 13, 93, 94, 95, 96] [(1, .slice A bs.length c), (8, .int .u64 (((mpV bs) : Nat) : Int)), (9, .int .i64 (((mpE bs) : Nat) : Int)), (13, .slice nA (ndg (dcF 0 (bs.take j))) nc), (93, .slice A bs.length c), (94, .int .i64 (bs.length : Int)), (95, .int .i64 (j : Int)), (96, .bool (decide ((j : Int) < (bs.length : Int))))] (by kernel_rfl) rfl ?_
              refine GL.k rfl hK338 (fun _ _ h => h) ?_
              refine G.seqK fun K339 hK340 => ?_
              cases hb341 : (decide ((j : Int) < (bs.length : Int)))
              · skip
                have hb341f := of_decide_eq_false hb341
                refine G.no rfl ?_
                refine G.exitK hK330 (fun _ _ h => h) ?_
                refine G.seqK fun K342 hK343 => ?_
                refine G.seqK fun K344 hK345 => ?_
                refine G.region ?_
                refine GL.run (j := 2) 2 [1, 8, 9, 109, 110] [(1, .slice A bs.length c), (8, .int .u64 (((mpV bs) : Nat) : Int)), (9, .int .i64 (((mpE bs) : Nat) : Int)), (109, .slice nA (ndg (dcF 0 (bs.take j))) nc), (110, .agg #[.int .u64 4611686018427387904, .int .u64 0, .int .u64 0, .int .u64 0])] (by kernel_rfl) rfl ?_
                have hN351 : ndg 4611686018427387904 ≤ 4 := ndg_K (by decide)
                refine GL.call (j := 3) (Of_calls_n 4611686018427387904 (by decide) w334) (by kernel_rfl) rfl (fun e_ w350 hR => ?_)
                obtain ⟨A346, c347, rfl, H349⟩ := hR
                have H348 : Hp w [] [.row nA (ndg (dcF 0 (bs.take j))) nc 22 1 (dg (digs (dcF 0 (bs.take j)))), .row A346 (ndg 4611686018427387904) c347 22 1 (dg (digs 4611686018427387904))] w350 := H336.callNew H349
                refine ⟨_, rfl, [1, 8, 9, 109, 111], [(1, .slice A bs.length c), (8, .int .u64 (((mpV bs) : Nat) : Int)), (9, .int .i64 (((mpE bs) : Nat) : Int)), (109, .slice nA (ndg (dcF 0 (bs.take j))) nc), (111, .slice A346 (ndg 4611686018427387904) c347)], by kernel_rfl, ?_⟩
                refine GL.call (j := 4) (CmpN_calls (dcF 0 (bs.take j)) 4611686018427387904 nA A346 nc c347 w350 (H348.rdRow 0 rfl) (H348.rdRow 1 rfl) (Nat.le_trans hN13 (by decide)) (Nat.le_trans hN351 (by decide))) (by kernel_rfl) rfl (fun e_ w352 hR => ?_)
                obtain ⟨rfl, H354⟩ := hR
                have H353 : Hp w [] [.row nA (ndg (dcF 0 (bs.take j))) nc 22 1 (dg (digs (dcF 0 (bs.take j)))), .row A346 (ndg 4611686018427387904) c347 22 1 (dg (digs 4611686018427387904))] w352 := H348.callNil H354
                refine ⟨_, rfl, [1, 8, 9, 112], [(1, .slice A bs.length c), (8, .int .u64 (((mpV bs) : Nat) : Int)), (9, .int .i64 (((mpE bs) : Nat) : Int)), (112, .int .i64 (cmpN (dcF 0 (bs.take j)) 4611686018427387904))], by kernel_rfl, ?_⟩
                refine GL.run (j := 5) 1 [1, 8, 9, 113] [(1, .slice A bs.length c), (8, .int .u64 (((mpV bs) : Nat) : Int)), (9, .int .i64 (((mpE bs) : Nat) : Int)), (113, .bool (decide (0 < (cmpN (dcF 0 (bs.take j)) 4611686018427387904))))] (by kernel_rfl) rfl ?_
                refine GL.k rfl hK345 (fun _ _ h => h) ?_
                cases hb355 : (decide (0 < (cmpN (dcF 0 (bs.take j)) 4611686018427387904)))
                · skip
                  have hb355f := of_decide_eq_false hb355
                  have hcm : ¬ (4611686018427387904 < dcF 0 (bs.take j)) := fun h_ => of_decide_eq_false hb355 (cmpN_pos.2 h_)
                  rw [List.take_of_length_le (show bs.length ≤ j by omega)] at hcm
                  refine G.no rfl ?_
                  refine G.skipK hK343 (fun _ _ h => h) ?_
                  refine G.seqK fun K356 hK357 => ?_
                  refine G.heldP (Hp w [] [.row nA (ndg (dcF 0 (bs.take j))) nc 22 1 (dg (digs (dcF 0 (bs.take j)))), .row A346 (ndg 4611686018427387904) c347 22 1 (dg (digs 4611686018427387904))]) (by kernel_rfl) (by kernel_rfl) (fun c_ a_ d_ v_ w_ h_ => hPan c_ a_ d_ v_ w_ h_) ?_
                  have H358 := H353.drew
                  generalize ({ w352 with drawn := w352.drawn + 1 } : World) = w359 at H358 ⊢
                  have hS360 : Hp w [] [.row nA (ndg (dcF 0 (bs.take j))) nc 22 1 (dg (digs (dcF 0 (bs.take j)))), .row A346 (ndg 4611686018427387904) c347 22 1 (dg (digs 4611686018427387904))] w359 := H358.sub (List.Sublist.cons_cons _ (List.Sublist.cons_cons _ (List.Sublist.slnil)))
                  refine GP.run [0, 1, 2] [1, 8, 122] [(1, .slice A bs.length c), (8, .int .u64 (((mpV bs) : Nat) : Int)), (122, .bool ((((mpE bs) : Nat) : Int) == 0))] [0, 1, 2] (by kernel_rfl) rfl hS360 ?_
                  have hb361 : ((((mpE bs) : Nat) : Int) == 0) = true := by rw [mpE, if_pos hok, if_pos (by omega)]; rfl
                  rw [hb361]
                  refine GP.run [3, 6] [122, 123, 126] [(122, .bool true), (123, .int .u64 (((mpV bs) : Nat) : Int)), (126, .slice A bs.length c)] [0, 1, 2, 3, 6] (by kernel_rfl) rfl hS360 ?_
                  refine GP.sem 7 (fun w_ H_ => run_toStr (P := Tryd.prog) (src := 24) (dst := 9) (A := A) (bs := bs) (n := bs.length) (c := c) (by kernel_rfl) (by kernel_rfl) (hx.hp H_) (rfl)) [122, 123, 127] [(122, .bool true), (123, .int .u64 (((mpV bs) : Nat) : Int)), (127, .string (strOf bs))] (by kernel_rfl) (by kernel_rfl) (by kernel_rfl) hS360 ?_
                  refine GP.call 4 (Text_calls (mpV bs) (mpV_lt _) w359 ((Lib.tabBelow_of_tabIs hT) _ H358.below)) (by kernel_rfl) (by kernel_rfl) (fun e_ w364 hR => ?_)
                  obtain ⟨A362, c363, rfl, H366⟩ := hR
                  have H365 : Hp w [] [.row nA (ndg (dcF 0 (bs.take j))) nc 22 1 (dg (digs (dcF 0 (bs.take j)))), .row A346 (ndg 4611686018427387904) c347 22 1 (dg (digs 4611686018427387904)), .row A362 ((Lib.decDigits (mpV bs)).length) c363 5 1 (by8 (Lib.decDigits (mpV bs)))] w364 := H358.callNew H366
                  have hS367 : Hp w [] [.row nA (ndg (dcF 0 (bs.take j))) nc 22 1 (dg (digs (dcF 0 (bs.take j)))), .row A346 (ndg 4611686018427387904) c347 22 1 (dg (digs 4611686018427387904))] w364 := H365.sub (List.Sublist.cons_cons _ (List.Sublist.cons_cons _ (List.Sublist.cons _ (List.Sublist.slnil))))
                  refine ⟨_, rfl, hS367, [122, 124, 127], [(122, .bool true), (124, .slice A362 ((Lib.decDigits (mpV bs)).length) c363), (127, .string (strOf bs))], by kernel_rfl, ?_⟩
                  refine GP.weak (Hp w [] [.row nA (ndg (dcF 0 (bs.take j))) nc 22 1 (dg (digs (dcF 0 (bs.take j)))), .row A346 (ndg 4611686018427387904) c347 22 1 (dg (digs 4611686018427387904)), .row A362 ((Lib.decDigits (mpV bs)).length) c363 5 1 (by8 (Lib.decDigits (mpV bs)))]) (fun w_ h_ => h_.sub (List.Sublist.cons_cons _ (List.Sublist.cons_cons _ (List.Sublist.cons _ (List.Sublist.slnil))))) ?_
                  have hS368 : Hp w [] [.row nA (ndg (dcF 0 (bs.take j))) nc 22 1 (dg (digs (dcF 0 (bs.take j)))), .row A346 (ndg 4611686018427387904) c347 22 1 (dg (digs 4611686018427387904)), .row A362 ((Lib.decDigits (mpV bs)).length) c363 5 1 (by8 (Lib.decDigits (mpV bs)))] w364 := H365.sub (List.Sublist.cons_cons _ (List.Sublist.cons_cons _ (List.Sublist.cons_cons _ (List.Sublist.slnil))))
                  refine GP.sem 5 (fun w_ H_ => run_toStr (P := Tryd.prog) (src := 24) (dst := 9) (A := A362) (bs := (Lib.decDigits (mpV bs))) (n := (Lib.decDigits (mpV bs)).length) (c := c363) (by kernel_rfl) (by kernel_rfl) (H_.rdRow 2 rfl) (rfl)) [122, 125, 127] [(122, .bool true), (125, .string (strOf (Lib.decDigits (mpV bs)))), (127, .string (strOf bs))] (by kernel_rfl) (by kernel_rfl) (by kernel_rfl) hS368 ?_
                  refine GP.sem 8 (fun w_ H_ => run_str_eql (P := Tryd.prog) (t := 9) (Lib.decDigits (mpV bs)) bs _) [122, 128] [(122, .bool true), (128, .bool ((Lib.decDigits (mpV bs)) == bs))] (by kernel_rfl) (by kernel_rfl) (by kernel_rfl) hS368 ?_
                  refine GP.run [9, 10] [4] [(4, .bool ((Lib.decDigits (mpV bs)) == bs))] [0, 1, 2, 3, 6, 7, 4, 5, 8, 9, 10] (by kernel_rfl) rfl hS368 ?_
                  refine GP.k (by kernel_rfl) hK357 (fun _ _ h => h) ?_
                  refine G.ret ?_
                  intro F_ hF_ hM_
                  refine hRet _ _ (bodyPost_1 rfl (RV.tmp rfl) ?_ F_ hF_ hM_)
                  have hb369 : ((Lib.decDigits (mpV bs)) == bs) = true := by rw [mpV, if_pos hok, if_pos (by omega), dd_back' hok]; exact beq_self_eq_true _
                  rw [hb369]
                  exact ⟨rfl, H365.sub (List.nil_sublist _)⟩
                · skip
                  have hb355f := of_decide_eq_true hb355
                  have hcm : 4611686018427387904 < dcF 0 (bs.take j) := cmpN_pos.1 (of_decide_eq_true hb355)
                  rw [List.take_of_length_le (show bs.length ≤ j by omega)] at hcm
                  refine G.yes rfl ?_
                  refine G.seqK fun K370 hK371 => ?_
                  refine G.region ?_
                  refine GL.run (j := 3) 3 [8, 116] [(8, .int .u64 (((mpV bs) : Nat) : Int)), (116, .bool ((((mpE bs) : Nat) : Int) == 4))] (by kernel_rfl) rfl ?_
                  have hb372 : ((((mpE bs) : Nat) : Int) == 4) = true := by rw [mpE, if_pos hok, if_neg (by omega)]; rfl
                  rw [hb372]
                  refine GL.run (j := 7) 4 [4] [(4, .bool ((((mpV bs) : Nat) : Int) == 0))] (by kernel_rfl) rfl ?_
                  refine GL.k rfl hK371 (fun _ _ h => h) ?_
                  refine G.ret ?_
                  intro F_ hF_ hM_
                  refine hRet _ _ (bodyPost_1 rfl (RV.tmp rfl) ?_ F_ hF_ hM_)
                  have hb373 : ((((mpV bs) : Nat) : Int) == 0) = true := by first | (rw [mpV, if_neg hno]; rfl) | (rw [mpV, if_pos hok, if_neg (by omega)]; rfl)
                  rw [hb373]
                  exact ⟨rfl, H353.sub (List.nil_sublist _)⟩
              · skip
                have hb341f := of_decide_eq_true hb341
                refine G.yes rfl ?_
                refine G.skipK hK340 (fun _ _ h => h) ?_
                refine G.seqK fun K374 hK375 => ?_
                refine G.block ?_
                refine G.seqK fun K376 hK377 => ?_
                refine G.region ?_
                refine GL.sem (j := 1) (run_idxRd (P := Tryd.prog) (k := .i64) (t := 24) (A := A) (len := bs.length) (cap := c) (j := j) (by kernel_rfl) rfl (hx.hp H336) (by rw [by8_length]) (by first | rfl | omega | (simp only [List.length_cons, List.length_nil, List.length_drop, List.length_take, List.length_append] <;> omega))) [1, 8, 9, 13, 93, 94, 95, 97] [(1, .slice A bs.length c), (8, .int .u64 (((mpV bs) : Nat) : Int)), (9, .int .i64 (((mpE bs) : Nat) : Int)), (13, .slice nA (ndg (dcF 0 (bs.take j))) nc), (93, .slice A bs.length c), (94, .int .i64 (bs.length : Int)), (95, .int .i64 (j : Int)), (97, .pointer (Option.map (fun x => Addr.add x j) A))] (by kernel_rfl) (by kernel_rfl) rfl ?_
                obtain ⟨b378, hat379⟩ : ∃ b : UInt8, bs[j]? = some b := ⟨_, List.getElem?_eq_getElem (by first | rfl | omega | (simp only [List.length_cons, List.length_nil, List.length_drop, List.length_take, List.length_append] <;> omega))⟩
                refine GL.sem (j := 2) (run_ldRd (P := Tryd.prog) (ty := 5) (A := A) (j := j) (v := .int .u8 (b378.toNat : Int)) (by kernel_rfl) (hx.hp H336) (by8_at hat379)) [1, 8, 9, 13, 93, 94, 95, 98] [(1, .slice A bs.length c), (8, .int .u64 (((mpV bs) : Nat) : Int)), (9, .int .i64 (((mpE bs) : Nat) : Int)), (13, .slice nA (ndg (dcF 0 (bs.take j))) nc), (93, .slice A bs.length c), (94, .int .i64 (bs.length : Int)), (95, .int .i64 (j : Int)), (98, .int .u8 (b378.toNat : Int))] (by kernel_rfl) (by kernel_rfl) rfl ?_
                refine GL.run (j := 3) 1 [1, 8, 9, 13, 15, 93, 94, 95] [(1, .slice A bs.length c), (8, .int .u64 (((mpV bs) : Nat) : Int)), (9, .int .i64 (((mpE bs) : Nat) : Int)), (13, .slice nA (ndg (dcF 0 (bs.take j))) nc), (15, .int .u8 (b378.toNat : Int)), (93, .slice A bs.length c), (94, .int .i64 (bs.length : Int)), (95, .int .i64 (j : Int))] (by kernel_rfl) rfl ?_
                refine GL.k rfl hK377 (fun _ _ h => h) ?_
                refine G.region ?_
                have := 0
                · skip
                  have hdgb : 48 ≤ b378.toNat ∧ b378.toNat ≤ 57 := hok.2.2 b378 (List.mem_of_getElem? hat379)
                  refine GL.run (j := 1) 1 [1, 8, 9, 15, 93, 94, 95, 99] [(1, .slice A bs.length c), (8, .int .u64 (((mpV bs) : Nat) : Int)), (9, .int .i64 (((mpE bs) : Nat) : Int)), (15, .int .u8 (b378.toNat : Int)), (93, .slice A bs.length c), (94, .int .i64 (bs.length : Int)), (95, .int .i64 (j : Int)), (99, .slice nA (ndg (dcF 0 (bs.take j))) nc)] (by kernel_rfl) rfl ?_
                  obtain ⟨p380, w381, r382, H383⟩ := H336.madeRow (P := Tryd.prog) (Instr.buildSlice 31 1 #[(0, .int .u64 10)]) (fun b_ => .slice (some ⟨b_, 0, none⟩) 1 1) [.int .u64 10] 22 1 1 1 (by kernel_rfl) (by decide) (by decide) rfl
                  have H383 : Hp w [] [.row nA (ndg (dcF 0 (bs.take j))) nc 22 1 (dg (digs (dcF 0 (bs.take j)))), .row (some ⟨p380, 0, none⟩) 1 1 22 1 (dg [10])] w381 := H383
                  refine GL.sem (j := 2) (r382) [1, 8, 9, 15, 93, 94, 95, 99, 100] [(1, .slice A bs.length c), (8, .int .u64 (((mpV bs) : Nat) : Int)), (9, .int .i64 (((mpE bs) : Nat) : Int)), (15, .int .u8 (b378.toNat : Int)), (93, .slice A bs.length c), (94, .int .i64 (bs.length : Int)), (95, .int .i64 (j : Int)), (99, .slice nA (ndg (dcF 0 (bs.take j))) nc), (100, .slice (some ⟨p380, 0, none⟩) 1 1)] (by kernel_rfl) (by kernel_rfl) rfl ?_
                  have hN391 : ndg ((dcF 0 (bs.take j)) * 10) ≤ 14 := ndg_mul hN13 (show ndg 10 ≤ 1 from ndg_le.2 (by decide))
                  refine GL.call (j := 3) (MulN_calls (dcF 0 (bs.take j)) 10 nA nc (some ⟨p380, 0, none⟩) 1 w381 (H383.rdRow 0 rfl) (H383.rdRow 1 rfl) (Nat.le_trans hN13 (by decide)) (Nat.le_trans (show ndg 10 ≤ 1 from ndg_le.2 (by decide)) (by decide))) (by kernel_rfl) rfl (fun e_ w388 hR => ?_)
                  obtain ⟨A384, c385, rfl, H387⟩ := hR
                  have H386 : Hp w [] [.row nA (ndg (dcF 0 (bs.take j))) nc 22 1 (dg (digs (dcF 0 (bs.take j)))), .row (some ⟨p380, 0, none⟩) 1 1 22 1 (dg [10]), .row A384 (ndg ((dcF 0 (bs.take j)) * 10)) c385 22 1 (dg (digs ((dcF 0 (bs.take j)) * 10)))] w388 := H383.callNew H387
                  refine ⟨_, rfl, [1, 8, 9, 15, 93, 94, 95, 101], [(1, .slice A bs.length c), (8, .int .u64 (((mpV bs) : Nat) : Int)), (9, .int .i64 (((mpE bs) : Nat) : Int)), (15, .int .u8 (b378.toNat : Int)), (93, .slice A bs.length c), (94, .int .i64 (bs.length : Int)), (95, .int .i64 (j : Int)), (101, .slice A384 (ndg ((dcF 0 (bs.take j)) * 10)) c385)], by kernel_rfl, ?_⟩
                  refine GL.run (j := 7) 4 [1, 8, 9, 93, 94, 95, 101, 105] [(1, .slice A bs.length c), (8, .int .u64 (((mpV bs) : Nat) : Int)), (9, .int .i64 (((mpE bs) : Nat) : Int)), (93, .slice A bs.length c), (94, .int .i64 (bs.length : Int)), (95, .int .i64 (j : Int)), (101, .slice A384 (ndg ((dcF 0 (bs.take j)) * 10)) c385), (105, .agg #[.int .u64 (IntKind.u64.wrap (IntKind.u8.wrap ((b378.toNat : Int) - 48))), .int .u64 0, .int .u64 0, .int .u64 0])] (by kernel_rfl) rfl ?_
                  have e392 : (IntKind.u8.wrap ((b378.toNat : Int) - 48)) = ((b378.toNat - 48 : Nat) : Int) := by rw [in_u8 (by omega)]; omega
                  have e393 : (IntKind.u64.wrap ((b378.toNat - 48 : Nat) : Int)) = ((b378.toNat - 48 : Nat) : Int) := in_u64 (by omega)
                  refine GL.eq (M' := [(1, .slice A bs.length c), (8, .int .u64 (((mpV bs) : Nat) : Int)), (9, .int .i64 (((mpE bs) : Nat) : Int)), (93, .slice A bs.length c), (94, .int .i64 (bs.length : Int)), (95, .int .i64 (j : Int)), (101, .slice A384 (ndg ((dcF 0 (bs.take j)) * 10)) c385), (105, .agg #[.int .u64 ((b378.toNat - 48 : Nat) : Int), .int .u64 0, .int .u64 0, .int .u64 0])]) (by rw [e392, e393]) ?_
                  clear e392 e393
                  have hN399 : ndg (b378.toNat - 48) ≤ 4 := ndg_K (Nat.lt_trans (show b378.toNat - 48 < 256 by omega) (by decide))
                  refine GL.call (j := 8) (Of1_calls_n (b378.toNat - 48) (Nat.lt_trans (show b378.toNat - 48 < 256 by omega) (by decide)) w388) (by kernel_rfl) rfl (fun e_ w398 hR => ?_)
                  obtain ⟨A394, c395, rfl, H397⟩ := hR
                  have H396 : Hp w [] [.row nA (ndg (dcF 0 (bs.take j))) nc 22 1 (dg (digs (dcF 0 (bs.take j)))), .row (some ⟨p380, 0, none⟩) 1 1 22 1 (dg [10]), .row A384 (ndg ((dcF 0 (bs.take j)) * 10)) c385 22 1 (dg (digs ((dcF 0 (bs.take j)) * 10))), .row A394 (ndg (b378.toNat - 48)) c395 22 1 (dg (digs (b378.toNat - 48)))] w398 := H386.callNew H397
                  refine ⟨_, rfl, [1, 8, 9, 93, 94, 95, 101, 106], [(1, .slice A bs.length c), (8, .int .u64 (((mpV bs) : Nat) : Int)), (9, .int .i64 (((mpE bs) : Nat) : Int)), (93, .slice A bs.length c), (94, .int .i64 (bs.length : Int)), (95, .int .i64 (j : Int)), (101, .slice A384 (ndg ((dcF 0 (bs.take j)) * 10)) c385), (106, .slice A394 (ndg (b378.toNat - 48)) c395)], by kernel_rfl, ?_⟩
                  have hN405 : ndg (((dcF 0 (bs.take j)) * 10) + (b378.toNat - 48)) ≤ 15 := ndg_add (i := 14) (Nat.le_trans hN391 (by decide)) (Nat.le_trans hN399 (by decide))
                  refine GL.call (j := 9) (AddN_calls ((dcF 0 (bs.take j)) * 10) (b378.toNat - 48) A384 c385 A394 c395 w398 (H396.rdRow 2 rfl) (H396.rdRow 3 rfl) (Nat.le_trans hN391 (by decide)) (Nat.le_trans hN399 (by decide))) (by kernel_rfl) rfl (fun e_ w404 hR => ?_)
                  obtain ⟨A400, c401, rfl, H403⟩ := hR
                  have H402 : Hp w [] [.row nA (ndg (dcF 0 (bs.take j))) nc 22 1 (dg (digs (dcF 0 (bs.take j)))), .row (some ⟨p380, 0, none⟩) 1 1 22 1 (dg [10]), .row A384 (ndg ((dcF 0 (bs.take j)) * 10)) c385 22 1 (dg (digs ((dcF 0 (bs.take j)) * 10))), .row A394 (ndg (b378.toNat - 48)) c395 22 1 (dg (digs (b378.toNat - 48))), .row A400 (ndg (((dcF 0 (bs.take j)) * 10) + (b378.toNat - 48))) c401 22 1 (dg (digs (((dcF 0 (bs.take j)) * 10) + (b378.toNat - 48))))] w404 := H396.callNew H403
                  refine ⟨_, rfl, [1, 8, 9, 93, 94, 95, 107], [(1, .slice A bs.length c), (8, .int .u64 (((mpV bs) : Nat) : Int)), (9, .int .i64 (((mpE bs) : Nat) : Int)), (93, .slice A bs.length c), (94, .int .i64 (bs.length : Int)), (95, .int .i64 (j : Int)), (107, .slice A400 (ndg (((dcF 0 (bs.take j)) * 10) + (b378.toNat - 48))) c401)], by kernel_rfl, ?_⟩
                  refine GL.run (j := 10) 1 [1, 8, 9, 13, 93, 94, 95] [(1, .slice A bs.length c), (8, .int .u64 (((mpV bs) : Nat) : Int)), (9, .int .i64 (((mpE bs) : Nat) : Int)), (13, .slice A400 (ndg (((dcF 0 (bs.take j)) * 10) + (b378.toNat - 48))) c401), (93, .slice A bs.length c), (94, .int .i64 (bs.length : Int)), (95, .int .i64 (j : Int))] (by kernel_rfl) rfl ?_
                  refine GL.k rfl hK375 (fun _ _ h => h) ?_
                  refine G.region ?_
                  refine GL.run (j := 2) 2 [1, 8, 9, 13, 93, 94, 95] [(1, .slice A bs.length c), (8, .int .u64 (((mpV bs) : Nat) : Int)), (9, .int .i64 (((mpE bs) : Nat) : Int)), (13, .slice A400 (ndg (((dcF 0 (bs.take j)) * 10) + (b378.toNat - 48))) c401), (93, .slice A bs.length c), (94, .int .i64 (bs.length : Int)), (95, .int .i64 (IntKind.i64.wrap ((j : Int) + 1)))] (by kernel_rfl) rfl ?_
                  have e406 : (IntKind.i64.wrap ((j : Int) + 1)) = ((j + 1 : Nat) : Int) := by rw [in_i64 (by omega)]; omega
                  refine GL.eq (M' := [(1, .slice A bs.length c), (8, .int .u64 (((mpV bs) : Nat) : Int)), (9, .int .i64 (((mpE bs) : Nat) : Int)), (13, .slice A400 (ndg (((dcF 0 (bs.take j)) * 10) + (b378.toNat - 48))) c401), (93, .slice A bs.length c), (94, .int .i64 (bs.length : Int)), (95, .int .i64 ((j + 1 : Nat) : Int))]) (by rw [e406]) ?_
                  clear e406
                  have H407 : Hp w [] [.row A400 (ndg (((dcF 0 (bs.take j)) * 10) + (b378.toNat - 48))) c401 22 1 (dg (digs (((dcF 0 (bs.take j)) * 10) + (b378.toNat - 48))))] w404 := H402.sub (List.Sublist.cons _ (List.Sublist.cons _ (List.Sublist.cons _ (List.Sublist.cons _ (List.Sublist.cons_cons _ (List.Sublist.slnil))))))
                  have H408 := H407
                  rw [← dcF_take hat379] at H408
                  refine GL.fit (ts := [1, 8, 9, 13, 93, 94, 95]) (M' := [(1, .slice A bs.length c), (8, .int .u64 (((mpV bs) : Nat) : Int)), (9, .int .i64 (((mpE bs) : Nat) : Int)), (13, .slice A400 (ndg (((dcF 0 (bs.take j)) * 10) + (b378.toNat - 48))) c401), (93, .slice A bs.length c), (94, .int .i64 (bs.length : Int)), (95, .int .i64 ((j + 1 : Nat) : Int))]) (by kernel_rfl) ?_
                  refine GL.eq (M' := [(1, .slice A bs.length c), (8, .int .u64 (((mpV bs) : Nat) : Int)), (9, .int .i64 (((mpE bs) : Nat) : Int)), (13, .slice A400 (ndg (dcF 0 (bs.take (j + 1)))) c401), (93, .slice A bs.length c), (94, .int .i64 (bs.length : Int)), (95, .int .i64 (((j + 1) : Nat) : Int))]) (by rw [dcF_take hat379]) ?_
                  exact GL.again ⟨(j + 1), A400, c401⟩ [1, 8, 9, 13, 93, 94, 95] rfl (by kernel_rfl) (by show bs.length - (j + 1) < bs.length - j; omega) ⟨by omega, H408⟩
          · skip
            have hb318f := of_decide_eq_true hb318
            refine G.yes rfl ?_
            refine G.skipK hK317 (fun _ _ h => h) ?_
            refine G.seqK fun K409 hK410 => ?_
            refine G.block ?_
            refine G.seqK fun K411 hK412 => ?_
            refine G.region ?_
            refine GL.sem (j := 1) (run_idxRd (P := Tryd.prog) (k := .i64) (t := 24) (A := A) (len := bs.length) (cap := c) (j := i) (by kernel_rfl) rfl (hx.hp H313) (by rw [by8_length]) (by first | rfl | omega | (simp only [List.length_cons, List.length_nil, List.length_drop, List.length_take, List.length_append] <;> omega))) [1, 8, 9, 10, 69, 70, 71, 73] [(1, .slice A bs.length c), (8, .int .u64 (((mpV bs) : Nat) : Int)), (9, .int .i64 (((mpE bs) : Nat) : Int)), (10, .bool dg), (69, .slice A bs.length c), (70, .int .i64 (bs.length : Int)), (71, .int .i64 (i : Int)), (73, .pointer (Option.map (fun x => Addr.add x i) A))] (by kernel_rfl) (by kernel_rfl) rfl ?_
            obtain ⟨b413, hat414⟩ : ∃ b : UInt8, bs[i]? = some b := ⟨_, List.getElem?_eq_getElem (by first | rfl | omega | (simp only [List.length_cons, List.length_nil, List.length_drop, List.length_take, List.length_append] <;> omega))⟩
            refine GL.sem (j := 2) (run_ldRd (P := Tryd.prog) (ty := 5) (A := A) (j := i) (v := .int .u8 (b413.toNat : Int)) (by kernel_rfl) (hx.hp H313) (by8_at hat414)) [1, 8, 9, 10, 69, 70, 71, 74] [(1, .slice A bs.length c), (8, .int .u64 (((mpV bs) : Nat) : Int)), (9, .int .i64 (((mpE bs) : Nat) : Int)), (10, .bool dg), (69, .slice A bs.length c), (70, .int .i64 (bs.length : Int)), (71, .int .i64 (i : Int)), (74, .int .u8 (b413.toNat : Int))] (by kernel_rfl) (by kernel_rfl) rfl ?_
            refine GL.run (j := 3) 1 [1, 8, 9, 10, 12, 69, 70, 71] [(1, .slice A bs.length c), (8, .int .u64 (((mpV bs) : Nat) : Int)), (9, .int .i64 (((mpE bs) : Nat) : Int)), (10, .bool dg), (12, .int .u8 (b413.toNat : Int)), (69, .slice A bs.length c), (70, .int .i64 (bs.length : Int)), (71, .int .i64 (i : Int))] (by kernel_rfl) rfl ?_
            refine GL.k rfl hK412 (fun _ _ h => h) ?_
            refine G.region ?_
            refine GL.run (j := 2) 2 [1, 8, 9, 12, 69, 70, 71, 76] [(1, .slice A bs.length c), (8, .int .u64 (((mpV bs) : Nat) : Int)), (9, .int .i64 (((mpE bs) : Nat) : Int)), (12, .int .u8 (b413.toNat : Int)), (69, .slice A bs.length c), (70, .int .i64 (bs.length : Int)), (71, .int .i64 (i : Int)), (76, .bool dg)] (by kernel_rfl) rfl ?_
            rcases (Bool.eq_false_or_eq_true dg).symm with hb415 | hb415
            · skip
              refine GL.eq (M' := [(1, .slice A bs.length c), (8, .int .u64 (((mpV bs) : Nat) : Int)), (9, .int .i64 (((mpE bs) : Nat) : Int)), (12, .int .u8 (b413.toNat : Int)), (69, .slice A bs.length c), (70, .int .i64 (bs.length : Int)), (71, .int .i64 (i : Int)), (76, .bool false)]) (by first | (rw [hb415]; done) | (rw [hb415]; rfl)) ?_
              refine GL.run (j := 10) 8 [1, 8, 9, 10, 69, 70, 71] [(1, .slice A bs.length c), (8, .int .u64 (((mpV bs) : Nat) : Int)), (9, .int .i64 (((mpE bs) : Nat) : Int)), (10, .bool false), (69, .slice A bs.length c), (70, .int .i64 (bs.length : Int)), (71, .int .i64 (i : Int))] (by kernel_rfl) rfl ?_
              refine GL.k rfl hK410 (fun _ _ h => h) ?_
              refine G.region ?_
              refine GL.run (j := 2) 2 [1, 8, 9, 10, 69, 70, 71] [(1, .slice A bs.length c), (8, .int .u64 (((mpV bs) : Nat) : Int)), (9, .int .i64 (((mpE bs) : Nat) : Int)), (10, .bool false), (69, .slice A bs.length c), (70, .int .i64 (bs.length : Int)), (71, .int .i64 (IntKind.i64.wrap ((i : Int) + 1)))] (by kernel_rfl) rfl ?_
              have e416 : (IntKind.i64.wrap ((i : Int) + 1)) = ((i + 1 : Nat) : Int) := by rw [in_i64 (by omega)]; omega
              refine GL.eq (M' := [(1, .slice A bs.length c), (8, .int .u64 (((mpV bs) : Nat) : Int)), (9, .int .i64 (((mpE bs) : Nat) : Int)), (10, .bool false), (69, .slice A bs.length c), (70, .int .i64 (bs.length : Int)), (71, .int .i64 ((i + 1 : Nat) : Int))]) (by rw [e416]) ?_
              clear e416
              refine GL.fit (ts := [1, 8, 9, 10, 69, 70, 71]) (M' := [(1, .slice A bs.length c), (8, .int .u64 (((mpV bs) : Nat) : Int)), (9, .int .i64 (((mpE bs) : Nat) : Int)), (10, .bool false), (69, .slice A bs.length c), (70, .int .i64 (bs.length : Int)), (71, .int .i64 ((i + 1 : Nat) : Int))]) (by kernel_rfl) ?_
              refine GL.eq (M' := [(1, .slice A bs.length c), (8, .int .u64 (((mpV bs) : Nat) : Int)), (9, .int .i64 (((mpE bs) : Nat) : Int)), (10, .bool false), (69, .slice A bs.length c), (70, .int .i64 (bs.length : Int)), (71, .int .i64 (((i + 1) : Nat) : Int))]) (by rfl) ?_
              exact GL.again ⟨(i + 1), false⟩ [1, 8, 9, 10, 69, 70, 71] rfl (by kernel_rfl) (by show bs.length - (i + 1) < bs.length - i; omega) ⟨⟨by omega, ⟨fun h_ => (by cases h_), fun h_ => absurd (hdg.2 ((dgF_step hat414).1 h_).1) (by rw [hb415]; decide)⟩⟩, H313⟩
            · skip
              refine GL.eq (M' := [(1, .slice A bs.length c), (8, .int .u64 (((mpV bs) : Nat) : Int)), (9, .int .i64 (((mpE bs) : Nat) : Int)), (12, .int .u8 (b413.toNat : Int)), (69, .slice A bs.length c), (70, .int .i64 (bs.length : Int)), (71, .int .i64 (i : Int)), (76, .bool true)]) (by first | (rw [hb415]; done) | (rw [hb415]; rfl)) ?_
              refine GL.run (j := 6) 4 [1, 8, 9, 12, 69, 70, 71, 80] [(1, .slice A bs.length c), (8, .int .u64 (((mpV bs) : Nat) : Int)), (9, .int .i64 (((mpE bs) : Nat) : Int)), (12, .int .u8 (b413.toNat : Int)), (69, .slice A bs.length c), (70, .int .i64 (bs.length : Int)), (71, .int .i64 (i : Int)), (80, .bool (decide (48 ≤ (b413.toNat : Int))))] (by kernel_rfl) rfl ?_
              cases hb417 : (decide (48 ≤ (b413.toNat : Int)))
              · skip
                have hb417f := of_decide_eq_false hb417
                refine GL.run (j := 10) 4 [1, 8, 9, 10, 69, 70, 71] [(1, .slice A bs.length c), (8, .int .u64 (((mpV bs) : Nat) : Int)), (9, .int .i64 (((mpE bs) : Nat) : Int)), (10, .bool false), (69, .slice A bs.length c), (70, .int .i64 (bs.length : Int)), (71, .int .i64 (i : Int))] (by kernel_rfl) rfl ?_
                refine GL.k rfl hK410 (fun _ _ h => h) ?_
                refine G.region ?_
                refine GL.run (j := 2) 2 [1, 8, 9, 10, 69, 70, 71] [(1, .slice A bs.length c), (8, .int .u64 (((mpV bs) : Nat) : Int)), (9, .int .i64 (((mpE bs) : Nat) : Int)), (10, .bool false), (69, .slice A bs.length c), (70, .int .i64 (bs.length : Int)), (71, .int .i64 (IntKind.i64.wrap ((i : Int) + 1)))] (by kernel_rfl) rfl ?_
                have e418 : (IntKind.i64.wrap ((i : Int) + 1)) = ((i + 1 : Nat) : Int) := by rw [in_i64 (by omega)]; omega
                refine GL.eq (M' := [(1, .slice A bs.length c), (8, .int .u64 (((mpV bs) : Nat) : Int)), (9, .int .i64 (((mpE bs) : Nat) : Int)), (10, .bool false), (69, .slice A bs.length c), (70, .int .i64 (bs.length : Int)), (71, .int .i64 ((i + 1 : Nat) : Int))]) (by rw [e418]) ?_
                clear e418
                refine GL.fit (ts := [1, 8, 9, 10, 69, 70, 71]) (M' := [(1, .slice A bs.length c), (8, .int .u64 (((mpV bs) : Nat) : Int)), (9, .int .i64 (((mpE bs) : Nat) : Int)), (10, .bool false), (69, .slice A bs.length c), (70, .int .i64 (bs.length : Int)), (71, .int .i64 ((i + 1 : Nat) : Int))]) (by kernel_rfl) ?_
                refine GL.eq (M' := [(1, .slice A bs.length c), (8, .int .u64 (((mpV bs) : Nat) : Int)), (9, .int .i64 (((mpE bs) : Nat) : Int)), (10, .bool false), (69, .slice A bs.length c), (70, .int .i64 (bs.length : Int)), (71, .int .i64 (((i + 1) : Nat) : Int))]) (by rfl) ?_
                exact GL.again ⟨(i + 1), false⟩ [1, 8, 9, 10, 69, 70, 71] rfl (by kernel_rfl) (by show bs.length - (i + 1) < bs.length - i; omega) ⟨⟨by omega, ⟨fun h_ => (by cases h_), fun h_ => absurd (show 48 ≤ b413.toNat ∧ b413.toNat ≤ 57 from ((dgF_step hat414).1 h_).2) (by omega)⟩⟩, H313⟩
              · skip
                have hb417f := of_decide_eq_true hb417
                refine GL.run (j := 10) 4 [1, 8, 9, 10, 69, 70, 71] [(1, .slice A bs.length c), (8, .int .u64 (((mpV bs) : Nat) : Int)), (9, .int .i64 (((mpE bs) : Nat) : Int)), (10, .bool (decide ((b413.toNat : Int) ≤ 57))), (69, .slice A bs.length c), (70, .int .i64 (bs.length : Int)), (71, .int .i64 (i : Int))] (by kernel_rfl) rfl ?_
                refine GL.k rfl hK410 (fun _ _ h => h) ?_
                refine G.region ?_
                refine GL.run (j := 2) 2 [1, 8, 9, 10, 69, 70, 71] [(1, .slice A bs.length c), (8, .int .u64 (((mpV bs) : Nat) : Int)), (9, .int .i64 (((mpE bs) : Nat) : Int)), (10, .bool (decide ((b413.toNat : Int) ≤ 57))), (69, .slice A bs.length c), (70, .int .i64 (bs.length : Int)), (71, .int .i64 (IntKind.i64.wrap ((i : Int) + 1)))] (by kernel_rfl) rfl ?_
                have e419 : (IntKind.i64.wrap ((i : Int) + 1)) = ((i + 1 : Nat) : Int) := by rw [in_i64 (by omega)]; omega
                refine GL.eq (M' := [(1, .slice A bs.length c), (8, .int .u64 (((mpV bs) : Nat) : Int)), (9, .int .i64 (((mpE bs) : Nat) : Int)), (10, .bool (decide ((b413.toNat : Int) ≤ 57))), (69, .slice A bs.length c), (70, .int .i64 (bs.length : Int)), (71, .int .i64 ((i + 1 : Nat) : Int))]) (by rw [e419]) ?_
                clear e419
                refine GL.fit (ts := [1, 8, 9, 10, 69, 70, 71]) (M' := [(1, .slice A bs.length c), (8, .int .u64 (((mpV bs) : Nat) : Int)), (9, .int .i64 (((mpE bs) : Nat) : Int)), (10, .bool (decide ((b413.toNat : Int) ≤ 57))), (69, .slice A bs.length c), (70, .int .i64 (bs.length : Int)), (71, .int .i64 ((i + 1 : Nat) : Int))]) (by kernel_rfl) ?_
                refine GL.eq (M' := [(1, .slice A bs.length c), (8, .int .u64 (((mpV bs) : Nat) : Int)), (9, .int .i64 (((mpE bs) : Nat) : Int)), (10, .bool (decide ((b413.toNat : Int) ≤ 57))), (69, .slice A bs.length c), (70, .int .i64 (bs.length : Int)), (71, .int .i64 (((i + 1) : Nat) : Int))]) (by rfl) ?_
                exact GL.again ⟨(i + 1), (decide ((b413.toNat : Int) ≤ 57))⟩ [1, 8, 9, 10, 69, 70, 71] rfl (by kernel_rfl) (by show bs.length - (i + 1) < bs.length - i; omega) ⟨⟨by omega, ⟨fun h_ => (dgF_step hat414).2 ⟨hdg.1 hb415, (show 48 ≤ b413.toNat ∧ b413.toNat ≤ 57 from ⟨by omega, by have q_ := of_decide_eq_true h_; omega⟩)⟩, fun h_ => decide_eq_true (by have q_ : 48 ≤ b413.toNat ∧ b413.toNat ≤ 57 := ((dgF_step hat414).1 h_).2; omega)⟩⟩, H313⟩
      · skip
        have hb290f := of_decide_eq_true hb290
        refine GL.run (j := 13) 3 [0, 1, 6, 37, 40, 43] [(0, .int .u64 (a : Int)), (1, .slice A bs.length c), (6, .int .u64 (((mpV (Lib.decDigits a)) : Nat) : Int)), (37, .bool false), (40, .bool true), (43, .bool ((((mpE (Lib.decDigits a)) : Nat) : Int) != 0))] (by kernel_rfl) rfl ?_
        have hb420 : ((((mpE (Lib.decDigits a)) : Nat) : Int) != 0) = false := by rw [mpE_dd, if_pos (by omega)]; rfl
        rw [hb420]
        refine GL.run (j := 19) 6 [1, 49] [(1, .slice A bs.length c), (49, .bool ((((mpV (Lib.decDigits a)) : Nat) : Int) != (a : Int)))] (by kernel_rfl) rfl ?_
        refine GL.k rfl hK26 (fun _ _ h => h) ?_
        have hb421 : ((((mpV (Lib.decDigits a)) : Nat) : Int) != (a : Int)) = false := by rw [mpV_dd, if_pos (by omega)]; exact bne_self_eq_false _
        rw [hb421]
        refine G.no rfl ?_
        refine G.skipK hK24 (fun _ _ h => h) ?_
        refine G.seqK fun K422 hK423 => ?_
        refine G.region ?_
        refine GL.run (j := 1) 1 [1, 51] [(1, .slice A bs.length c), (51, .slice A bs.length c)] (by kernel_rfl) rfl ?_
        refine GL.call (j := 2) (Parse_calls bs (by omega) tp pv A c w20 (H21.oldCell hv) (hx.hp H21)) (by kernel_rfl) rfl (fun e_ w424 hR => ?_)
        obtain ⟨rfl, H426⟩ := hR
        have H425 : Hp w [] [.row A13 ((Lib.decDigits a).length) c14 5 1 (by8 (Lib.decDigits a))] w424 := H21.callNil H426
        refine ⟨_, rfl, [1, 52], [(1, .slice A bs.length c), (52, .tuple #[.int .u64 (((mpV bs) : Nat) : Int), .int .i64 (((mpE bs) : Nat) : Int)])], by kernel_rfl, ?_⟩
        refine GL.run (j := 7) 5 [1, 8, 9] [(1, .slice A bs.length c), (8, .int .u64 (((mpV bs) : Nat) : Int)), (9, .int .i64 (((mpE bs) : Nat) : Int))] (by kernel_rfl) rfl ?_
        refine GL.k rfl hK423 (fun _ _ h => h) ?_
        refine G.seqJ (X := Bool) (fun dg0 => [(1, .slice A bs.length c), (8, .int .u64 (((mpV bs) : Nat) : Int)), (9, .int .i64 (((mpE bs) : Nat) : Int)), (10, .bool dg0)]) (fun dg0 w_ => ((dg0 = true) ↔ dgF bs 0) ∧ Hp w [] [.row A13 ((Lib.decDigits a).length) c14 5 1 (by8 (Lib.decDigits a))] w_) (fun J427 K428 hK429 => ?_) ?_
        · skip
          refine G.region ?_
          refine GL.run (j := 4) 4 [1, 8, 9, 58] [(1, .slice A bs.length c), (8, .int .u64 (((mpV bs) : Nat) : Int)), (9, .int .i64 (((mpE bs) : Nat) : Int)), (58, .bool (decide (0 < (bs.length : Int))))] (by kernel_rfl) rfl ?_
          cases hb430 : (decide (0 < (bs.length : Int)))
          · skip
            have hb430f := of_decide_eq_false hb430
            refine GL.run (j := 15) 11 [1, 8, 9, 10] [(1, .slice A bs.length c), (8, .int .u64 (((mpV bs) : Nat) : Int)), (9, .int .i64 (((mpE bs) : Nat) : Int)), (10, .bool false)] (by kernel_rfl) rfl ?_
            refine GL.k rfl hK429 (fun _ _ h => h) ?_
            refine G.fit [1, 8, 9, 10] (M' := [(1, .slice A bs.length c), (8, .int .u64 (((mpV bs) : Nat) : Int)), (9, .int .i64 (((mpE bs) : Nat) : Int)), (10, .bool false)]) (by kernel_rfl) ?_
            exact J427 false _ ⟨dgF_none (by omega), H425⟩
          · skip
            have hb430f := of_decide_eq_true hb430
            refine GL.run (j := 8) 4 [1, 8, 9, 58, 62] [(1, .slice A bs.length c), (8, .int .u64 (((mpV bs) : Nat) : Int)), (9, .int .i64 (((mpE bs) : Nat) : Int)), (58, .bool true), (62, .bool ((bs.length : Int) == 1))] (by kernel_rfl) rfl ?_
            cases hb431 : ((bs.length : Int) == 1)
            · skip
              have hb431f := ne_of_beq_false hb431
              refine GL.run (j := 9) 1 [1, 8, 9, 58, 62, 63] [(1, .slice A bs.length c), (8, .int .u64 (((mpV bs) : Nat) : Int)), (9, .int .i64 (((mpE bs) : Nat) : Int)), (58, .bool true), (62, .bool false), (63, .slice A bs.length c)] (by kernel_rfl) rfl ?_
              refine GL.sem (j := 10) (run_idxRd (P := Tryd.prog) (k := .i64) (t := 24) (A := A) (len := bs.length) (cap := c) (j := 0) (by kernel_rfl) rfl (hx.hp H425) (by rw [by8_length]) (by first | rfl | omega | (simp only [List.length_cons, List.length_nil, List.length_drop, List.length_take, List.length_append] <;> omega))) [1, 8, 9, 58, 62, 64] [(1, .slice A bs.length c), (8, .int .u64 (((mpV bs) : Nat) : Int)), (9, .int .i64 (((mpE bs) : Nat) : Int)), (58, .bool true), (62, .bool false), (64, .pointer (Option.map (fun x => Addr.add x 0) A))] (by kernel_rfl) (by kernel_rfl) rfl ?_
              obtain ⟨b432, hat433⟩ : ∃ b : UInt8, bs[0]? = some b := ⟨_, List.getElem?_eq_getElem (by first | rfl | omega | (simp only [List.length_cons, List.length_nil, List.length_drop, List.length_take, List.length_append] <;> omega))⟩
              refine GL.sem (j := 11) (run_ldRd (P := Tryd.prog) (ty := 5) (A := A) (j := 0) (v := .int .u8 (b432.toNat : Int)) (by kernel_rfl) (hx.hp H425) (by8_at hat433)) [1, 8, 9, 58, 62, 65] [(1, .slice A bs.length c), (8, .int .u64 (((mpV bs) : Nat) : Int)), (9, .int .i64 (((mpE bs) : Nat) : Int)), (58, .bool true), (62, .bool false), (65, .int .u8 (b432.toNat : Int))] (by kernel_rfl) (by kernel_rfl) rfl ?_
              refine GL.run (j := 15) 4 [1, 8, 9, 10] [(1, .slice A bs.length c), (8, .int .u64 (((mpV bs) : Nat) : Int)), (9, .int .i64 (((mpE bs) : Nat) : Int)), (10, .bool ((b432.toNat : Int) != 48))] (by kernel_rfl) rfl ?_
              refine GL.k rfl hK429 (fun _ _ h => h) ?_
              refine G.fit [1, 8, 9, 10] (M' := [(1, .slice A bs.length c), (8, .int .u64 (((mpV bs) : Nat) : Int)), (9, .int .i64 (((mpE bs) : Nat) : Int)), (10, .bool ((b432.toNat : Int) != 48))]) (by kernel_rfl) ?_
              exact J427 ((b432.toNat : Int) != 48) _ ⟨dgF_more (by omega) (by omega) hat433, H425⟩
            · skip
              have hb431f := eq_of_beq hb431
              refine GL.run (j := 15) 7 [1, 8, 9, 10] [(1, .slice A bs.length c), (8, .int .u64 (((mpV bs) : Nat) : Int)), (9, .int .i64 (((mpE bs) : Nat) : Int)), (10, .bool true)] (by kernel_rfl) rfl ?_
              refine GL.k rfl hK429 (fun _ _ h => h) ?_
              refine G.fit [1, 8, 9, 10] (M' := [(1, .slice A bs.length c), (8, .int .u64 (((mpV bs) : Nat) : Int)), (9, .int .i64 (((mpE bs) : Nat) : Int)), (10, .bool true)]) (by kernel_rfl) ?_
              exact J427 true _ ⟨dgF_one (by omega), H425⟩
        · skip
          rintro dg0 w434 ⟨hi435, H436⟩
          refine G.eq (M' := [(1, .slice A bs.length c), (8, .int .u64 (((mpV bs) : Nat) : Int)), (9, .int .i64 (((mpE bs) : Nat) : Int)), (10, .bool dg0)]) rfl ?_
          have H436 : Hp w [] [.row A13 ((Lib.decDigits a).length) c14 5 1 (by8 (Lib.decDigits a))] w434 := H436
          have hdg0 := hi435
          refine G.seqK fun K437 hK438 => ?_
          refine G.seqK fun K439 hK440 => ?_
          refine G.region ?_
          refine GL.run (j := 3) 3 [1, 8, 9, 10, 69, 70, 71] [(1, .slice A bs.length c), (8, .int .u64 (((mpV bs) : Nat) : Int)), (9, .int .i64 (((mpE bs) : Nat) : Int)), (10, .bool dg0), (69, .slice A bs.length c), (70, .int .i64 (bs.length : Int)), (71, .int .i64 0)] (by kernel_rfl) rfl ?_
          refine GL.k rfl hK440 (fun _ _ h => h) ?_
          refine G.block ?_
          have H441 : Hp w [] [] w434 := H436.sub (List.Sublist.cons _ (List.Sublist.slnil))
          refine G.fit [1, 8, 9, 10, 69, 70, 71] (M' := [(1, .slice A bs.length c), (8, .int .u64 (((mpV bs) : Nat) : Int)), (9, .int .i64 (((mpE bs) : Nat) : Int)), (10, .bool dg0), (69, .slice A bs.length c), (70, .int .i64 (bs.length : Int)), (71, .int .i64 0)]) (by kernel_rfl) ?_
          refine G.loop (X := Nat × Bool) (fun ⟨i, dg⟩ => [(1, .slice A bs.length c), (8, .int .u64 (((mpV bs) : Nat) : Int)), (9, .int .i64 (((mpE bs) : Nat) : Int)), (10, .bool dg), (69, .slice A bs.length c), (70, .int .i64 (bs.length : Int)), (71, .int .i64 (i : Int))]) (fun ⟨i, dg⟩ w_ => (i ≤ bs.length ∧ (dg = true ↔ dgF bs i)) ∧ Hp w [] [] w_) (fun ⟨i, dg⟩ => bs.length - i) ⟨0, dg0⟩ [1, 8, 9, 10, 69, 70, 71] (by kernel_rfl) ⟨⟨Nat.zero_le _, hdg0⟩, H441⟩ ?_
          rintro ⟨i, dg⟩ w442 ⟨hi443, H444⟩
          refine G.eq (M' := [(1, .slice A bs.length c), (8, .int .u64 (((mpV bs) : Nat) : Int)), (9, .int .i64 (((mpE bs) : Nat) : Int)), (10, .bool dg), (69, .slice A bs.length c), (70, .int .i64 (bs.length : Int)), (71, .int .i64 (i : Int))]) rfl ?_
          have H444 : Hp w [] [] w442 := H444
          obtain ⟨hi9, hdg⟩ := hi443
          refine G.seqK fun K445 hK446 => ?_
          refine G.region ?_
          refine GL.run (j := 1) 1 [1, 8, 9, 10, 69, 70, 71, 72] [(1, .slice A bs.length c), (8, .int .u64 (((mpV bs) : Nat) : Int)), (9, .int .i64 (((mpE bs) : Nat) : Int)), (10, .bool dg), (69, .slice A bs.length c), (70, .int .i64 (bs.length : Int)), (71, .int .i64 (i : Int)), (72, .bool (decide ((i : Int) < (bs.length : Int))))] (by kernel_rfl) rfl ?_
          refine GL.k rfl hK446 (fun _ _ h => h) ?_
          refine G.seqK fun K447 hK448 => ?_
          cases hb449 : (decide ((i : Int) < (bs.length : Int)))
          · skip
            have hb449f := of_decide_eq_false hb449
            refine G.no rfl ?_
            refine G.exitK hK438 (fun _ _ h => h) ?_
            refine G.seqK fun K450 hK451 => ?_
            refine G.seqK fun K452 hK453 => ?_
            refine G.region ?_
            rcases (Bool.eq_false_or_eq_true dg).symm with hdv | hdv
            · skip
              have hno : ¬ dgOk bs := fun h_ => absurd (hdg.2 ((dgF_all (by omega)).2 h_)) (by rw [hdv]; decide)
              subst hdv
              refine GL.eq (M' := [(1, .slice A bs.length c), (8, .int .u64 (((mpV bs) : Nat) : Int)), (9, .int .i64 (((mpE bs) : Nat) : Int)), (10, .bool false), (69, .slice A bs.length c), (70, .int .i64 (bs.length : Int)), (71, .int .i64 (i : Int)), (72, .bool false)]) rfl ?_
              refine GL.run (j := 2) 2 [1, 8, 9, 86] [(1, .slice A bs.length c), (8, .int .u64 (((mpV bs) : Nat) : Int)), (9, .int .i64 (((mpE bs) : Nat) : Int)), (86, .bool true)] (by kernel_rfl) rfl ?_
              refine GL.k rfl hK453 (fun _ _ h => h) ?_
              refine G.yes rfl ?_
              refine G.seqK fun K454 hK455 => ?_
              refine G.region ?_
              refine GL.run (j := 3) 3 [8, 89] [(8, .int .u64 (((mpV bs) : Nat) : Int)), (89, .bool ((((mpE bs) : Nat) : Int) == 2))] (by kernel_rfl) rfl ?_
              have hb456 : ((((mpE bs) : Nat) : Int) == 2) = true := by rw [mpE, if_neg hno]; rfl
              rw [hb456]
              refine GL.run (j := 7) 4 [4] [(4, .bool ((((mpV bs) : Nat) : Int) == 0))] (by kernel_rfl) rfl ?_
              refine GL.k rfl hK455 (fun _ _ h => h) ?_
              refine G.ret ?_
              intro F_ hF_ hM_
              refine hRet _ _ (bodyPost_1 rfl (RV.tmp rfl) ?_ F_ hF_ hM_)
              have hb457 : ((((mpV bs) : Nat) : Int) == 0) = true := by first | (rw [mpV, if_neg hno]; rfl) | (rw [mpV, if_pos hok, if_neg (by omega)]; rfl)
              rw [hb457]
              exact ⟨rfl, H444.sub (List.nil_sublist _)⟩
            · skip
              have hok : dgOk bs := (dgF_all (by omega)).1 (hdg.1 hdv)
              subst hdv
              refine GL.eq (M' := [(1, .slice A bs.length c), (8, .int .u64 (((mpV bs) : Nat) : Int)), (9, .int .i64 (((mpE bs) : Nat) : Int)), (10, .bool true), (69, .slice A bs.length c), (70, .int .i64 (bs.length : Int)), (71, .int .i64 (i : Int)), (72, .bool false)]) rfl ?_
              refine GL.run (j := 2) 2 [1, 8, 9, 86] [(1, .slice A bs.length c), (8, .int .u64 (((mpV bs) : Nat) : Int)), (9, .int .i64 (((mpE bs) : Nat) : Int)), (86, .bool false)] (by kernel_rfl) rfl ?_
              refine GL.k rfl hK453 (fun _ _ h => h) ?_
              refine G.no rfl ?_
              refine G.skipK hK451 (fun _ _ h => h) ?_
              refine G.seqK fun K458 hK459 => ?_
              refine G.region ?_
              refine GL.run (j := 1) 1 [1, 8, 9, 13] [(1, .slice A bs.length c), (8, .int .u64 (((mpV bs) : Nat) : Int)), (9, .int .i64 (((mpE bs) : Nat) : Int)), (13, .slice none 0 0)] (by kernel_rfl) rfl ?_
              refine GL.k rfl hK459 (fun _ _ h => h) ?_
              refine G.seqK fun K460 hK461 => ?_
              refine G.seqK fun K462 hK463 => ?_
              refine G.region ?_
              refine GL.run (j := 3) 3 [1, 8, 9, 13, 93, 94, 95] [(1, .slice A bs.length c), (8, .int .u64 (((mpV bs) : Nat) : Int)), (9, .int .i64 (((mpE bs) : Nat) : Int)), (13, .slice none 0 0), (93, .slice A bs.length c), (94, .int .i64 (bs.length : Int)), (95, .int .i64 0)] (by kernel_rfl) rfl ?_
              refine GL.k rfl hK463 (fun _ _ h => h) ?_
              refine G.block ?_
              have H464 := H444.rowNil 22 1
              refine G.fit [1, 8, 9, 13, 93, 94, 95] (M' := [(1, .slice A bs.length c), (8, .int .u64 (((mpV bs) : Nat) : Int)), (9, .int .i64 (((mpE bs) : Nat) : Int)), (13, .slice none 0 0), (93, .slice A bs.length c), (94, .int .i64 (bs.length : Int)), (95, .int .i64 0)]) (by kernel_rfl) ?_
              refine G.eq (M' := [(1, .slice A bs.length c), (8, .int .u64 (((mpV bs) : Nat) : Int)), (9, .int .i64 (((mpE bs) : Nat) : Int)), (13, .slice none (ndg (dcF 0 (bs.take 0))) 0), (93, .slice A bs.length c), (94, .int .i64 (bs.length : Int)), (95, .int .i64 0)]) (by rfl) ?_
              refine G.loop (X := Nat × Option Addr × Nat) (fun ⟨j, nA, nc⟩ => [(1, .slice A bs.length c), (8, .int .u64 (((mpV bs) : Nat) : Int)), (9, .int .i64 (((mpE bs) : Nat) : Int)), (13, .slice nA (ndg (dcF 0 (bs.take j))) nc), (93, .slice A bs.length c), (94, .int .i64 (bs.length : Int)), (95, .int .i64 (j : Int))]) (fun ⟨j, nA, nc⟩ w_ => (j ≤ bs.length) ∧ Hp w [] [.row nA (ndg (dcF 0 (bs.take j))) nc 22 1 (dg (digs (dcF 0 (bs.take j))))] w_) (fun ⟨j, nA, nc⟩ => bs.length - j) ⟨0, none, 0⟩ [1, 8, 9, 13, 93, 94, 95] (by kernel_rfl) ⟨Nat.zero_le _, H464⟩ ?_
              rintro ⟨j, nA, nc⟩ w465 ⟨hi466, H467⟩
              refine G.eq (M' := [(1, .slice A bs.length c), (8, .int .u64 (((mpV bs) : Nat) : Int)), (9, .int .i64 (((mpE bs) : Nat) : Int)), (13, .slice nA (ndg (dcF 0 (bs.take j))) nc), (93, .slice A bs.length c), (94, .int .i64 (bs.length : Int)), (95, .int .i64 (j : Int))]) rfl ?_
              have H467 : Hp w [] [.row nA (ndg (dcF 0 (bs.take j))) nc 22 1 (dg (digs (dcF 0 (bs.take j))))] w465 := H467
              have hj9 : j ≤ bs.length := hi466
              have hN13 : ndg (dcF 0 (bs.take j)) ≤ 13 := ndg_le.2 (Nat.lt_of_lt_of_le (dcF_lt60 (l := bs.take j) (fun x hx => hok.2.2 x (List.mem_of_mem_take hx)) (by rw [List.length_take]; omega)) (by decide))
              refine G.seqK fun K468 hK469 => ?_
              refine G.region ?_
              refine GL.run (j := 1) 1 [1, 8, 9, 13, 93, 94, 95, 96] [(1, .slice A bs.length c), (8, .int .u64 (((mpV bs) : Nat) : Int)), (9, .int .i64 (((mpE bs) : Nat) : Int)), (13, .slice nA (ndg (dcF 0 (bs.take j))) nc), (93, .slice A bs.length c), (94, .int .i64 (bs.length : Int)), (95, .int .i64 (j : Int)), (96, .bool (decide ((j : Int) < (bs.length : Int))))] (by kernel_rfl) rfl ?_
              refine GL.k rfl hK469 (fun _ _ h => h) ?_
              refine G.seqK fun K470 hK471 => ?_
              cases hb472 : (decide ((j : Int) < (bs.length : Int)))
              · skip
                have hb472f := of_decide_eq_false hb472
                refine G.no rfl ?_
                refine G.exitK hK461 (fun _ _ h => h) ?_
                refine G.seqK fun K473 hK474 => ?_
                refine G.seqK fun K475 hK476 => ?_
                refine G.region ?_
                refine GL.run (j := 2) 2 [1, 8, 9, 109, 110] [(1, .slice A bs.length c), (8, .int .u64 (((mpV bs) : Nat) : Int)), (9, .int .i64 (((mpE bs) : Nat) : Int)), (109, .slice nA (ndg (dcF 0 (bs.take j))) nc), (110, .agg #[.int .u64 4611686018427387904, .int .u64 0, .int .u64 0, .int .u64 0])] (by kernel_rfl) rfl ?_
                have hN482 : ndg 4611686018427387904 ≤ 4 := ndg_K (by decide)
                refine GL.call (j := 3) (Of_calls_n 4611686018427387904 (by decide) w465) (by kernel_rfl) rfl (fun e_ w481 hR => ?_)
                obtain ⟨A477, c478, rfl, H480⟩ := hR
                have H479 : Hp w [] [.row nA (ndg (dcF 0 (bs.take j))) nc 22 1 (dg (digs (dcF 0 (bs.take j)))), .row A477 (ndg 4611686018427387904) c478 22 1 (dg (digs 4611686018427387904))] w481 := H467.callNew H480
                refine ⟨_, rfl, [1, 8, 9, 109, 111], [(1, .slice A bs.length c), (8, .int .u64 (((mpV bs) : Nat) : Int)), (9, .int .i64 (((mpE bs) : Nat) : Int)), (109, .slice nA (ndg (dcF 0 (bs.take j))) nc), (111, .slice A477 (ndg 4611686018427387904) c478)], by kernel_rfl, ?_⟩
                refine GL.call (j := 4) (CmpN_calls (dcF 0 (bs.take j)) 4611686018427387904 nA A477 nc c478 w481 (H479.rdRow 0 rfl) (H479.rdRow 1 rfl) (Nat.le_trans hN13 (by decide)) (Nat.le_trans hN482 (by decide))) (by kernel_rfl) rfl (fun e_ w483 hR => ?_)
                obtain ⟨rfl, H485⟩ := hR
                have H484 : Hp w [] [.row nA (ndg (dcF 0 (bs.take j))) nc 22 1 (dg (digs (dcF 0 (bs.take j)))), .row A477 (ndg 4611686018427387904) c478 22 1 (dg (digs 4611686018427387904))] w483 := H479.callNil H485
                refine ⟨_, rfl, [1, 8, 9, 112], [(1, .slice A bs.length c), (8, .int .u64 (((mpV bs) : Nat) : Int)), (9, .int .i64 (((mpE bs) : Nat) : Int)), (112, .int .i64 (cmpN (dcF 0 (bs.take j)) 4611686018427387904))], by kernel_rfl, ?_⟩
                refine GL.run (j := 5) 1 [1, 8, 9, 113] [(1, .slice A bs.length c), (8, .int .u64 (((mpV bs) : Nat) : Int)), (9, .int .i64 (((mpE bs) : Nat) : Int)), (113, .bool (decide (0 < (cmpN (dcF 0 (bs.take j)) 4611686018427387904))))] (by kernel_rfl) rfl ?_
                refine GL.k rfl hK476 (fun _ _ h => h) ?_
                cases hb486 : (decide (0 < (cmpN (dcF 0 (bs.take j)) 4611686018427387904)))
                · skip
                  have hb486f := of_decide_eq_false hb486
                  have hcm : ¬ (4611686018427387904 < dcF 0 (bs.take j)) := fun h_ => of_decide_eq_false hb486 (cmpN_pos.2 h_)
                  rw [List.take_of_length_le (show bs.length ≤ j by omega)] at hcm
                  refine G.no rfl ?_
                  refine G.skipK hK474 (fun _ _ h => h) ?_
                  refine G.seqK fun K487 hK488 => ?_
                  refine G.heldP (Hp w [] [.row nA (ndg (dcF 0 (bs.take j))) nc 22 1 (dg (digs (dcF 0 (bs.take j)))), .row A477 (ndg 4611686018427387904) c478 22 1 (dg (digs 4611686018427387904))]) (by kernel_rfl) (by kernel_rfl) (fun c_ a_ d_ v_ w_ h_ => hPan c_ a_ d_ v_ w_ h_) ?_
                  have H489 := H484.drew
                  generalize ({ w483 with drawn := w483.drawn + 1 } : World) = w490 at H489 ⊢
                  have hS491 : Hp w [] [.row nA (ndg (dcF 0 (bs.take j))) nc 22 1 (dg (digs (dcF 0 (bs.take j)))), .row A477 (ndg 4611686018427387904) c478 22 1 (dg (digs 4611686018427387904))] w490 := H489.sub (List.Sublist.cons_cons _ (List.Sublist.cons_cons _ (List.Sublist.slnil)))
                  refine GP.run [0, 1, 2] [1, 8, 122] [(1, .slice A bs.length c), (8, .int .u64 (((mpV bs) : Nat) : Int)), (122, .bool ((((mpE bs) : Nat) : Int) == 0))] [0, 1, 2] (by kernel_rfl) rfl hS491 ?_
                  have hb492 : ((((mpE bs) : Nat) : Int) == 0) = true := by rw [mpE, if_pos hok, if_pos (by omega)]; rfl
                  rw [hb492]
                  refine GP.run [3, 6] [122, 123, 126] [(122, .bool true), (123, .int .u64 (((mpV bs) : Nat) : Int)), (126, .slice A bs.length c)] [0, 1, 2, 3, 6] (by kernel_rfl) rfl hS491 ?_
                  refine GP.sem 7 (fun w_ H_ => run_toStr (P := Tryd.prog) (src := 24) (dst := 9) (A := A) (bs := bs) (n := bs.length) (c := c) (by kernel_rfl) (by kernel_rfl) (hx.hp H_) (rfl)) [122, 123, 127] [(122, .bool true), (123, .int .u64 (((mpV bs) : Nat) : Int)), (127, .string (strOf bs))] (by kernel_rfl) (by kernel_rfl) (by kernel_rfl) hS491 ?_
                  refine GP.call 4 (Text_calls (mpV bs) (mpV_lt _) w490 ((Lib.tabBelow_of_tabIs hT) _ H489.below)) (by kernel_rfl) (by kernel_rfl) (fun e_ w495 hR => ?_)
                  obtain ⟨A493, c494, rfl, H497⟩ := hR
                  have H496 : Hp w [] [.row nA (ndg (dcF 0 (bs.take j))) nc 22 1 (dg (digs (dcF 0 (bs.take j)))), .row A477 (ndg 4611686018427387904) c478 22 1 (dg (digs 4611686018427387904)), .row A493 ((Lib.decDigits (mpV bs)).length) c494 5 1 (by8 (Lib.decDigits (mpV bs)))] w495 := H489.callNew H497
                  have hS498 : Hp w [] [.row nA (ndg (dcF 0 (bs.take j))) nc 22 1 (dg (digs (dcF 0 (bs.take j)))), .row A477 (ndg 4611686018427387904) c478 22 1 (dg (digs 4611686018427387904))] w495 := H496.sub (List.Sublist.cons_cons _ (List.Sublist.cons_cons _ (List.Sublist.cons _ (List.Sublist.slnil))))
                  refine ⟨_, rfl, hS498, [122, 124, 127], [(122, .bool true), (124, .slice A493 ((Lib.decDigits (mpV bs)).length) c494), (127, .string (strOf bs))], by kernel_rfl, ?_⟩
                  refine GP.weak (Hp w [] [.row nA (ndg (dcF 0 (bs.take j))) nc 22 1 (dg (digs (dcF 0 (bs.take j)))), .row A477 (ndg 4611686018427387904) c478 22 1 (dg (digs 4611686018427387904)), .row A493 ((Lib.decDigits (mpV bs)).length) c494 5 1 (by8 (Lib.decDigits (mpV bs)))]) (fun w_ h_ => h_.sub (List.Sublist.cons_cons _ (List.Sublist.cons_cons _ (List.Sublist.cons _ (List.Sublist.slnil))))) ?_
                  have hS499 : Hp w [] [.row nA (ndg (dcF 0 (bs.take j))) nc 22 1 (dg (digs (dcF 0 (bs.take j)))), .row A477 (ndg 4611686018427387904) c478 22 1 (dg (digs 4611686018427387904)), .row A493 ((Lib.decDigits (mpV bs)).length) c494 5 1 (by8 (Lib.decDigits (mpV bs)))] w495 := H496.sub (List.Sublist.cons_cons _ (List.Sublist.cons_cons _ (List.Sublist.cons_cons _ (List.Sublist.slnil))))
                  refine GP.sem 5 (fun w_ H_ => run_toStr (P := Tryd.prog) (src := 24) (dst := 9) (A := A493) (bs := (Lib.decDigits (mpV bs))) (n := (Lib.decDigits (mpV bs)).length) (c := c494) (by kernel_rfl) (by kernel_rfl) (H_.rdRow 2 rfl) (rfl)) [122, 125, 127] [(122, .bool true), (125, .string (strOf (Lib.decDigits (mpV bs)))), (127, .string (strOf bs))] (by kernel_rfl) (by kernel_rfl) (by kernel_rfl) hS499 ?_
                  refine GP.sem 8 (fun w_ H_ => run_str_eql (P := Tryd.prog) (t := 9) (Lib.decDigits (mpV bs)) bs _) [122, 128] [(122, .bool true), (128, .bool ((Lib.decDigits (mpV bs)) == bs))] (by kernel_rfl) (by kernel_rfl) (by kernel_rfl) hS499 ?_
                  refine GP.run [9, 10] [4] [(4, .bool ((Lib.decDigits (mpV bs)) == bs))] [0, 1, 2, 3, 6, 7, 4, 5, 8, 9, 10] (by kernel_rfl) rfl hS499 ?_
                  refine GP.k (by kernel_rfl) hK488 (fun _ _ h => h) ?_
                  refine G.ret ?_
                  intro F_ hF_ hM_
                  refine hRet _ _ (bodyPost_1 rfl (RV.tmp rfl) ?_ F_ hF_ hM_)
                  have hb500 : ((Lib.decDigits (mpV bs)) == bs) = true := by rw [mpV, if_pos hok, if_pos (by omega), dd_back' hok]; exact beq_self_eq_true _
                  rw [hb500]
                  exact ⟨rfl, H496.sub (List.nil_sublist _)⟩
                · skip
                  have hb486f := of_decide_eq_true hb486
                  have hcm : 4611686018427387904 < dcF 0 (bs.take j) := cmpN_pos.1 (of_decide_eq_true hb486)
                  rw [List.take_of_length_le (show bs.length ≤ j by omega)] at hcm
                  refine G.yes rfl ?_
                  refine G.seqK fun K501 hK502 => ?_
                  refine G.region ?_
                  refine GL.run (j := 3) 3 [8, 116] [(8, .int .u64 (((mpV bs) : Nat) : Int)), (116, .bool ((((mpE bs) : Nat) : Int) == 4))] (by kernel_rfl) rfl ?_
                  have hb503 : ((((mpE bs) : Nat) : Int) == 4) = true := by rw [mpE, if_pos hok, if_neg (by omega)]; rfl
                  rw [hb503]
                  refine GL.run (j := 7) 4 [4] [(4, .bool ((((mpV bs) : Nat) : Int) == 0))] (by kernel_rfl) rfl ?_
                  refine GL.k rfl hK502 (fun _ _ h => h) ?_
                  refine G.ret ?_
                  intro F_ hF_ hM_
                  refine hRet _ _ (bodyPost_1 rfl (RV.tmp rfl) ?_ F_ hF_ hM_)
                  have hb504 : ((((mpV bs) : Nat) : Int) == 0) = true := by first | (rw [mpV, if_neg hno]; rfl) | (rw [mpV, if_pos hok, if_neg (by omega)]; rfl)
                  rw [hb504]
                  exact ⟨rfl, H484.sub (List.nil_sublist _)⟩
              · skip
                have hb472f := of_decide_eq_true hb472
                refine G.yes rfl ?_
                refine G.skipK hK471 (fun _ _ h => h) ?_
                refine G.seqK fun K505 hK506 => ?_
                refine G.block ?_
                refine G.seqK fun K507 hK508 => ?_
                refine G.region ?_
                refine GL.sem (j := 1) (run_idxRd (P := Tryd.prog) (k := .i64) (t := 24) (A := A) (len := bs.length) (cap := c) (j := j) (by kernel_rfl) rfl (hx.hp H467) (by rw [by8_length]) (by first | rfl | omega | (simp only [List.length_cons, List.length_nil, List.length_drop, List.length_take, List.length_append] <;> omega))) [1, 8, 9, 13, 93, 94, 95, 97] [(1, .slice A bs.length c), (8, .int .u64 (((mpV bs) : Nat) : Int)), (9, .int .i64 (((mpE bs) : Nat) : Int)), (13, .slice nA (ndg (dcF 0 (bs.take j))) nc), (93, .slice A bs.length c), (94, .int .i64 (bs.length : Int)), (95, .int .i64 (j : Int)), (97, .pointer (Option.map (fun x => Addr.add x j) A))] (by kernel_rfl) (by kernel_rfl) rfl ?_
                obtain ⟨b509, hat510⟩ : ∃ b : UInt8, bs[j]? = some b := ⟨_, List.getElem?_eq_getElem (by first | rfl | omega | (simp only [List.length_cons, List.length_nil, List.length_drop, List.length_take, List.length_append] <;> omega))⟩
                refine GL.sem (j := 2) (run_ldRd (P := Tryd.prog) (ty := 5) (A := A) (j := j) (v := .int .u8 (b509.toNat : Int)) (by kernel_rfl) (hx.hp H467) (by8_at hat510)) [1, 8, 9, 13, 93, 94, 95, 98] [(1, .slice A bs.length c), (8, .int .u64 (((mpV bs) : Nat) : Int)), (9, .int .i64 (((mpE bs) : Nat) : Int)), (13, .slice nA (ndg (dcF 0 (bs.take j))) nc), (93, .slice A bs.length c), (94, .int .i64 (bs.length : Int)), (95, .int .i64 (j : Int)), (98, .int .u8 (b509.toNat : Int))] (by kernel_rfl) (by kernel_rfl) rfl ?_
                refine GL.run (j := 3) 1 [1, 8, 9, 13, 15, 93, 94, 95] [(1, .slice A bs.length c), (8, .int .u64 (((mpV bs) : Nat) : Int)), (9, .int .i64 (((mpE bs) : Nat) : Int)), (13, .slice nA (ndg (dcF 0 (bs.take j))) nc), (15, .int .u8 (b509.toNat : Int)), (93, .slice A bs.length c), (94, .int .i64 (bs.length : Int)), (95, .int .i64 (j : Int))] (by kernel_rfl) rfl ?_
                refine GL.k rfl hK508 (fun _ _ h => h) ?_
                refine G.region ?_
                have := 0
                · skip
                  have hdgb : 48 ≤ b509.toNat ∧ b509.toNat ≤ 57 := hok.2.2 b509 (List.mem_of_getElem? hat510)
                  refine GL.run (j := 1) 1 [1, 8, 9, 15, 93, 94, 95, 99] [(1, .slice A bs.length c), (8, .int .u64 (((mpV bs) : Nat) : Int)), (9, .int .i64 (((mpE bs) : Nat) : Int)), (15, .int .u8 (b509.toNat : Int)), (93, .slice A bs.length c), (94, .int .i64 (bs.length : Int)), (95, .int .i64 (j : Int)), (99, .slice nA (ndg (dcF 0 (bs.take j))) nc)] (by kernel_rfl) rfl ?_
                  obtain ⟨p511, w512, r513, H514⟩ := H467.madeRow (P := Tryd.prog) (Instr.buildSlice 31 1 #[(0, .int .u64 10)]) (fun b_ => .slice (some ⟨b_, 0, none⟩) 1 1) [.int .u64 10] 22 1 1 1 (by kernel_rfl) (by decide) (by decide) rfl
                  have H514 : Hp w [] [.row nA (ndg (dcF 0 (bs.take j))) nc 22 1 (dg (digs (dcF 0 (bs.take j)))), .row (some ⟨p511, 0, none⟩) 1 1 22 1 (dg [10])] w512 := H514
                  refine GL.sem (j := 2) (r513) [1, 8, 9, 15, 93, 94, 95, 99, 100] [(1, .slice A bs.length c), (8, .int .u64 (((mpV bs) : Nat) : Int)), (9, .int .i64 (((mpE bs) : Nat) : Int)), (15, .int .u8 (b509.toNat : Int)), (93, .slice A bs.length c), (94, .int .i64 (bs.length : Int)), (95, .int .i64 (j : Int)), (99, .slice nA (ndg (dcF 0 (bs.take j))) nc), (100, .slice (some ⟨p511, 0, none⟩) 1 1)] (by kernel_rfl) (by kernel_rfl) rfl ?_
                  have hN522 : ndg ((dcF 0 (bs.take j)) * 10) ≤ 14 := ndg_mul hN13 (show ndg 10 ≤ 1 from ndg_le.2 (by decide))
                  refine GL.call (j := 3) (MulN_calls (dcF 0 (bs.take j)) 10 nA nc (some ⟨p511, 0, none⟩) 1 w512 (H514.rdRow 0 rfl) (H514.rdRow 1 rfl) (Nat.le_trans hN13 (by decide)) (Nat.le_trans (show ndg 10 ≤ 1 from ndg_le.2 (by decide)) (by decide))) (by kernel_rfl) rfl (fun e_ w519 hR => ?_)
                  obtain ⟨A515, c516, rfl, H518⟩ := hR
                  have H517 : Hp w [] [.row nA (ndg (dcF 0 (bs.take j))) nc 22 1 (dg (digs (dcF 0 (bs.take j)))), .row (some ⟨p511, 0, none⟩) 1 1 22 1 (dg [10]), .row A515 (ndg ((dcF 0 (bs.take j)) * 10)) c516 22 1 (dg (digs ((dcF 0 (bs.take j)) * 10)))] w519 := H514.callNew H518
                  refine ⟨_, rfl, [1, 8, 9, 15, 93, 94, 95, 101], [(1, .slice A bs.length c), (8, .int .u64 (((mpV bs) : Nat) : Int)), (9, .int .i64 (((mpE bs) : Nat) : Int)), (15, .int .u8 (b509.toNat : Int)), (93, .slice A bs.length c), (94, .int .i64 (bs.length : Int)), (95, .int .i64 (j : Int)), (101, .slice A515 (ndg ((dcF 0 (bs.take j)) * 10)) c516)], by kernel_rfl, ?_⟩
                  refine GL.run (j := 7) 4 [1, 8, 9, 93, 94, 95, 101, 105] [(1, .slice A bs.length c), (8, .int .u64 (((mpV bs) : Nat) : Int)), (9, .int .i64 (((mpE bs) : Nat) : Int)), (93, .slice A bs.length c), (94, .int .i64 (bs.length : Int)), (95, .int .i64 (j : Int)), (101, .slice A515 (ndg ((dcF 0 (bs.take j)) * 10)) c516), (105, .agg #[.int .u64 (IntKind.u64.wrap (IntKind.u8.wrap ((b509.toNat : Int) - 48))), .int .u64 0, .int .u64 0, .int .u64 0])] (by kernel_rfl) rfl ?_
                  have e523 : (IntKind.u8.wrap ((b509.toNat : Int) - 48)) = ((b509.toNat - 48 : Nat) : Int) := by rw [in_u8 (by omega)]; omega
                  have e524 : (IntKind.u64.wrap ((b509.toNat - 48 : Nat) : Int)) = ((b509.toNat - 48 : Nat) : Int) := in_u64 (by omega)
                  refine GL.eq (M' := [(1, .slice A bs.length c), (8, .int .u64 (((mpV bs) : Nat) : Int)), (9, .int .i64 (((mpE bs) : Nat) : Int)), (93, .slice A bs.length c), (94, .int .i64 (bs.length : Int)), (95, .int .i64 (j : Int)), (101, .slice A515 (ndg ((dcF 0 (bs.take j)) * 10)) c516), (105, .agg #[.int .u64 ((b509.toNat - 48 : Nat) : Int), .int .u64 0, .int .u64 0, .int .u64 0])]) (by rw [e523, e524]) ?_
                  clear e523 e524
                  have hN530 : ndg (b509.toNat - 48) ≤ 4 := ndg_K (Nat.lt_trans (show b509.toNat - 48 < 256 by omega) (by decide))
                  refine GL.call (j := 8) (Of1_calls_n (b509.toNat - 48) (Nat.lt_trans (show b509.toNat - 48 < 256 by omega) (by decide)) w519) (by kernel_rfl) rfl (fun e_ w529 hR => ?_)
                  obtain ⟨A525, c526, rfl, H528⟩ := hR
                  have H527 : Hp w [] [.row nA (ndg (dcF 0 (bs.take j))) nc 22 1 (dg (digs (dcF 0 (bs.take j)))), .row (some ⟨p511, 0, none⟩) 1 1 22 1 (dg [10]), .row A515 (ndg ((dcF 0 (bs.take j)) * 10)) c516 22 1 (dg (digs ((dcF 0 (bs.take j)) * 10))), .row A525 (ndg (b509.toNat - 48)) c526 22 1 (dg (digs (b509.toNat - 48)))] w529 := H517.callNew H528
                  refine ⟨_, rfl, [1, 8, 9, 93, 94, 95, 101, 106], [(1, .slice A bs.length c), (8, .int .u64 (((mpV bs) : Nat) : Int)), (9, .int .i64 (((mpE bs) : Nat) : Int)), (93, .slice A bs.length c), (94, .int .i64 (bs.length : Int)), (95, .int .i64 (j : Int)), (101, .slice A515 (ndg ((dcF 0 (bs.take j)) * 10)) c516), (106, .slice A525 (ndg (b509.toNat - 48)) c526)], by kernel_rfl, ?_⟩
                  have hN536 : ndg (((dcF 0 (bs.take j)) * 10) + (b509.toNat - 48)) ≤ 15 := ndg_add (i := 14) (Nat.le_trans hN522 (by decide)) (Nat.le_trans hN530 (by decide))
                  refine GL.call (j := 9) (AddN_calls ((dcF 0 (bs.take j)) * 10) (b509.toNat - 48) A515 c516 A525 c526 w529 (H527.rdRow 2 rfl) (H527.rdRow 3 rfl) (Nat.le_trans hN522 (by decide)) (Nat.le_trans hN530 (by decide))) (by kernel_rfl) rfl (fun e_ w535 hR => ?_)
                  obtain ⟨A531, c532, rfl, H534⟩ := hR
                  have H533 : Hp w [] [.row nA (ndg (dcF 0 (bs.take j))) nc 22 1 (dg (digs (dcF 0 (bs.take j)))), .row (some ⟨p511, 0, none⟩) 1 1 22 1 (dg [10]), .row A515 (ndg ((dcF 0 (bs.take j)) * 10)) c516 22 1 (dg (digs ((dcF 0 (bs.take j)) * 10))), .row A525 (ndg (b509.toNat - 48)) c526 22 1 (dg (digs (b509.toNat - 48))), .row A531 (ndg (((dcF 0 (bs.take j)) * 10) + (b509.toNat - 48))) c532 22 1 (dg (digs (((dcF 0 (bs.take j)) * 10) + (b509.toNat - 48))))] w535 := H527.callNew H534
                  refine ⟨_, rfl, [1, 8, 9, 93, 94, 95, 107], [(1, .slice A bs.length c), (8, .int .u64 (((mpV bs) : Nat) : Int)), (9, .int .i64 (((mpE bs) : Nat) : Int)), (93, .slice A bs.length c), (94, .int .i64 (bs.length : Int)), (95, .int .i64 (j : Int)), (107, .slice A531 (ndg (((dcF 0 (bs.take j)) * 10) + (b509.toNat - 48))) c532)], by kernel_rfl, ?_⟩
                  refine GL.run (j := 10) 1 [1, 8, 9, 13, 93, 94, 95] [(1, .slice A bs.length c), (8, .int .u64 (((mpV bs) : Nat) : Int)), (9, .int .i64 (((mpE bs) : Nat) : Int)), (13, .slice A531 (ndg (((dcF 0 (bs.take j)) * 10) + (b509.toNat - 48))) c532), (93, .slice A bs.length c), (94, .int .i64 (bs.length : Int)), (95, .int .i64 (j : Int))] (by kernel_rfl) rfl ?_
                  refine GL.k rfl hK506 (fun _ _ h => h) ?_
                  refine G.region ?_
                  refine GL.run (j := 2) 2 [1, 8, 9, 13, 93, 94, 95] [(1, .slice A bs.length c), (8, .int .u64 (((mpV bs) : Nat) : Int)), (9, .int .i64 (((mpE bs) : Nat) : Int)), (13, .slice A531 (ndg (((dcF 0 (bs.take j)) * 10) + (b509.toNat - 48))) c532), (93, .slice A bs.length c), (94, .int .i64 (bs.length : Int)), (95, .int .i64 (IntKind.i64.wrap ((j : Int) + 1)))] (by kernel_rfl) rfl ?_
                  have e537 : (IntKind.i64.wrap ((j : Int) + 1)) = ((j + 1 : Nat) : Int) := by rw [in_i64 (by omega)]; omega
                  refine GL.eq (M' := [(1, .slice A bs.length c), (8, .int .u64 (((mpV bs) : Nat) : Int)), (9, .int .i64 (((mpE bs) : Nat) : Int)), (13, .slice A531 (ndg (((dcF 0 (bs.take j)) * 10) + (b509.toNat - 48))) c532), (93, .slice A bs.length c), (94, .int .i64 (bs.length : Int)), (95, .int .i64 ((j + 1 : Nat) : Int))]) (by rw [e537]) ?_
                  clear e537
                  have H538 : Hp w [] [.row A531 (ndg (((dcF 0 (bs.take j)) * 10) + (b509.toNat - 48))) c532 22 1 (dg (digs (((dcF 0 (bs.take j)) * 10) + (b509.toNat - 48))))] w535 := H533.sub (List.Sublist.cons _ (List.Sublist.cons _ (List.Sublist.cons _ (List.Sublist.cons _ (List.Sublist.cons_cons _ (List.Sublist.slnil))))))
                  have H539 := H538
                  rw [← dcF_take hat510] at H539
                  refine GL.fit (ts := [1, 8, 9, 13, 93, 94, 95]) (M' := [(1, .slice A bs.length c), (8, .int .u64 (((mpV bs) : Nat) : Int)), (9, .int .i64 (((mpE bs) : Nat) : Int)), (13, .slice A531 (ndg (((dcF 0 (bs.take j)) * 10) + (b509.toNat - 48))) c532), (93, .slice A bs.length c), (94, .int .i64 (bs.length : Int)), (95, .int .i64 ((j + 1 : Nat) : Int))]) (by kernel_rfl) ?_
                  refine GL.eq (M' := [(1, .slice A bs.length c), (8, .int .u64 (((mpV bs) : Nat) : Int)), (9, .int .i64 (((mpE bs) : Nat) : Int)), (13, .slice A531 (ndg (dcF 0 (bs.take (j + 1)))) c532), (93, .slice A bs.length c), (94, .int .i64 (bs.length : Int)), (95, .int .i64 (((j + 1) : Nat) : Int))]) (by rw [dcF_take hat510]) ?_
                  exact GL.again ⟨(j + 1), A531, c532⟩ [1, 8, 9, 13, 93, 94, 95] rfl (by kernel_rfl) (by show bs.length - (j + 1) < bs.length - j; omega) ⟨by omega, H539⟩
          · skip
            have hb449f := of_decide_eq_true hb449
            refine G.yes rfl ?_
            refine G.skipK hK448 (fun _ _ h => h) ?_
            refine G.seqK fun K540 hK541 => ?_
            refine G.block ?_
            refine G.seqK fun K542 hK543 => ?_
            refine G.region ?_
            refine GL.sem (j := 1) (run_idxRd (P := Tryd.prog) (k := .i64) (t := 24) (A := A) (len := bs.length) (cap := c) (j := i) (by kernel_rfl) rfl (hx.hp H444) (by rw [by8_length]) (by first | rfl | omega | (simp only [List.length_cons, List.length_nil, List.length_drop, List.length_take, List.length_append] <;> omega))) [1, 8, 9, 10, 69, 70, 71, 73] [(1, .slice A bs.length c), (8, .int .u64 (((mpV bs) : Nat) : Int)), (9, .int .i64 (((mpE bs) : Nat) : Int)), (10, .bool dg), (69, .slice A bs.length c), (70, .int .i64 (bs.length : Int)), (71, .int .i64 (i : Int)), (73, .pointer (Option.map (fun x => Addr.add x i) A))] (by kernel_rfl) (by kernel_rfl) rfl ?_
            obtain ⟨b544, hat545⟩ : ∃ b : UInt8, bs[i]? = some b := ⟨_, List.getElem?_eq_getElem (by first | rfl | omega | (simp only [List.length_cons, List.length_nil, List.length_drop, List.length_take, List.length_append] <;> omega))⟩
            refine GL.sem (j := 2) (run_ldRd (P := Tryd.prog) (ty := 5) (A := A) (j := i) (v := .int .u8 (b544.toNat : Int)) (by kernel_rfl) (hx.hp H444) (by8_at hat545)) [1, 8, 9, 10, 69, 70, 71, 74] [(1, .slice A bs.length c), (8, .int .u64 (((mpV bs) : Nat) : Int)), (9, .int .i64 (((mpE bs) : Nat) : Int)), (10, .bool dg), (69, .slice A bs.length c), (70, .int .i64 (bs.length : Int)), (71, .int .i64 (i : Int)), (74, .int .u8 (b544.toNat : Int))] (by kernel_rfl) (by kernel_rfl) rfl ?_
            refine GL.run (j := 3) 1 [1, 8, 9, 10, 12, 69, 70, 71] [(1, .slice A bs.length c), (8, .int .u64 (((mpV bs) : Nat) : Int)), (9, .int .i64 (((mpE bs) : Nat) : Int)), (10, .bool dg), (12, .int .u8 (b544.toNat : Int)), (69, .slice A bs.length c), (70, .int .i64 (bs.length : Int)), (71, .int .i64 (i : Int))] (by kernel_rfl) rfl ?_
            refine GL.k rfl hK543 (fun _ _ h => h) ?_
            refine G.region ?_
            refine GL.run (j := 2) 2 [1, 8, 9, 12, 69, 70, 71, 76] [(1, .slice A bs.length c), (8, .int .u64 (((mpV bs) : Nat) : Int)), (9, .int .i64 (((mpE bs) : Nat) : Int)), (12, .int .u8 (b544.toNat : Int)), (69, .slice A bs.length c), (70, .int .i64 (bs.length : Int)), (71, .int .i64 (i : Int)), (76, .bool dg)] (by kernel_rfl) rfl ?_
            rcases (Bool.eq_false_or_eq_true dg).symm with hb546 | hb546
            · skip
              refine GL.eq (M' := [(1, .slice A bs.length c), (8, .int .u64 (((mpV bs) : Nat) : Int)), (9, .int .i64 (((mpE bs) : Nat) : Int)), (12, .int .u8 (b544.toNat : Int)), (69, .slice A bs.length c), (70, .int .i64 (bs.length : Int)), (71, .int .i64 (i : Int)), (76, .bool false)]) (by first | (rw [hb546]; done) | (rw [hb546]; rfl)) ?_
              refine GL.run (j := 10) 8 [1, 8, 9, 10, 69, 70, 71] [(1, .slice A bs.length c), (8, .int .u64 (((mpV bs) : Nat) : Int)), (9, .int .i64 (((mpE bs) : Nat) : Int)), (10, .bool false), (69, .slice A bs.length c), (70, .int .i64 (bs.length : Int)), (71, .int .i64 (i : Int))] (by kernel_rfl) rfl ?_
              refine GL.k rfl hK541 (fun _ _ h => h) ?_
              refine G.region ?_
              refine GL.run (j := 2) 2 [1, 8, 9, 10, 69, 70, 71] [(1, .slice A bs.length c), (8, .int .u64 (((mpV bs) : Nat) : Int)), (9, .int .i64 (((mpE bs) : Nat) : Int)), (10, .bool false), (69, .slice A bs.length c), (70, .int .i64 (bs.length : Int)), (71, .int .i64 (IntKind.i64.wrap ((i : Int) + 1)))] (by kernel_rfl) rfl ?_
              have e547 : (IntKind.i64.wrap ((i : Int) + 1)) = ((i + 1 : Nat) : Int) := by rw [in_i64 (by omega)]; omega
              refine GL.eq (M' := [(1, .slice A bs.length c), (8, .int .u64 (((mpV bs) : Nat) : Int)), (9, .int .i64 (((mpE bs) : Nat) : Int)), (10, .bool false), (69, .slice A bs.length c), (70, .int .i64 (bs.length : Int)), (71, .int .i64 ((i + 1 : Nat) : Int))]) (by rw [e547]) ?_
              clear e547
              refine GL.fit (ts := [1, 8, 9, 10, 69, 70, 71]) (M' := [(1, .slice A bs.length c), (8, .int .u64 (((mpV bs) : Nat) : Int)), (9, .int .i64 (((mpE bs) : Nat) : Int)), (10, .bool false), (69, .slice A bs.length c), (70, .int .i64 (bs.length : Int)), (71, .int .i64 ((i + 1 : Nat) : Int))]) (by kernel_rfl) ?_
              refine GL.eq (M' := [(1, .slice A bs.length c), (8, .int .u64 (((mpV bs) : Nat) : Int)), (9, .int .i64 (((mpE bs) : Nat) : Int)), (10, .bool false), (69, .slice A bs.length c), (70, .int .i64 (bs.length : Int)), (71, .int .i64 (((i + 1) : Nat) : Int))]) (by rfl) ?_
              exact GL.again ⟨(i + 1), false⟩ [1, 8, 9, 10, 69, 70, 71] rfl (by kernel_rfl) (by show bs.length - (i + 1) < bs.length - i; omega) ⟨⟨by omega, ⟨fun h_ => (by cases h_), fun h_ => absurd (hdg.2 ((dgF_step hat545).1 h_).1) (by rw [hb546]; decide)⟩⟩, H444⟩
            · skip
              refine GL.eq (M' := [(1, .slice A bs.length c), (8, .int .u64 (((mpV bs) : Nat) : Int)), (9, .int .i64 (((mpE bs) : Nat) : Int)), (12, .int .u8 (b544.toNat : Int)), (69, .slice A bs.length c), (70, .int .i64 (bs.length : Int)), (71, .int .i64 (i : Int)), (76, .bool true)]) (by first | (rw [hb546]; done) | (rw [hb546]; rfl)) ?_
              refine GL.run (j := 6) 4 [1, 8, 9, 12, 69, 70, 71, 80] [(1, .slice A bs.length c), (8, .int .u64 (((mpV bs) : Nat) : Int)), (9, .int .i64 (((mpE bs) : Nat) : Int)), (12, .int .u8 (b544.toNat : Int)), (69, .slice A bs.length c), (70, .int .i64 (bs.length : Int)), (71, .int .i64 (i : Int)), (80, .bool (decide (48 ≤ (b544.toNat : Int))))] (by kernel_rfl) rfl ?_
              cases hb548 : (decide (48 ≤ (b544.toNat : Int)))
              · skip
                have hb548f := of_decide_eq_false hb548
                refine GL.run (j := 10) 4 [1, 8, 9, 10, 69, 70, 71] [(1, .slice A bs.length c), (8, .int .u64 (((mpV bs) : Nat) : Int)), (9, .int .i64 (((mpE bs) : Nat) : Int)), (10, .bool false), (69, .slice A bs.length c), (70, .int .i64 (bs.length : Int)), (71, .int .i64 (i : Int))] (by kernel_rfl) rfl ?_
                refine GL.k rfl hK541 (fun _ _ h => h) ?_
                refine G.region ?_
                refine GL.run (j := 2) 2 [1, 8, 9, 10, 69, 70, 71] [(1, .slice A bs.length c), (8, .int .u64 (((mpV bs) : Nat) : Int)), (9, .int .i64 (((mpE bs) : Nat) : Int)), (10, .bool false), (69, .slice A bs.length c), (70, .int .i64 (bs.length : Int)), (71, .int .i64 (IntKind.i64.wrap ((i : Int) + 1)))] (by kernel_rfl) rfl ?_
                have e549 : (IntKind.i64.wrap ((i : Int) + 1)) = ((i + 1 : Nat) : Int) := by rw [in_i64 (by omega)]; omega
                refine GL.eq (M' := [(1, .slice A bs.length c), (8, .int .u64 (((mpV bs) : Nat) : Int)), (9, .int .i64 (((mpE bs) : Nat) : Int)), (10, .bool false), (69, .slice A bs.length c), (70, .int .i64 (bs.length : Int)), (71, .int .i64 ((i + 1 : Nat) : Int))]) (by rw [e549]) ?_
                clear e549
                refine GL.fit (ts := [1, 8, 9, 10, 69, 70, 71]) (M' := [(1, .slice A bs.length c), (8, .int .u64 (((mpV bs) : Nat) : Int)), (9, .int .i64 (((mpE bs) : Nat) : Int)), (10, .bool false), (69, .slice A bs.length c), (70, .int .i64 (bs.length : Int)), (71, .int .i64 ((i + 1 : Nat) : Int))]) (by kernel_rfl) ?_
                refine GL.eq (M' := [(1, .slice A bs.length c), (8, .int .u64 (((mpV bs) : Nat) : Int)), (9, .int .i64 (((mpE bs) : Nat) : Int)), (10, .bool false), (69, .slice A bs.length c), (70, .int .i64 (bs.length : Int)), (71, .int .i64 (((i + 1) : Nat) : Int))]) (by rfl) ?_
                exact GL.again ⟨(i + 1), false⟩ [1, 8, 9, 10, 69, 70, 71] rfl (by kernel_rfl) (by show bs.length - (i + 1) < bs.length - i; omega) ⟨⟨by omega, ⟨fun h_ => (by cases h_), fun h_ => absurd (show 48 ≤ b544.toNat ∧ b544.toNat ≤ 57 from ((dgF_step hat545).1 h_).2) (by omega)⟩⟩, H444⟩
              · skip
                have hb548f := of_decide_eq_true hb548
                refine GL.run (j := 10) 4 [1, 8, 9, 10, 69, 70, 71] [(1, .slice A bs.length c), (8, .int .u64 (((mpV bs) : Nat) : Int)), (9, .int .i64 (((mpE bs) : Nat) : Int)), (10, .bool (decide ((b544.toNat : Int) ≤ 57))), (69, .slice A bs.length c), (70, .int .i64 (bs.length : Int)), (71, .int .i64 (i : Int))] (by kernel_rfl) rfl ?_
                refine GL.k rfl hK541 (fun _ _ h => h) ?_
                refine G.region ?_
                refine GL.run (j := 2) 2 [1, 8, 9, 10, 69, 70, 71] [(1, .slice A bs.length c), (8, .int .u64 (((mpV bs) : Nat) : Int)), (9, .int .i64 (((mpE bs) : Nat) : Int)), (10, .bool (decide ((b544.toNat : Int) ≤ 57))), (69, .slice A bs.length c), (70, .int .i64 (bs.length : Int)), (71, .int .i64 (IntKind.i64.wrap ((i : Int) + 1)))] (by kernel_rfl) rfl ?_
                have e550 : (IntKind.i64.wrap ((i : Int) + 1)) = ((i + 1 : Nat) : Int) := by rw [in_i64 (by omega)]; omega
                refine GL.eq (M' := [(1, .slice A bs.length c), (8, .int .u64 (((mpV bs) : Nat) : Int)), (9, .int .i64 (((mpE bs) : Nat) : Int)), (10, .bool (decide ((b544.toNat : Int) ≤ 57))), (69, .slice A bs.length c), (70, .int .i64 (bs.length : Int)), (71, .int .i64 ((i + 1 : Nat) : Int))]) (by rw [e550]) ?_
                clear e550
                refine GL.fit (ts := [1, 8, 9, 10, 69, 70, 71]) (M' := [(1, .slice A bs.length c), (8, .int .u64 (((mpV bs) : Nat) : Int)), (9, .int .i64 (((mpE bs) : Nat) : Int)), (10, .bool (decide ((b544.toNat : Int) ≤ 57))), (69, .slice A bs.length c), (70, .int .i64 (bs.length : Int)), (71, .int .i64 ((i + 1 : Nat) : Int))]) (by kernel_rfl) ?_
                refine GL.eq (M' := [(1, .slice A bs.length c), (8, .int .u64 (((mpV bs) : Nat) : Int)), (9, .int .i64 (((mpE bs) : Nat) : Int)), (10, .bool (decide ((b544.toNat : Int) ≤ 57))), (69, .slice A bs.length c), (70, .int .i64 (bs.length : Int)), (71, .int .i64 (((i + 1) : Nat) : Int))]) (by rfl) ?_
                exact GL.again ⟨(i + 1), (decide ((b544.toNat : Int) ≤ 57))⟩ [1, 8, 9, 10, 69, 70, 71] rfl (by kernel_rfl) (by show bs.length - (i + 1) < bs.length - i; omega) ⟨⟨by omega, ⟨fun h_ => (dgF_step hat545).2 ⟨hdg.1 hb546, (show 48 ≤ b544.toNat ∧ b544.toNat ≤ 57 from ⟨by omega, by have q_ := of_decide_eq_true h_; omega⟩)⟩, fun h_ => decide_eq_true (by have q_ : 48 ≤ b544.toNat ∧ b544.toNat ≤ 57 := ((dgF_step hat545).1 h_).2; omega)⟩⟩, H444⟩
  · skip
    have hb10f := of_decide_eq_true hb10
    refine G.yes rfl ?_
    refine G.seqK fun K551 hK552 => ?_
    refine G.region ?_
    refine GL.call (j := 1) (lives_calls w7) (by kernel_rfl) rfl (fun e_ w553 hR => ?_)
    obtain ⟨rfl, H555⟩ := hR
    have H554 : Hp w [] [] w553 := H8.callNil H555
    refine ⟨_, rfl, [23], [(23, .bool true)], by kernel_rfl, ?_⟩
    refine GL.run (j := 2) 1 [4] [(4, .bool true)] (by kernel_rfl) rfl ?_
    refine GL.k rfl hK552 (fun _ _ h => h) ?_
    refine G.ret ?_
    intro F_ hF_ hM_
    refine hRet _ _ (bodyPost_1 rfl (RV.tmp rfl) ?_ F_ hF_ hM_)
    exact ⟨rfl, H554.sub (List.nil_sublist _)⟩
end Go.Proofs.YtgbhiklengafiaaDoor
namespace Go.Proofs.YtgbhiklengafiaaDoor
open Go.ChangeShapes Go.WideShapes Go.ChangeAt Go.RowKit
open Go.ChangeMaps (open_string shut_string)
set_option linter.unusedVariables false
abbrev laidL : List (String × DataW Unit) := Rows.moneyTextsRow.laid
theorem gTab : Tryd.prog.globalNamed "internal/strconv.uint64pow10" = some 0 := by kernel_rfl
theorem gErr : Tryd.prog.globalNamed "strconv.ErrRange" = some 2 := by kernel_rfl
theorem tTab : (Tryd.prog.globals[0]?).map (·.type) = some 76 := by kernel_rfl
theorem tErr : (Tryd.prog.globals[2]?).map (·.type) = some 40 := by kernel_rfl
theorem starE : "*" ++ "errors.errorString" = "*errors.errorString" := by decide
theorem rowE (u : TypeId) (h : Tryd.prog.typeName? 3 u = some "*errors.errorString") : u = 87 :=
  typeName_ptr_named (nm := "errors.errorString") (by rw [starE]; kernel_rfl) (by kernel_rfl) (by decide) u (by rw [starE]; exact h)
theorem of_laid {W : World} (h : laidMetH Tryd.prog laidL W) : ∃ tp pv, Lib.TabIs Tryd.prog W "internal/strconv.uint64pow10" .u64 Lib.pow10Tab ∧ W.cell? ⟨2, 0, none⟩ = some (.iface tp pv) := by
  rw [MakeChecks.laidMetH_plain _ _ _ (by kernel_rfl)] at h
  have h3 := h.tail.tail
  have hT := Lib.tabIs_of_head (k := .u64) (zs := Lib.pow10Tab) gTab tTab Tryd.underlying76 Tryd.underlying22 (by kernel_rfl) (by kernel_rfl) h3
  obtain ⟨a0, s0, hv0, -, -, -⟩ := laid_sentinel h3.tail gErr tErr Tryd.underlying40 rowE Tryd.underlying87 Tryd.underlying89 rfl rfl Tryd.underlying9 (by kernel_rfl) (by kernel_rfl)
  exact ⟨_, _, hT, by have h0 := World.var?_cell gErr hv0 0; simpa using h0⟩
theorem door_met (os : Os) (args : Array Value) : laidMetH Tryd.prog laidL ((World.doorLaid Tryd.prog 400 os).forCall (fun _ _ => 0) ⟨#[], args, []⟩).memory :=
  laidMetH_of_parts3 (fuel := 8) (laidMet_of_run' 8 (by kernel_rfl) (by kernel_rfl)) (by kernel_rfl) (by kernel_rfl)
theorem moneyTexts_own : ownKnob Tryd.prog.godebug = none := by kernel_rfl
theorem moneyTexts_laidOut : laidOutB Tryd.prog = true := by kernel_rfl
set_option maxRecDepth 100000 in
theorem moneyTexts_lifted (os : Os) (started : os.Started) (H : Type) (enc : TypeId × Value → H) :
    ReturnsInHanded {} Tryd.checked os 3 .any (fun w args => (Rows.moneyTextsSpec.pre enc Tryd.prog Tryd.f3 [] false w args ∧ laidMetH Tryd.prog laidL w) ∧ sizedMet enc Tryd.prog Tryd.f3 (OpenSpec.ofChange Rows.moneyTextsSpec) false w args) (Rows.moneyTextsSpec.post enc Tryd.prog Tryd.f3 false true false false) := by
  refine returnsInHanded_of_change_and (C := Tryd.checked) (X := fun w _ => laidMetH Tryd.prog laidL w) (fun _ _ _ hh h => h.of_heap hh) moneyTexts_own started (by kernel_rfl) Tryd.func3
    (ChangeSpec.witness_shaped (enc := enc) (C := Tryd.checked) (os := os) (X := fun w _ => laidMetH Tryd.prog laidL w) false (World.doorLaid Tryd.prog 400 os) #[.int .u64 0, .slice none 0 0] 12 rfl (World.shaped_of_RefB (by kernel_rfl) (by kernel_rfl)) (by kernel_rfl) (by kernel_rfl) (by kernel_rfl) (door_met os _)) ?_
  intro W base args ds gs before hval0 hW _ _ hL _
  have hval : ∀ (j : Nat) t v, Tryd.f3.params[j]? = some t → args[j]? = some v → Value.okWide Tryd.prog W .any base t v := hval0
  have hW' := hW
  obtain ⟨p, q, hA0, hV, rfl, hfz, hnd⟩ := hW
  have hA : DataW.TrodAll enc Tryd.prog W 0 (fun _ => true) true Tryd.f3.params.toList args.toList ds p := hA0
  rw [Tryd.params3] at hA hval
  obtain ⟨v0, vs0, d0, ds0, p0, q0, hargs, rfl, rfl, h0, r0⟩ := trodAll_cons hA
  obtain ⟨v1, vs1, d1, ds1, p1, q1, rfl, rfl, rfl, h1, r1⟩ := trodAll_cons r0
  obtain ⟨rfl, rfl, rfl⟩ := trodAll_nil r1
  obtain rfl : args = #[v0, v1] := by cases args; simp_all
  obtain ⟨rfl, rfl⟩ := trodVars_none hV
  have k0 := h0
  have lt0 : ∀ x ∈ p0, x.block < W.heap.size := by obtain ⟨m, hm⟩ := k0; exact DataW.trod_lt m _ _ _ hm
  have k1 := h1
  have lt1 : ∀ x ∈ p1, x.block < W.heap.size := by obtain ⟨m, hm⟩ := k1; exact DataW.trod_lt m _ _ _ hm
  obtain ⟨m0, rfl, wf0⟩ := open_int' Tryd.underlying23 (hval 0 23 _ rfl rfl) h0
  obtain ⟨n0, rfl, hn0⟩ := u64_nat wf0
  obtain ⟨a1, len1, cap1, rfl⟩ := okWide_slice Tryd.underlying24 (hval 1 24 _ rfl rfl)
  obtain ⟨fu1, hf1⟩ := h1
  obtain ⟨A1, bs1, c1, hcs1, rd1, hc1, hm1⟩ := open_u8s Tryd.underlying24 Tryd.underlying5 (by kernel_rfl) hf1
  simp [Value.cells] at hcs1
  obtain ⟨rfl, rfl, rfl⟩ := hcs1
  clear hA0 hval0
  obtain ⟨tp, pv, hTab, hErr⟩ := of_laid hL
  refine (MoneyTexts_calls n0 hn0 a1 bs1 cap1 tp pv W rd1 hTab hErr).mono fun e W' ⟨he, hh⟩ => ?_
  have bel := hh.below
  subst he
  exact ⟨_, rfl, _, _, _, [], _, [], hW', trodAll_mk1 (shut_bool Tryd.underlying4 _), (trodAll_cons_mk (Below.trod moneyTexts_laidOut (by kernel_rfl) (of_decide_eq_true (by kernel_rfl)) k0 bel lt0) (trodAll_cons_mk (Below.trod moneyTexts_laidOut (by kernel_rfl) (of_decide_eq_true (by kernel_rfl)) k1 bel lt1) trodAll_mk0)), rfl, bel.frame _, fun h => by cases h⟩
theorem moneyTexts_over : Rows.moneyTextsRow.holds Tryd.pinned (OpenSpec.ofChange Rows.moneyTextsSpec) :=
  OpenClaim.holds_of_wide 3 Tryd.f3 rfl rfl rfl rfl rfl rfl rfl ⟨rfl, rfl, rfl, rfl, rfl⟩ rfl rfl rfl rfl rfl (by kernel_rfl) Tryd.func3 (by kernel_rfl)
    (of_decide_eq_true (by kernel_rfl)) (by unfold Func.isWrapper; first | (rw [if_pos (by decide +kernel)]; kernel_rfl) | (rw [if_neg (by decide +kernel)]; exact ⟨rfl, rfl⟩))
    (fun os started H enc _ => moneyTexts_lifted os started H enc)
theorem moneyTexts_proved : Rows.MoneyTextsSaid := moneyTexts_over
end Go.Proofs.YtgbhiklengafiaaDoor
set_option maxRecDepth 100000
namespace Go.Proofs.YtgbhiklengafiaaDoor
open Go
theorem moneyTextsCard_proved : Rows.MoneyTextsCardSaid :=
  Claim7.holds_tied_plain_at .later [] [.data, .data, .data, .sentinel, .sentinel] true (true, "0cf1d020e10366ba6b713741401ea0c12cf0fc8c083e977bb6ed40165b370b93") true
    moneyTexts_proved (fun _ h => by cases h) (by kernel_rfl) (fun _ h => by cases h) moneyTexts_row_tie rfl ⟨rfl, rfl⟩ (by kernel_rfl) rfl
    (fun f fn hf hfn => by
      obtain rfl : f = 3 := Option.some.inj ((show Tryd.prog.funcNamed "pontage/pontagelaw04.MoneyTexts" = some 3 by kernel_rfl).symm.trans hf) |>.symm
      obtain rfl : fn = Tryd.f3 := (Option.some.inj (Tryd.func3.symm.trans hfn)).symm
      exact ⟨by kernel_rfl, fun j t ht => by
        rw [Tryd.params3] at ht
        have hm : t ∈ [23, 24] := by simpa using Array.mem_of_getElem? ht
        have hall : ([23, 24].all fun u => !Tryd.prog.wantsStandIn u) = true := by kernel_rfl
        exact (show Tryd.prog.wantsStandIn t = false by simpa using List.all_eq_true.1 hall t hm)⟩)
    (by kernel_rfl)
end Go.Proofs.YtgbhiklengafiaaDoor
