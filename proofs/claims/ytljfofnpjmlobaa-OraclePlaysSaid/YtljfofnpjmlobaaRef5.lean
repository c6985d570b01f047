/- The document's answers of layer 5: what each function answers. -/
import Derived.Test.YtljfofnpjmlobaaNumB
namespace Go.Proofs.Ytljfofnpjmlobaa
open Go.RowKit
theorem N5_calls (x : Nat) (hx : x < K) (w : World) : Calls Try.prog 24 #[.int .u64 (x : Int)] w fun e w' => ∃ A c, e = .returned ((.slice A (ndg x) c)) ∧ Hp w [] [.row A (ndg x) c 22 1 (dg (digs x))] w' := by
  refine calls_G (args := [.int .u64 (x : Int)]) Try.func24 rfl Try.ntmps24 rfl ?_
  intro Q0 hRet hNor hPan
  have H := Hp.start w
  have H : Hp w [] [] w := H
  refine G.seqK fun K1 hK2 => ?_
  refine G.region ?_
  refine GL.run (j := 1) 1 [0] [(0, .int .u64 (x : Int))] (by kernel_rfl) rfl ?_
  refine GL.k rfl hK2 (fun _ _ h => h) ?_
  refine G.seqK fun K3 hK4 => ?_
  refine G.region ?_
  refine GL.run (j := 2) 2 [4] [(4, .agg #[.int .u64 (x : Int), .int .u64 0, .int .u64 0, .int .u64 0])] (by kernel_rfl) rfl ?_
  have hN10 : ndg x ≤ 4 := ndg_K hx
  refine GL.call (j := 3) (Of1_calls_n x hx w) (by kernel_rfl) rfl (fun e_ w9 hR => ?_)
  obtain ⟨A5, c6, rfl, H8⟩ := hR
  have H7 : Hp w [] [.row A5 (ndg x) c6 22 1 (dg (digs x))] w9 := H.callNew H8
  refine ⟨_, rfl, [5], [(5, .slice A5 (ndg x) c6)], by kernel_rfl, ?_⟩
  refine GL.run (j := 4) 1 [2] [(2, .slice A5 (ndg x) c6)] (by kernel_rfl) rfl ?_
  refine GL.k rfl hK4 (fun _ _ h => h) ?_
  refine G.ret ?_
  intro F_ hF_ hM_
  refine hRet _ _ (bodyPost_1 rfl (RV.tmp rfl) ?_ F_ hF_ hM_)
  exact ⟨_, _, rfl, H7⟩
theorem Product5_2 (x y : Nat) (hx : x < K) (hy : y < K) (A : Option Addr) (c : Nat) (w : World) (hr : RdS w A (dg [x, y])) : Calls Try.prog 16 #[.slice A 2 c] w fun e w' => ∃ A c, e = .returned ((.slice A (ndg (x * y)) c)) ∧ Hp w [] [.row A (ndg (x * y)) c 22 1 (dg (digs (x * y)))] w' := by
  refine calls_G (args := [.slice A 2 c]) Try.func16 rfl Try.ntmps16 rfl ?_
  intro Q0 hRet hNor hPan
  have H := Hp.start w
  have H : Hp w [] [] w := H
  refine G.seqK fun K1 hK2 => ?_
  refine G.region ?_
  refine GL.run (j := 1) 1 [0] [(0, .slice A 2 c)] (by kernel_rfl) rfl ?_
  refine GL.k rfl hK2 (fun _ _ h => h) ?_
  refine G.seqK fun K3 hK4 => ?_
  refine G.region ?_
  have hN10 : ndg 1 ≤ 4 := ndg_K (by decide)
  refine GL.call (j := 1) (N5_calls 1 (by decide) w) (by kernel_rfl) rfl (fun e_ w9 hR => ?_)
  obtain ⟨A5, c6, rfl, H8⟩ := hR
  have H7 : Hp w [] [.row A5 (ndg 1) c6 22 1 (dg (digs 1))] w9 := H.callNew H8
  refine ⟨_, rfl, [0, 6], [(0, .slice A 2 c), (6, .slice A5 (ndg 1) c6)], by kernel_rfl, ?_⟩
  refine GL.run (j := 2) 1 [0, 3] [(0, .slice A 2 c), (3, .slice A5 (ndg 1) c6)] (by kernel_rfl) rfl ?_
  refine GL.k rfl hK4 (fun _ _ h => h) ?_
  refine G.seqK fun K11 hK12 => ?_
  refine G.seqK fun K13 hK14 => ?_
  refine G.region ?_
  refine GL.run (j := 3) 3 [3, 7, 8, 9] [(3, .slice A5 (ndg 1) c6), (7, .slice A 2 c), (8, .int .i64 2), (9, .int .i64 0)] (by kernel_rfl) rfl ?_
  refine GL.k rfl hK14 (fun _ _ h => h) ?_
  refine G.block ?_
  refine G.unroll 2 ?_
  refine G.seqK fun K15 hK16 => ?_
  refine G.region ?_
  refine GL.run (j := 1) 1 [3, 7, 8, 9, 10] [(3, .slice A5 (ndg 1) c6), (7, .slice A 2 c), (8, .int .i64 2), (9, .int .i64 0), (10, .bool true)] (by kernel_rfl) rfl ?_
  refine GL.k rfl hK16 (fun _ _ h => h) ?_
  refine G.seqK fun K17 hK18 => ?_
  refine G.yes rfl ?_
  refine G.skipK hK18 (fun _ _ h => h) ?_
  refine G.seqK fun K19 hK20 => ?_
  refine G.block ?_
  refine G.seqK fun K21 hK22 => ?_
  refine G.region ?_
  refine GL.sem (j := 1) (run_idxRd (P := Try.prog) (k := .i64) (t := 51) (A := A) (len := 2) (cap := c) (j := 0) (by kernel_rfl) rfl (hr.hp H7) (by first | exact dg_length _ | rw [dg_length]; first | rfl | assumption | (symm; assumption) | (simp; done) | (rw [List.length_take]; omega) | omega) (by omega)) [3, 7, 8, 9, 11] [(3, .slice A5 (ndg 1) c6), (7, .slice A 2 c), (8, .int .i64 2), (9, .int .i64 0), (11, .pointer (Option.map (fun x => Addr.add x 0) A))] (by kernel_rfl) (by kernel_rfl) rfl ?_
  refine GL.sem (j := 2) (run_ldRd (P := Try.prog) (ty := 22) (A := A) (j := 0) (v := .int .u64 (x : Int)) (by kernel_rfl) (hr.hp H7) (dg_at rfl)) [3, 7, 8, 9, 12] [(3, .slice A5 (ndg 1) c6), (7, .slice A 2 c), (8, .int .i64 2), (9, .int .i64 0), (12, .int .u64 (x : Int))] (by kernel_rfl) (by kernel_rfl) rfl ?_
  refine GL.run (j := 3) 1 [3, 5, 7, 8, 9] [(3, .slice A5 (ndg 1) c6), (5, .int .u64 (x : Int)), (7, .slice A 2 c), (8, .int .i64 2), (9, .int .i64 0)] (by kernel_rfl) rfl ?_
  refine GL.k rfl hK22 (fun _ _ h => h) ?_
  refine G.region ?_
  refine GL.run (j := 2) 2 [7, 8, 9, 13, 14] [(7, .slice A 2 c), (8, .int .i64 2), (9, .int .i64 0), (13, .slice A5 (ndg 1) c6), (14, .int .u64 (x : Int))] (by kernel_rfl) rfl ?_
  have hN28 : ndg x ≤ 4 := ndg_K hx
  refine GL.call (j := 3) (N5_calls x hx w9) (by kernel_rfl) rfl (fun e_ w27 hR => ?_)
  obtain ⟨A23, c24, rfl, H26⟩ := hR
  have H25 : Hp w [] [.row A5 (ndg 1) c6 22 1 (dg (digs 1)), .row A23 (ndg x) c24 22 1 (dg (digs x))] w27 := H7.callNew H26
  refine ⟨_, rfl, [7, 8, 9, 13, 15], [(7, .slice A 2 c), (8, .int .i64 2), (9, .int .i64 0), (13, .slice A5 (ndg 1) c6), (15, .slice A23 (ndg x) c24)], by kernel_rfl, ?_⟩
  have hN34 : ndg (1 * x) ≤ 8 := ndg_mul hN10 hN28
  refine GL.call (j := 4) (MulN_calls 1 x A5 c6 A23 c24 w27 (H25.rdRow 0 rfl) (H25.rdRow 1 rfl) (Nat.le_trans hN10 (by decide)) (Nat.le_trans hN28 (by decide))) (by kernel_rfl) rfl (fun e_ w33 hR => ?_)
  obtain ⟨A29, c30, rfl, H32⟩ := hR
  have H31 : Hp w [] [.row A5 (ndg 1) c6 22 1 (dg (digs 1)), .row A23 (ndg x) c24 22 1 (dg (digs x)), .row A29 (ndg (1 * x)) c30 22 1 (dg (digs (1 * x)))] w33 := H25.callNew H32
  refine ⟨_, rfl, [7, 8, 9, 16], [(7, .slice A 2 c), (8, .int .i64 2), (9, .int .i64 0), (16, .slice A29 (ndg (1 * x)) c30)], by kernel_rfl, ?_⟩
  refine GL.run (j := 5) 1 [3, 7, 8, 9] [(3, .slice A29 (ndg (1 * x)) c30), (7, .slice A 2 c), (8, .int .i64 2), (9, .int .i64 0)] (by kernel_rfl) rfl ?_
  refine GL.k rfl hK20 (fun _ _ h => h) ?_
  refine G.region ?_
  refine GL.run (j := 2) 2 [3, 7, 8, 9] [(3, .slice A29 (ndg (1 * x)) c30), (7, .slice A 2 c), (8, .int .i64 2), (9, .int .i64 1)] (by kernel_rfl) rfl ?_
  refine GL.round rfl ?_
  refine G.seqK fun K35 hK36 => ?_
  refine G.region ?_
  refine GL.run (j := 1) 1 [3, 7, 8, 9, 10] [(3, .slice A29 (ndg (1 * x)) c30), (7, .slice A 2 c), (8, .int .i64 2), (9, .int .i64 1), (10, .bool true)] (by kernel_rfl) rfl ?_
  refine GL.k rfl hK36 (fun _ _ h => h) ?_
  refine G.seqK fun K37 hK38 => ?_
  refine G.yes rfl ?_
  refine G.skipK hK38 (fun _ _ h => h) ?_
  refine G.seqK fun K39 hK40 => ?_
  refine G.block ?_
  refine G.seqK fun K41 hK42 => ?_
  refine G.region ?_
  refine GL.sem (j := 1) (run_idxRd (P := Try.prog) (k := .i64) (t := 51) (A := A) (len := 2) (cap := c) (j := 1) (by kernel_rfl) rfl (hr.hp H31) (by first | exact dg_length _ | rw [dg_length]; first | rfl | assumption | (symm; assumption) | (simp; done) | (rw [List.length_take]; omega) | omega) (by omega)) [3, 7, 8, 9, 11] [(3, .slice A29 (ndg (1 * x)) c30), (7, .slice A 2 c), (8, .int .i64 2), (9, .int .i64 1), (11, .pointer (Option.map (fun x => Addr.add x 1) A))] (by kernel_rfl) (by kernel_rfl) rfl ?_
  refine GL.sem (j := 2) (run_ldRd (P := Try.prog) (ty := 22) (A := A) (j := 1) (v := .int .u64 (y : Int)) (by kernel_rfl) (hr.hp H31) (dg_at rfl)) [3, 7, 8, 9, 12] [(3, .slice A29 (ndg (1 * x)) c30), (7, .slice A 2 c), (8, .int .i64 2), (9, .int .i64 1), (12, .int .u64 (y : Int))] (by kernel_rfl) (by kernel_rfl) rfl ?_
  refine GL.run (j := 3) 1 [3, 5, 7, 8, 9] [(3, .slice A29 (ndg (1 * x)) c30), (5, .int .u64 (y : Int)), (7, .slice A 2 c), (8, .int .i64 2), (9, .int .i64 1)] (by kernel_rfl) rfl ?_
  refine GL.k rfl hK42 (fun _ _ h => h) ?_
  refine G.region ?_
  refine GL.run (j := 2) 2 [7, 8, 9, 13, 14] [(7, .slice A 2 c), (8, .int .i64 2), (9, .int .i64 1), (13, .slice A29 (ndg (1 * x)) c30), (14, .int .u64 (y : Int))] (by kernel_rfl) rfl ?_
  have hN48 : ndg y ≤ 4 := ndg_K hy
  refine GL.call (j := 3) (N5_calls y hy w33) (by kernel_rfl) rfl (fun e_ w47 hR => ?_)
  obtain ⟨A43, c44, rfl, H46⟩ := hR
  have H45 : Hp w [] [.row A5 (ndg 1) c6 22 1 (dg (digs 1)), .row A23 (ndg x) c24 22 1 (dg (digs x)), .row A29 (ndg (1 * x)) c30 22 1 (dg (digs (1 * x))), .row A43 (ndg y) c44 22 1 (dg (digs y))] w47 := H31.callNew H46
  refine ⟨_, rfl, [7, 8, 9, 13, 15], [(7, .slice A 2 c), (8, .int .i64 2), (9, .int .i64 1), (13, .slice A29 (ndg (1 * x)) c30), (15, .slice A43 (ndg y) c44)], by kernel_rfl, ?_⟩
  have hN54 : ndg ((1 * x) * y) ≤ 12 := ndg_mul hN34 hN48
  refine GL.call (j := 4) (MulN_calls (1 * x) y A29 c30 A43 c44 w47 (H45.rdRow 2 rfl) (H45.rdRow 3 rfl) (Nat.le_trans hN34 (by decide)) (Nat.le_trans hN48 (by decide))) (by kernel_rfl) rfl (fun e_ w53 hR => ?_)
  obtain ⟨A49, c50, rfl, H52⟩ := hR
  have H51 : Hp w [] [.row A5 (ndg 1) c6 22 1 (dg (digs 1)), .row A23 (ndg x) c24 22 1 (dg (digs x)), .row A29 (ndg (1 * x)) c30 22 1 (dg (digs (1 * x))), .row A43 (ndg y) c44 22 1 (dg (digs y)), .row A49 (ndg ((1 * x) * y)) c50 22 1 (dg (digs ((1 * x) * y)))] w53 := H45.callNew H52
  refine ⟨_, rfl, [7, 8, 9, 16], [(7, .slice A 2 c), (8, .int .i64 2), (9, .int .i64 1), (16, .slice A49 (ndg ((1 * x) * y)) c50)], by kernel_rfl, ?_⟩
  refine GL.run (j := 5) 1 [3, 7, 8, 9] [(3, .slice A49 (ndg ((1 * x) * y)) c50), (7, .slice A 2 c), (8, .int .i64 2), (9, .int .i64 1)] (by kernel_rfl) rfl ?_
  refine GL.k rfl hK40 (fun _ _ h => h) ?_
  refine G.region ?_
  refine GL.run (j := 2) 2 [3, 7, 8, 9] [(3, .slice A49 (ndg ((1 * x) * y)) c50), (7, .slice A 2 c), (8, .int .i64 2), (9, .int .i64 2)] (by kernel_rfl) rfl ?_
  refine GL.round rfl ?_
  refine G.seqK fun K55 hK56 => ?_
  refine G.region ?_
  refine GL.run (j := 1) 1 [3, 7, 8, 9, 10] [(3, .slice A49 (ndg ((1 * x) * y)) c50), (7, .slice A 2 c), (8, .int .i64 2), (9, .int .i64 2), (10, .bool false)] (by kernel_rfl) rfl ?_
  refine GL.k rfl hK56 (fun _ _ h => h) ?_
  refine G.seqK fun K57 hK58 => ?_
  refine G.no rfl ?_
  refine G.exitK hK12 (fun _ _ h => h) ?_
  refine G.seqK fun K59 hK60 => ?_
  refine G.region ?_
  refine GL.run (j := 2) 2 [2] [(2, .slice A49 (ndg ((1 * x) * y)) c50)] (by kernel_rfl) rfl ?_
  refine GL.k rfl hK60 (fun _ _ h => h) ?_
  refine G.ret ?_
  intro F_ hF_ hM_
  refine hRet _ _ (bodyPost_1 rfl (RV.tmp rfl) ?_ F_ hF_ hM_)
  have H61 : Hp w [] [.row A49 (ndg ((1 * x) * y)) c50 22 1 (dg (digs ((1 * x) * y)))] w53 := H51.sub (List.Sublist.cons _ (List.Sublist.cons _ (List.Sublist.cons _ (List.Sublist.cons _ (List.Sublist.cons_cons _ (List.Sublist.slnil))))))
  have e0 : ((1 * x) * y) = x * y := by rw [Nat.one_mul]
  have HF := H61
  rw [e0] at HF
  rw [e0]
  exact ⟨_, _, rfl, HF⟩
theorem Product5_3 (x y z : Nat) (hx : x < K) (hy : y < K) (hz : z < K) (A : Option Addr) (c : Nat) (w : World) (hr : RdS w A (dg [x, y, z])) : Calls Try.prog 16 #[.slice A 3 c] w fun e w' => ∃ A c, e = .returned ((.slice A (ndg (x * y * z)) c)) ∧ Hp w [] [.row A (ndg (x * y * z)) c 22 1 (dg (digs (x * y * z)))] w' := by
  refine calls_G (args := [.slice A 3 c]) Try.func16 rfl Try.ntmps16 rfl ?_
  intro Q0 hRet hNor hPan
  have H := Hp.start w
  have H : Hp w [] [] w := H
  refine G.seqK fun K1 hK2 => ?_
  refine G.region ?_
  refine GL.run (j := 1) 1 [0] [(0, .slice A 3 c)] (by kernel_rfl) rfl ?_
  refine GL.k rfl hK2 (fun _ _ h => h) ?_
  refine G.seqK fun K3 hK4 => ?_
  refine G.region ?_
  have hN10 : ndg 1 ≤ 4 := ndg_K (by decide)
  refine GL.call (j := 1) (N5_calls 1 (by decide) w) (by kernel_rfl) rfl (fun e_ w9 hR => ?_)
  obtain ⟨A5, c6, rfl, H8⟩ := hR
  have H7 : Hp w [] [.row A5 (ndg 1) c6 22 1 (dg (digs 1))] w9 := H.callNew H8
  refine ⟨_, rfl, [0, 6], [(0, .slice A 3 c), (6, .slice A5 (ndg 1) c6)], by kernel_rfl, ?_⟩
  refine GL.run (j := 2) 1 [0, 3] [(0, .slice A 3 c), (3, .slice A5 (ndg 1) c6)] (by kernel_rfl) rfl ?_
  refine GL.k rfl hK4 (fun _ _ h => h) ?_
  refine G.seqK fun K11 hK12 => ?_
  refine G.seqK fun K13 hK14 => ?_
  refine G.region ?_
  refine GL.run (j := 3) 3 [3, 7, 8, 9] [(3, .slice A5 (ndg 1) c6), (7, .slice A 3 c), (8, .int .i64 3), (9, .int .i64 0)] (by kernel_rfl) rfl ?_
  refine GL.k rfl hK14 (fun _ _ h => h) ?_
  refine G.block ?_
  refine G.unroll 3 ?_
  refine G.seqK fun K15 hK16 => ?_
  refine G.region ?_
  refine GL.run (j := 1) 1 [3, 7, 8, 9, 10] [(3, .slice A5 (ndg 1) c6), (7, .slice A 3 c), (8, .int .i64 3), (9, .int .i64 0), (10, .bool true)] (by kernel_rfl) rfl ?_
  refine GL.k rfl hK16 (fun _ _ h => h) ?_
  refine G.seqK fun K17 hK18 => ?_
  refine G.yes rfl ?_
  refine G.skipK hK18 (fun _ _ h => h) ?_
  refine G.seqK fun K19 hK20 => ?_
  refine G.block ?_
  refine G.seqK fun K21 hK22 => ?_
  refine G.region ?_
  refine GL.sem (j := 1) (run_idxRd (P := Try.prog) (k := .i64) (t := 51) (A := A) (len := 3) (cap := c) (j := 0) (by kernel_rfl) rfl (hr.hp H7) (by first | exact dg_length _ | rw [dg_length]; first | rfl | assumption | (symm; assumption) | (simp; done) | (rw [List.length_take]; omega) | omega) (by omega)) [3, 7, 8, 9, 11] [(3, .slice A5 (ndg 1) c6), (7, .slice A 3 c), (8, .int .i64 3), (9, .int .i64 0), (11, .pointer (Option.map (fun x => Addr.add x 0) A))] (by kernel_rfl) (by kernel_rfl) rfl ?_
  refine GL.sem (j := 2) (run_ldRd (P := Try.prog) (ty := 22) (A := A) (j := 0) (v := .int .u64 (x : Int)) (by kernel_rfl) (hr.hp H7) (dg_at rfl)) [3, 7, 8, 9, 12] [(3, .slice A5 (ndg 1) c6), (7, .slice A 3 c), (8, .int .i64 3), (9, .int .i64 0), (12, .int .u64 (x : Int))] (by kernel_rfl) (by kernel_rfl) rfl ?_
  refine GL.run (j := 3) 1 [3, 5, 7, 8, 9] [(3, .slice A5 (ndg 1) c6), (5, .int .u64 (x : Int)), (7, .slice A 3 c), (8, .int .i64 3), (9, .int .i64 0)] (by kernel_rfl) rfl ?_
  refine GL.k rfl hK22 (fun _ _ h => h) ?_
  refine G.region ?_
  refine GL.run (j := 2) 2 [7, 8, 9, 13, 14] [(7, .slice A 3 c), (8, .int .i64 3), (9, .int .i64 0), (13, .slice A5 (ndg 1) c6), (14, .int .u64 (x : Int))] (by kernel_rfl) rfl ?_
  have hN28 : ndg x ≤ 4 := ndg_K hx
  refine GL.call (j := 3) (N5_calls x hx w9) (by kernel_rfl) rfl (fun e_ w27 hR => ?_)
  obtain ⟨A23, c24, rfl, H26⟩ := hR
  have H25 : Hp w [] [.row A5 (ndg 1) c6 22 1 (dg (digs 1)), .row A23 (ndg x) c24 22 1 (dg (digs x))] w27 := H7.callNew H26
  refine ⟨_, rfl, [7, 8, 9, 13, 15], [(7, .slice A 3 c), (8, .int .i64 3), (9, .int .i64 0), (13, .slice A5 (ndg 1) c6), (15, .slice A23 (ndg x) c24)], by kernel_rfl, ?_⟩
  have hN34 : ndg (1 * x) ≤ 8 := ndg_mul hN10 hN28
  refine GL.call (j := 4) (MulN_calls 1 x A5 c6 A23 c24 w27 (H25.rdRow 0 rfl) (H25.rdRow 1 rfl) (Nat.le_trans hN10 (by decide)) (Nat.le_trans hN28 (by decide))) (by kernel_rfl) rfl (fun e_ w33 hR => ?_)
  obtain ⟨A29, c30, rfl, H32⟩ := hR
  have H31 : Hp w [] [.row A5 (ndg 1) c6 22 1 (dg (digs 1)), .row A23 (ndg x) c24 22 1 (dg (digs x)), .row A29 (ndg (1 * x)) c30 22 1 (dg (digs (1 * x)))] w33 := H25.callNew H32
  refine ⟨_, rfl, [7, 8, 9, 16], [(7, .slice A 3 c), (8, .int .i64 3), (9, .int .i64 0), (16, .slice A29 (ndg (1 * x)) c30)], by kernel_rfl, ?_⟩
  refine GL.run (j := 5) 1 [3, 7, 8, 9] [(3, .slice A29 (ndg (1 * x)) c30), (7, .slice A 3 c), (8, .int .i64 3), (9, .int .i64 0)] (by kernel_rfl) rfl ?_
  refine GL.k rfl hK20 (fun _ _ h => h) ?_
  refine G.region ?_
  refine GL.run (j := 2) 2 [3, 7, 8, 9] [(3, .slice A29 (ndg (1 * x)) c30), (7, .slice A 3 c), (8, .int .i64 3), (9, .int .i64 1)] (by kernel_rfl) rfl ?_
  refine GL.round rfl ?_
  refine G.seqK fun K35 hK36 => ?_
  refine G.region ?_
  refine GL.run (j := 1) 1 [3, 7, 8, 9, 10] [(3, .slice A29 (ndg (1 * x)) c30), (7, .slice A 3 c), (8, .int .i64 3), (9, .int .i64 1), (10, .bool true)] (by kernel_rfl) rfl ?_
  refine GL.k rfl hK36 (fun _ _ h => h) ?_
  refine G.seqK fun K37 hK38 => ?_
  refine G.yes rfl ?_
  refine G.skipK hK38 (fun _ _ h => h) ?_
  refine G.seqK fun K39 hK40 => ?_
  refine G.block ?_
  refine G.seqK fun K41 hK42 => ?_
  refine G.region ?_
  refine GL.sem (j := 1) (run_idxRd (P := Try.prog) (k := .i64) (t := 51) (A := A) (len := 3) (cap := c) (j := 1) (by kernel_rfl) rfl (hr.hp H31) (by first | exact dg_length _ | rw [dg_length]; first | rfl | assumption | (symm; assumption) | (simp; done) | (rw [List.length_take]; omega) | omega) (by omega)) [3, 7, 8, 9, 11] [(3, .slice A29 (ndg (1 * x)) c30), (7, .slice A 3 c), (8, .int .i64 3), (9, .int .i64 1), (11, .pointer (Option.map (fun x => Addr.add x 1) A))] (by kernel_rfl) (by kernel_rfl) rfl ?_
  refine GL.sem (j := 2) (run_ldRd (P := Try.prog) (ty := 22) (A := A) (j := 1) (v := .int .u64 (y : Int)) (by kernel_rfl) (hr.hp H31) (dg_at rfl)) [3, 7, 8, 9, 12] [(3, .slice A29 (ndg (1 * x)) c30), (7, .slice A 3 c), (8, .int .i64 3), (9, .int .i64 1), (12, .int .u64 (y : Int))] (by kernel_rfl) (by kernel_rfl) rfl ?_
  refine GL.run (j := 3) 1 [3, 5, 7, 8, 9] [(3, .slice A29 (ndg (1 * x)) c30), (5, .int .u64 (y : Int)), (7, .slice A 3 c), (8, .int .i64 3), (9, .int .i64 1)] (by kernel_rfl) rfl ?_
  refine GL.k rfl hK42 (fun _ _ h => h) ?_
  refine G.region ?_
  refine GL.run (j := 2) 2 [7, 8, 9, 13, 14] [(7, .slice A 3 c), (8, .int .i64 3), (9, .int .i64 1), (13, .slice A29 (ndg (1 * x)) c30), (14, .int .u64 (y : Int))] (by kernel_rfl) rfl ?_
  have hN48 : ndg y ≤ 4 := ndg_K hy
  refine GL.call (j := 3) (N5_calls y hy w33) (by kernel_rfl) rfl (fun e_ w47 hR => ?_)
  obtain ⟨A43, c44, rfl, H46⟩ := hR
  have H45 : Hp w [] [.row A5 (ndg 1) c6 22 1 (dg (digs 1)), .row A23 (ndg x) c24 22 1 (dg (digs x)), .row A29 (ndg (1 * x)) c30 22 1 (dg (digs (1 * x))), .row A43 (ndg y) c44 22 1 (dg (digs y))] w47 := H31.callNew H46
  refine ⟨_, rfl, [7, 8, 9, 13, 15], [(7, .slice A 3 c), (8, .int .i64 3), (9, .int .i64 1), (13, .slice A29 (ndg (1 * x)) c30), (15, .slice A43 (ndg y) c44)], by kernel_rfl, ?_⟩
  have hN54 : ndg ((1 * x) * y) ≤ 12 := ndg_mul hN34 hN48
  refine GL.call (j := 4) (MulN_calls (1 * x) y A29 c30 A43 c44 w47 (H45.rdRow 2 rfl) (H45.rdRow 3 rfl) (Nat.le_trans hN34 (by decide)) (Nat.le_trans hN48 (by decide))) (by kernel_rfl) rfl (fun e_ w53 hR => ?_)
  obtain ⟨A49, c50, rfl, H52⟩ := hR
  have H51 : Hp w [] [.row A5 (ndg 1) c6 22 1 (dg (digs 1)), .row A23 (ndg x) c24 22 1 (dg (digs x)), .row A29 (ndg (1 * x)) c30 22 1 (dg (digs (1 * x))), .row A43 (ndg y) c44 22 1 (dg (digs y)), .row A49 (ndg ((1 * x) * y)) c50 22 1 (dg (digs ((1 * x) * y)))] w53 := H45.callNew H52
  refine ⟨_, rfl, [7, 8, 9, 16], [(7, .slice A 3 c), (8, .int .i64 3), (9, .int .i64 1), (16, .slice A49 (ndg ((1 * x) * y)) c50)], by kernel_rfl, ?_⟩
  refine GL.run (j := 5) 1 [3, 7, 8, 9] [(3, .slice A49 (ndg ((1 * x) * y)) c50), (7, .slice A 3 c), (8, .int .i64 3), (9, .int .i64 1)] (by kernel_rfl) rfl ?_
  refine GL.k rfl hK40 (fun _ _ h => h) ?_
  refine G.region ?_
  refine GL.run (j := 2) 2 [3, 7, 8, 9] [(3, .slice A49 (ndg ((1 * x) * y)) c50), (7, .slice A 3 c), (8, .int .i64 3), (9, .int .i64 2)] (by kernel_rfl) rfl ?_
  refine GL.round rfl ?_
  refine G.seqK fun K55 hK56 => ?_
  refine G.region ?_
  refine GL.run (j := 1) 1 [3, 7, 8, 9, 10] [(3, .slice A49 (ndg ((1 * x) * y)) c50), (7, .slice A 3 c), (8, .int .i64 3), (9, .int .i64 2), (10, .bool true)] (by kernel_rfl) rfl ?_
  refine GL.k rfl hK56 (fun _ _ h => h) ?_
  refine G.seqK fun K57 hK58 => ?_
  refine G.yes rfl ?_
  refine G.skipK hK58 (fun _ _ h => h) ?_
  refine G.seqK fun K59 hK60 => ?_
  refine G.block ?_
  refine G.seqK fun K61 hK62 => ?_
  refine G.region ?_
  refine GL.sem (j := 1) (run_idxRd (P := Try.prog) (k := .i64) (t := 51) (A := A) (len := 3) (cap := c) (j := 2) (by kernel_rfl) rfl (hr.hp H51) (by first | exact dg_length _ | rw [dg_length]; first | rfl | assumption | (symm; assumption) | (simp; done) | (rw [List.length_take]; omega) | omega) (by omega)) [3, 7, 8, 9, 11] [(3, .slice A49 (ndg ((1 * x) * y)) c50), (7, .slice A 3 c), (8, .int .i64 3), (9, .int .i64 2), (11, .pointer (Option.map (fun x => Addr.add x 2) A))] (by kernel_rfl) (by kernel_rfl) rfl ?_
  refine GL.sem (j := 2) (run_ldRd (P := Try.prog) (ty := 22) (A := A) (j := 2) (v := .int .u64 (z : Int)) (by kernel_rfl) (hr.hp H51) (dg_at rfl)) [3, 7, 8, 9, 12] [(3, .slice A49 (ndg ((1 * x) * y)) c50), (7, .slice A 3 c), (8, .int .i64 3), (9, .int .i64 2), (12, .int .u64 (z : Int))] (by kernel_rfl) (by kernel_rfl) rfl ?_
  refine GL.run (j := 3) 1 [3, 5, 7, 8, 9] [(3, .slice A49 (ndg ((1 * x) * y)) c50), (5, .int .u64 (z : Int)), (7, .slice A 3 c), (8, .int .i64 3), (9, .int .i64 2)] (by kernel_rfl) rfl ?_
  refine GL.k rfl hK62 (fun _ _ h => h) ?_
  refine G.region ?_
  refine GL.run (j := 2) 2 [7, 8, 9, 13, 14] [(7, .slice A 3 c), (8, .int .i64 3), (9, .int .i64 2), (13, .slice A49 (ndg ((1 * x) * y)) c50), (14, .int .u64 (z : Int))] (by kernel_rfl) rfl ?_
  have hN68 : ndg z ≤ 4 := ndg_K hz
  refine GL.call (j := 3) (N5_calls z hz w53) (by kernel_rfl) rfl (fun e_ w67 hR => ?_)
  obtain ⟨A63, c64, rfl, H66⟩ := hR
  have H65 : Hp w [] [.row A5 (ndg 1) c6 22 1 (dg (digs 1)), .row A23 (ndg x) c24 22 1 (dg (digs x)), .row A29 (ndg (1 * x)) c30 22 1 (dg (digs (1 * x))), .row A43 (ndg y) c44 22 1 (dg (digs y)), .row A49 (ndg ((1 * x) * y)) c50 22 1 (dg (digs ((1 * x) * y))), .row A63 (ndg z) c64 22 1 (dg (digs z))] w67 := H51.callNew H66
  refine ⟨_, rfl, [7, 8, 9, 13, 15], [(7, .slice A 3 c), (8, .int .i64 3), (9, .int .i64 2), (13, .slice A49 (ndg ((1 * x) * y)) c50), (15, .slice A63 (ndg z) c64)], by kernel_rfl, ?_⟩
  have hN74 : ndg (((1 * x) * y) * z) ≤ 16 := ndg_mul hN54 hN68
  refine GL.call (j := 4) (MulN_calls ((1 * x) * y) z A49 c50 A63 c64 w67 (H65.rdRow 4 rfl) (H65.rdRow 5 rfl) (Nat.le_trans hN54 (by decide)) (Nat.le_trans hN68 (by decide))) (by kernel_rfl) rfl (fun e_ w73 hR => ?_)
  obtain ⟨A69, c70, rfl, H72⟩ := hR
  have H71 : Hp w [] [.row A5 (ndg 1) c6 22 1 (dg (digs 1)), .row A23 (ndg x) c24 22 1 (dg (digs x)), .row A29 (ndg (1 * x)) c30 22 1 (dg (digs (1 * x))), .row A43 (ndg y) c44 22 1 (dg (digs y)), .row A49 (ndg ((1 * x) * y)) c50 22 1 (dg (digs ((1 * x) * y))), .row A63 (ndg z) c64 22 1 (dg (digs z)), .row A69 (ndg (((1 * x) * y) * z)) c70 22 1 (dg (digs (((1 * x) * y) * z)))] w73 := H65.callNew H72
  refine ⟨_, rfl, [7, 8, 9, 16], [(7, .slice A 3 c), (8, .int .i64 3), (9, .int .i64 2), (16, .slice A69 (ndg (((1 * x) * y) * z)) c70)], by kernel_rfl, ?_⟩
  refine GL.run (j := 5) 1 [3, 7, 8, 9] [(3, .slice A69 (ndg (((1 * x) * y) * z)) c70), (7, .slice A 3 c), (8, .int .i64 3), (9, .int .i64 2)] (by kernel_rfl) rfl ?_
  refine GL.k rfl hK60 (fun _ _ h => h) ?_
  refine G.region ?_
  refine GL.run (j := 2) 2 [3, 7, 8, 9] [(3, .slice A69 (ndg (((1 * x) * y) * z)) c70), (7, .slice A 3 c), (8, .int .i64 3), (9, .int .i64 3)] (by kernel_rfl) rfl ?_
  refine GL.round rfl ?_
  refine G.seqK fun K75 hK76 => ?_
  refine G.region ?_
  refine GL.run (j := 1) 1 [3, 7, 8, 9, 10] [(3, .slice A69 (ndg (((1 * x) * y) * z)) c70), (7, .slice A 3 c), (8, .int .i64 3), (9, .int .i64 3), (10, .bool false)] (by kernel_rfl) rfl ?_
  refine GL.k rfl hK76 (fun _ _ h => h) ?_
  refine G.seqK fun K77 hK78 => ?_
  refine G.no rfl ?_
  refine G.exitK hK12 (fun _ _ h => h) ?_
  refine G.seqK fun K79 hK80 => ?_
  refine G.region ?_
  refine GL.run (j := 2) 2 [2] [(2, .slice A69 (ndg (((1 * x) * y) * z)) c70)] (by kernel_rfl) rfl ?_
  refine GL.k rfl hK80 (fun _ _ h => h) ?_
  refine G.ret ?_
  intro F_ hF_ hM_
  refine hRet _ _ (bodyPost_1 rfl (RV.tmp rfl) ?_ F_ hF_ hM_)
  have H81 : Hp w [] [.row A69 (ndg (((1 * x) * y) * z)) c70 22 1 (dg (digs (((1 * x) * y) * z)))] w73 := H71.sub (List.Sublist.cons _ (List.Sublist.cons _ (List.Sublist.cons _ (List.Sublist.cons _ (List.Sublist.cons _ (List.Sublist.cons _ (List.Sublist.cons_cons _ (List.Sublist.slnil))))))))
  have e0 : (((1 * x) * y) * z) = x * y * z := by rw [Nat.one_mul]
  have HF := H81
  rw [e0] at HF
  rw [e0]
  exact ⟨_, _, rfl, HF⟩
end Go.Proofs.Ytljfofnpjmlobaa
