/- The document's work of a target. -/
import Derived.Test.YtjfllmkihfidcaaNumB
import Derived.Test.YtjfllmkihfidcaaTarget
namespace Go.Proofs.Ytjfllmkihfidcaa
open Go.RowKit
theorem one_calls (x : Nat) (hx : x < K) (w : World) : Calls Try.prog 32 #[.int .u64 (x : Int)] w fun e w' => ∃ A c, e = .returned ((.slice A (ndg x) c)) ∧ Hp w [] [.row A (ndg x) c 22 1 (dg (digs x))] w' := by
  refine calls_G (args := [.int .u64 (x : Int)]) Try.func32 rfl Try.ntmps32 rfl ?_
  intro Q0 hRet hNor hPan
  have H := Hp.start w
  have H : Hp w [] [] w := H
  refine G.seqK fun K1 hK2 => ?_
  refine G.region ?_
  refine GL.run (j := 1) 1 [0] [(0, .int .u64 (x : Int))] (by kernel_rfl) rfl ?_
  refine GL.k rfl hK2 (fun _ _ h => h) ?_
  refine G.seqK fun K3 hK4 => ?_
  refine G.region ?_
  refine GL.run (j := 2) 2 [4] [(4, .agg #[.int .u64 (x : Int), .int .u64 0, .int .u64 0, .int .u64 0])] (by kernel_rfl) rfl ?_
  have hN10 : ndg x ≤ 4 := ndg_K hx
  refine GL.call (j := 3) (Of1_calls_n x hx w) (by kernel_rfl) rfl (fun e_ w9 hR => ?_)
  obtain ⟨A5, c6, rfl, H8⟩ := hR
  have H7 : Hp w [] [.row A5 (ndg x) c6 22 1 (dg (digs x))] w9 := H.callNew H8
  refine ⟨_, rfl, [5], [(5, .slice A5 (ndg x) c6)], by kernel_rfl, ?_⟩
  refine GL.run (j := 4) 1 [2] [(2, .slice A5 (ndg x) c6)] (by kernel_rfl) rfl ?_
  refine GL.k rfl hK4 (fun _ _ h => h) ?_
  refine G.ret ?_
  intro F_ hF_ hM_
  refine hRet _ _ (bodyPost_1 rfl (RV.tmp rfl) ?_ F_ hF_ hM_)
  exact ⟨_, _, rfl, H7⟩
theorem Power_calls (n : Nat) (hn : n ≤ 10000) (w : World) : Calls Try.prog 31 #[.int .i64 (n : Int)] w fun e w' => ∃ A c, e = .returned ((.slice A (ndg (2 ^ n)) c)) ∧ Hp w [] [.row A (ndg (2 ^ n)) c 22 1 (dg (digs (2 ^ n)))] w' := by
  refine calls_G (args := [.int .i64 (n : Int)]) Try.func31 rfl Try.ntmps31 rfl ?_
  intro Q0 hRet hNor hPan
  have H := Hp.start w
  have H : Hp w [] [] w := H
  refine G.seqK fun K1 hK2 => ?_
  refine G.region ?_
  refine GL.run (j := 1) 1 [0] [(0, .int .i64 (n : Int))] (by kernel_rfl) rfl ?_
  refine GL.k rfl hK2 (fun _ _ h => h) ?_
  refine G.seqK fun K3 hK4 => ?_
  refine G.region ?_
  have hN10 : ndg 1 ≤ 4 := ndg_K (by decide)
  refine GL.call (j := 1) (one_calls 1 (by decide) w) (by kernel_rfl) rfl (fun e_ w9 hR => ?_)
  obtain ⟨A5, c6, rfl, H8⟩ := hR
  have H7 : Hp w [] [.row A5 (ndg 1) c6 22 1 (dg (digs 1))] w9 := H.callNew H8
  refine ⟨_, rfl, [0, 4], [(0, .int .i64 (n : Int)), (4, .slice A5 (ndg 1) c6)], by kernel_rfl, ?_⟩
  refine GL.run (j := 2) 1 [0, 3] [(0, .int .i64 (n : Int)), (3, .slice A5 (ndg 1) c6)] (by kernel_rfl) rfl ?_
  refine GL.k rfl hK4 (fun _ _ h => h) ?_
  refine G.seqK fun K11 hK12 => ?_
  refine G.block ?_
  refine G.fit [0, 3] (M' := [(0, .int .i64 (n : Int)), (3, .slice A5 (ndg 1) c6)]) (by kernel_rfl) ?_
  refine G.loop (X := Nat × Nat × Option Addr × Nat) (fun ⟨m, V, Z, z⟩ => [(0, .int .i64 (m : Int)), (3, .slice Z (ndg V) z)]) (fun ⟨m, V, Z, z⟩ w_ => (m ≤ n ∧ V = 2 ^ (n - m)) ∧ Hp w [] [.row Z (ndg V) z 22 1 (dg (digs V))] w_) (fun ⟨m, V, Z, z⟩ => m) ⟨n, 1, A5, c6⟩ [0, 3] (by kernel_rfl) ⟨⟨Nat.le_refl _, by rw [Nat.sub_self]⟩, H7⟩ ?_
  rintro ⟨m, V, Z, z⟩ w13 ⟨hi14, H15⟩
  refine G.eq (M' := [(0, .int .i64 (m : Int)), (3, .slice Z (ndg V) z)]) rfl ?_
  have H15 : Hp w [] [.row Z (ndg V) z 22 1 (dg (digs V))] w13 := H15
  obtain ⟨hmn, hV⟩ := hi14
  have nV : ndg V ≤ 10001 := by rw [hV]; exact Nat.le_trans (ndg_two (k := n - m + 1) (Nat.pow_lt_pow_right (by decide) (by omega))) (by omega)
  refine G.seqK fun K16 hK17 => ?_
  refine G.seqK fun K18 hK19 => ?_
  refine G.region ?_
  refine GL.run (j := 2) 2 [0, 3, 6] [(0, .int .i64 (m : Int)), (3, .slice Z (ndg V) z), (6, .bool (decide (0 < (m : Int))))] (by kernel_rfl) rfl ?_
  refine GL.k rfl hK19 (fun _ _ h => h) ?_
  cases hb20 : (decide (0 < (m : Int)))
  · skip
    have hb20f := of_decide_eq_false hb20
    refine G.no rfl ?_
    refine G.exitK hK12 (fun _ _ h => h) ?_
    refine G.seqK fun K21 hK22 => ?_
    refine G.region ?_
    refine GL.run (j := 2) 2 [2] [(2, .slice Z (ndg V) z)] (by kernel_rfl) rfl ?_
    refine GL.k rfl hK22 (fun _ _ h => h) ?_
    refine G.ret ?_
    intro F_ hF_ hM_
    refine hRet _ _ (bodyPost_1 rfl (RV.tmp rfl) ?_ F_ hF_ hM_)
    have hm0 : m = 0 := by omega
    rw [hm0, Nat.sub_zero] at hV
    rw [← hV]
    exact ⟨_, _, rfl, H15⟩
  · skip
    have hb20f := of_decide_eq_true hb20
    refine G.yes rfl ?_
    refine G.skipK hK17 (fun _ _ h => h) ?_
    refine G.seqK fun K23 hK24 => ?_
    refine G.block ?_
    refine G.region ?_
    refine GL.run (j := 2) 2 [0, 9, 10] [(0, .int .i64 (m : Int)), (9, .slice Z (ndg V) z), (10, .slice Z (ndg V) z)] (by kernel_rfl) rfl ?_
    refine GL.call (j := 3) (AddN_calls V V Z z Z z w13 (H15.rdRow 0 rfl) (H15.rdRow 0 rfl) (by omega) (by omega)) (by kernel_rfl) rfl (fun e_ w29 hR => ?_)
    obtain ⟨A25, c26, rfl, H28⟩ := hR
    have H27 : Hp w [] [.row Z (ndg V) z 22 1 (dg (digs V)), .row A25 (ndg (V + V)) c26 22 1 (dg (digs (V + V)))] w29 := H15.callNew H28
    refine ⟨_, rfl, [0, 11], [(0, .int .i64 (m : Int)), (11, .slice A25 (ndg (V + V)) c26)], by kernel_rfl, ?_⟩
    refine GL.run (j := 4) 1 [0, 3] [(0, .int .i64 (m : Int)), (3, .slice A25 (ndg (V + V)) c26)] (by kernel_rfl) rfl ?_
    refine GL.k rfl hK24 (fun _ _ h => h) ?_
    refine G.region ?_
    refine GL.run (j := 3) 3 [0, 3] [(0, .int .i64 (IntKind.i64.wrap ((m : Int) - 1))), (3, .slice A25 (ndg (V + V)) c26)] (by kernel_rfl) rfl ?_
    have e30 : (IntKind.i64.wrap ((m : Int) - 1)) = ((m - 1 : Nat) : Int) := by rw [in_i64 (by omega)]; omega
    refine GL.eq (M' := [(0, .int .i64 ((m - 1 : Nat) : Int)), (3, .slice A25 (ndg (V + V)) c26)]) (by rw [e30]) ?_
    clear e30
    have H31 : Hp w [] [.row A25 (ndg (V + V)) c26 22 1 (dg (digs (V + V)))] w29 := H27.sub (List.Sublist.cons _ (List.Sublist.cons_cons _ (List.Sublist.slnil)))
    refine GL.fit (ts := [0, 3]) (M' := [(0, .int .i64 ((m - 1 : Nat) : Int)), (3, .slice A25 (ndg (V + V)) c26)]) (by kernel_rfl) ?_
    refine GL.eq (M' := [(0, .int .i64 (((m - 1) : Nat) : Int)), (3, .slice A25 (ndg (V + V)) c26)]) (by rfl) ?_
    exact GL.again ⟨(m - 1), (V + V), A25, c26⟩ [0, 3] rfl (by kernel_rfl) (by show (m - 1) < m; omega) ⟨⟨by omega, by rw [hV, show n - (m - 1) = (n - m) + 1 by omega, Nat.pow_succ]; omega⟩, H31⟩
theorem Work6_calls (t : Nat) (A : Option Addr) (c : Nat) (w : World) (hr : RdS w A (dg (digs t))) (hnt : ndg t ≤ 16) : Calls Try.prog 10 #[.slice A (ndg t) c] w fun e w' => ∃ A c, e = .returned ((.slice A (ndg (workV t)) c)) ∧ Hp w [] [.row A (ndg (workV t)) c 22 1 (dg (digs (workV t)))] w' := by
  have hMX : MX = 4611686018427387904 := rfl
  have hK0 : K = 18446744073709551616 := rfl
  have hK40 : K4 = 115792089237316195423570985008687907853269984665640564039457584007913129639936 := rfl
  refine calls_G (args := [.slice A (ndg t) c]) Try.func10 rfl Try.ntmps10 rfl ?_
  intro Q0 hRet hNor hPan
  have H := Hp.start w
  have H : Hp w [] [] w := H
  refine G.seqK fun K1 hK2 => ?_
  refine G.region ?_
  refine GL.run (j := 1) 1 [0] [(0, .slice A (ndg t) c)] (by kernel_rfl) rfl ?_
  refine GL.k rfl hK2 (fun _ _ h => h) ?_
  refine G.seqK fun K3 hK4 => ?_
  refine G.region ?_
  have hp256 : 2 ^ 256 = K4 := by decide
  have hN10 : ndg K4 ≤ 17 := ndg_le.2 (by decide)
  refine GL.call (j := 1) (Power_calls 256 (by decide) w) (by kernel_rfl) rfl (fun e_ w9 hR => ?_)
  obtain ⟨A5, c6, rfl, H8⟩ := hR
  rw [hp256] at H8
  rw [hp256]
  have H7 : Hp w [] [.row A5 (ndg K4) c6 22 1 (dg (digs K4))] w9 := H.callNew H8
  refine ⟨_, rfl, [0, 6], [(0, .slice A (ndg t) c), (6, .slice A5 (ndg K4) c6)], by kernel_rfl, ?_⟩
  refine GL.run (j := 2) 1 [6, 7] [(6, .slice A5 (ndg K4) c6), (7, .slice A (ndg t) c)] (by kernel_rfl) rfl ?_
  have hN16 : ndg 1 ≤ 4 := ndg_K (by decide)
  refine GL.call (j := 3) (one_calls 1 (by decide) w9) (by kernel_rfl) rfl (fun e_ w15 hR => ?_)
  obtain ⟨A11, c12, rfl, H14⟩ := hR
  have H13 : Hp w [] [.row A5 (ndg K4) c6 22 1 (dg (digs K4)), .row A11 (ndg 1) c12 22 1 (dg (digs 1))] w15 := H7.callNew H14
  refine ⟨_, rfl, [6, 7, 8], [(6, .slice A5 (ndg K4) c6), (7, .slice A (ndg t) c), (8, .slice A11 (ndg 1) c12)], by kernel_rfl, ?_⟩
  have hN22 : ndg (t + 1) ≤ 17 := ndg_add (i := 16) (Nat.le_trans hnt (by decide)) (Nat.le_trans hN16 (by decide))
  refine GL.call (j := 4) (AddN_calls t 1 A c A11 c12 w15 (hr.hp H13) (H13.rdRow 1 rfl) (Nat.le_trans hnt (by decide)) (Nat.le_trans hN16 (by decide))) (by kernel_rfl) rfl (fun e_ w21 hR => ?_)
  obtain ⟨A17, c18, rfl, H20⟩ := hR
  have H19 : Hp w [] [.row A5 (ndg K4) c6 22 1 (dg (digs K4)), .row A11 (ndg 1) c12 22 1 (dg (digs 1)), .row A17 (ndg (t + 1)) c18 22 1 (dg (digs (t + 1)))] w21 := H13.callNew H20
  refine ⟨_, rfl, [6, 9], [(6, .slice A5 (ndg K4) c6), (9, .slice A17 (ndg (t + 1)) c18)], by kernel_rfl, ?_⟩
  have hN30 : ndg (K4 / (t + 1)) ≤ 17 := ndg_div hN10
  have hN31 : ndg (K4 % (t + 1)) ≤ 17 := ndg_mod hN10
  refine GL.call (j := 5) (DivN_calls K4 (t + 1) A5 c6 A17 c18 w21 (H19.rdRow 0 rfl) (H19.rdRow 2 rfl) (Nat.le_trans hN10 (by decide)) (Nat.le_trans hN22 (by decide)) (by omega)) (by kernel_rfl) rfl (fun e_ w29 hR => ?_)
  obtain ⟨A23, c24, A25, c26, rfl, H28⟩ := hR
  have H27 : Hp w [] [.row A5 (ndg K4) c6 22 1 (dg (digs K4)), .row A11 (ndg 1) c12 22 1 (dg (digs 1)), .row A17 (ndg (t + 1)) c18 22 1 (dg (digs (t + 1))), .row A25 (ndg (K4 % (t + 1))) c26 22 1 (dg (digs (K4 % (t + 1)))), .row A23 (ndg (K4 / (t + 1))) c24 22 1 (dg (digs (K4 / (t + 1))))] w29 := H19.callNew H28
  refine ⟨_, rfl, [10], [(10, .tuple #[.slice A23 (ndg (K4 / (t + 1))) c24, .slice A25 (ndg (K4 % (t + 1))) c26])], by kernel_rfl, ?_⟩
  refine GL.run (j := 10) 5 [3] [(3, .slice A23 (ndg (K4 / (t + 1))) c24)] (by kernel_rfl) rfl ?_
  refine GL.k rfl hK4 (fun _ _ h => h) ?_
  refine G.seqK fun K32 hK33 => ?_
  refine G.seqK fun K34 hK35 => ?_
  refine G.region ?_
  refine GL.run (j := 3) 3 [3, 15] [(3, .slice A23 (ndg (K4 / (t + 1))) c24), (15, .bool (decide (16 < (((ndg (K4 / (t + 1))) : Nat) : Int))))] (by kernel_rfl) rfl ?_
  refine GL.k rfl hK35 (fun _ _ h => h) ?_
  cases hb36 : (decide (16 < (((ndg (K4 / (t + 1))) : Nat) : Int)))
  · skip
    have hb36f := of_decide_eq_false hb36
    have h16 := @ndg_lt (K4 / (t + 1)) 16
    rw [show 65536 ^ 16 = K4 by decide] at h16
    have hbig : ¬ K4 ≤ K4 / (t + 1) := by omega
    refine G.no rfl ?_
    refine G.skipK hK33 (fun _ _ h => h) ?_
    refine G.seqK fun K37 hK38 => ?_
    refine G.region ?_
    refine GL.run (j := 2) 2 [2] [(2, .slice A23 (ndg (K4 / (t + 1))) c24)] (by kernel_rfl) rfl ?_
    refine GL.k rfl hK38 (fun _ _ h => h) ?_
    refine G.ret ?_
    intro F_ hF_ hM_
    refine hRet _ _ (bodyPost_1 rfl (RV.tmp rfl) ?_ F_ hF_ hM_)
    have H39 : Hp w [] [.row A23 (ndg (K4 / (t + 1))) c24 22 1 (dg (digs (K4 / (t + 1))))] w29 := H27.sub (List.Sublist.cons _ (List.Sublist.cons _ (List.Sublist.cons _ (List.Sublist.cons _ (List.Sublist.cons_cons _ (List.Sublist.slnil))))))
    have hle : K4 / (t + 1) ≤ K4 := Nat.div_le_self _ _
    have hN : (K4 / (t + 1)) = workV t := by
      unfold workV
      rw [if_neg hbig]
    have HF := H39
    rw [hN] at HF
    rw [hN]
    exact ⟨_, _, rfl, HF⟩
  · skip
    have hb36f := of_decide_eq_true hb36
    have h16 := @ndg_lt (K4 / (t + 1)) 16
    rw [show 65536 ^ 16 = K4 by decide] at h16
    have hbig : K4 ≤ K4 / (t + 1) := by omega
    refine G.yes rfl ?_
    refine G.seqK fun K40 hK41 => ?_
    refine G.region ?_
    refine GL.run (j := 1) 1 [16] [(16, .slice A23 (ndg (K4 / (t + 1))) c24)] (by kernel_rfl) rfl ?_
    refine GL.call (j := 2) (one_calls 1 (by decide) w29) (by kernel_rfl) rfl (fun e_ w46 hR => ?_)
    obtain ⟨A42, c43, rfl, H45⟩ := hR
    have H44 : Hp w [] [.row A5 (ndg K4) c6 22 1 (dg (digs K4)), .row A11 (ndg 1) c12 22 1 (dg (digs 1)), .row A17 (ndg (t + 1)) c18 22 1 (dg (digs (t + 1))), .row A25 (ndg (K4 % (t + 1))) c26 22 1 (dg (digs (K4 % (t + 1)))), .row A23 (ndg (K4 / (t + 1))) c24 22 1 (dg (digs (K4 / (t + 1)))), .row A42 (ndg 1) c43 22 1 (dg (digs 1))] w46 := H27.callNew H45
    refine ⟨_, rfl, [16, 17], [(16, .slice A23 (ndg (K4 / (t + 1))) c24), (17, .slice A42 (ndg 1) c43)], by kernel_rfl, ?_⟩
    have hN52 : ndg ((K4 / (t + 1)) - 1) ≤ 17 := ndg_sub hN30
    refine GL.call (j := 3) (SubN_calls (K4 / (t + 1)) 1 A23 c24 A42 c43 w46 (H44.rdRow 4 rfl) (H44.rdRow 5 rfl) (Nat.le_trans hN30 (by decide)) (Nat.le_trans hN16 (by decide)) (by omega)) (by kernel_rfl) rfl (fun e_ w51 hR => ?_)
    obtain ⟨A47, c48, rfl, H50⟩ := hR
    have H49 : Hp w [] [.row A5 (ndg K4) c6 22 1 (dg (digs K4)), .row A11 (ndg 1) c12 22 1 (dg (digs 1)), .row A17 (ndg (t + 1)) c18 22 1 (dg (digs (t + 1))), .row A25 (ndg (K4 % (t + 1))) c26 22 1 (dg (digs (K4 % (t + 1)))), .row A23 (ndg (K4 / (t + 1))) c24 22 1 (dg (digs (K4 / (t + 1)))), .row A42 (ndg 1) c43 22 1 (dg (digs 1)), .row A47 (ndg ((K4 / (t + 1)) - 1)) c48 22 1 (dg (digs ((K4 / (t + 1)) - 1)))] w51 := H44.callNew H50
    refine ⟨_, rfl, [18], [(18, .slice A47 (ndg ((K4 / (t + 1)) - 1)) c48)], by kernel_rfl, ?_⟩
    refine GL.run (j := 4) 1 [2] [(2, .slice A47 (ndg ((K4 / (t + 1)) - 1)) c48)] (by kernel_rfl) rfl ?_
    refine GL.k rfl hK41 (fun _ _ h => h) ?_
    refine G.ret ?_
    intro F_ hF_ hM_
    refine hRet _ _ (bodyPost_1 rfl (RV.tmp rfl) ?_ F_ hF_ hM_)
    have H53 : Hp w [] [.row A47 (ndg ((K4 / (t + 1)) - 1)) c48 22 1 (dg (digs ((K4 / (t + 1)) - 1)))] w51 := H49.sub (List.Sublist.cons _ (List.Sublist.cons _ (List.Sublist.cons _ (List.Sublist.cons _ (List.Sublist.cons _ (List.Sublist.cons _ (List.Sublist.cons_cons _ (List.Sublist.slnil))))))))
    have hle : K4 / (t + 1) ≤ K4 := Nat.div_le_self _ _
    have hN : ((K4 / (t + 1)) - 1) = workV t := by
      unfold workV
      rw [if_pos hbig]
      omega
    have HF := H53
    rw [hN] at HF
    rw [hN]
    exact ⟨_, _, rfl, HF⟩
end Go.Proofs.Ytjfllmkihfidcaa
