/- The total of any amounts: the walk. -/
import Derived.Test.YtgbhiklengafiaaLives
import Derived.Test.YtgbhiklengafiaaTotal
import Derived.Test.YtgbhiklengafiaaEach
namespace Go.Proofs.Ytgbhiklengafiaa
open Go.RowKit
theorem MoneyTotals_calls (ls : List Nat) (hls : ∀ x ∈ ls, x < K) (A : Option Addr) (c : Nat) (w : World) (hr : RdS w A (dg ls)) (hlen : ls.length ≤ maxLen) : Calls Try.prog 6 #[.slice A ls.length c] w fun e w' => e = .returned (.bool true) ∧ Hp w [] [] w' := by
  have hMX : MX = 4611686018427387904 := rfl
  have hK0 : K = 18446744073709551616 := rfl
  simp only [maxLen] at hlen
  refine calls_G (args := [.slice A ls.length c]) Try.func6 rfl Try.ntmps6 rfl ?_
  intro Q0 hRet hNor hPan
  have H := Hp.start w
  have H : Hp w [] [] w := H
  refine G.seqK fun K1 hK2 => ?_
  refine G.region ?_
  refine GL.run (j := 1) 1 [0] [(0, .slice A ls.length c)] (by kernel_rfl) rfl ?_
  refine GL.k rfl hK2 (fun _ _ h => h) ?_
  refine G.seqK fun K3 hK4 => ?_
  refine G.seqK fun K5 hK6 => ?_
  refine G.region ?_
  refine GL.call (j := 1) (lives_calls w) (by kernel_rfl) rfl (fun e_ w7 hR => ?_)
  obtain ⟨rfl, H9⟩ := hR
  have H8 : Hp w [] [] w7 := H.callNil H9
  refine ⟨_, rfl, [0, 8], [(0, .slice A ls.length c), (8, .bool true)], by kernel_rfl, ?_⟩
  refine GL.run (j := 7) 6 [0, 14] [(0, .slice A ls.length c), (14, .bool (decide (100 < (ls.length : Int))))] (by kernel_rfl) rfl ?_
  refine GL.k rfl hK6 (fun _ _ h => h) ?_
  cases hb10 : (decide (100 < (ls.length : Int)))
  · skip
    have hb10f := of_decide_eq_false hb10
    refine G.no rfl ?_
    refine G.skipK hK4 (fun _ _ h => h) ?_
    refine G.seqK fun K11 hK12 => ?_
    refine G.region ?_
    refine GL.run (j := 1) 1 [0, 17] [(0, .slice A ls.length c), (17, .slice A ls.length c)] (by kernel_rfl) rfl ?_
    refine GL.call (j := 2) (each_calls A ls.length c w7) (by kernel_rfl) rfl (fun e_ w16 hR => ?_)
    obtain ⟨B13, rfl, H15⟩ := hR
    have H14 : Hp w [] [.blk B13 [.slice A ls.length c] 42] w16 := H8.callNew H15
    refine ⟨_, rfl, [0, 18], [(0, .slice A ls.length c), (18, .func (.func 30) #[] #[pt B13 0])], by kernel_rfl, ?_⟩
    refine GL.call (j := 3) (Total_calls ls hls 30 #[pt B13 0] (fun W => W.cell? ⟨B13, 0, none⟩ = some (.slice A ls.length c) ∧ RdS W A (dg ls)) (enters_of Try.func30 (by kernel_rfl) rfl) (each_iter ls (by omega) A c B13) w16 (fun W hb => ⟨(hb.cell (H14.blkAt 0 rfl).lt).trans ((H14.blkAt 0 rfl).cell 0), (hr.hp H14).below hb⟩)) (by kernel_rfl) rfl (fun e_ w19 hR => ?_)
    obtain ⟨rfl, H18⟩ := hR
    have H17 : Hp w [] [.blk B13 [.slice A ls.length c] 42] w19 := H14.callNil H18
    refine ⟨_, rfl, [0, 19], [(0, .slice A ls.length c), (19, .tuple #[.int .u64 (((tot ls 0).2 : Nat) : Int), .int .i64 (((tot ls 0).1 : Nat) : Int)])], by kernel_rfl, ?_⟩
    refine GL.run (j := 8) 5 [0, 3, 4] [(0, .slice A ls.length c), (3, .int .u64 (((tot ls 0).2 : Nat) : Int)), (4, .int .i64 (((tot ls 0).1 : Nat) : Int))] (by kernel_rfl) rfl ?_
    refine GL.k rfl hK12 (fun _ _ h => h) ?_
    refine G.seqK fun K20 hK21 => ?_
    refine G.region ?_
    refine GL.run (j := 1) 1 [0, 3, 4, 5] [(0, .slice A ls.length c), (3, .int .u64 (((tot ls 0).2 : Nat) : Int)), (4, .int .i64 (((tot ls 0).1 : Nat) : Int)), (5, .int .u64 0)] (by kernel_rfl) rfl ?_
    refine GL.k rfl hK21 (fun _ _ h => h) ?_
    refine G.seqK fun K22 hK23 => ?_
    refine G.seqK fun K24 hK25 => ?_
    refine G.region ?_
    refine GL.run (j := 3) 3 [3, 4, 5, 22, 23, 24] [(3, .int .u64 (((tot ls 0).2 : Nat) : Int)), (4, .int .i64 (((tot ls 0).1 : Nat) : Int)), (5, .int .u64 0), (22, .slice A ls.length c), (23, .int .i64 (ls.length : Int)), (24, .int .i64 0)] (by kernel_rfl) rfl ?_
    refine GL.k rfl hK25 (fun _ _ h => h) ?_
    refine G.block ?_
    have H26 : Hp w [] [] w19 := H17.sub (List.Sublist.cons _ (List.Sublist.slnil))
    refine G.fit [3, 4, 5, 22, 23, 24] (M' := [(3, .int .u64 (((tot ls 0).2 : Nat) : Int)), (4, .int .i64 (((tot ls 0).1 : Nat) : Int)), (5, .int .u64 0), (22, .slice A ls.length c), (23, .int .i64 (ls.length : Int)), (24, .int .i64 0)]) (by kernel_rfl) ?_
    refine G.loop (X := Nat × Nat) (fun ⟨k, s⟩ => [(3, .int .u64 (((tot ls 0).2 : Nat) : Int)), (4, .int .i64 (((tot ls 0).1 : Nat) : Int)), (5, .int .u64 (s : Int)), (22, .slice A ls.length c), (23, .int .i64 (ls.length : Int)), (24, .int .i64 (k : Int))]) (fun ⟨k, s⟩ w_ => (k ≤ ls.length ∧ s ≤ MX ∧ tot ls 0 = tot (ls.drop k) s) ∧ Hp w [] [] w_) (fun ⟨k, s⟩ => ls.length - k) ⟨0, 0⟩ [3, 4, 5, 22, 23, 24] (by kernel_rfl) ⟨⟨Nat.zero_le _, Nat.zero_le _, by rw [List.drop_zero]⟩, H26⟩ ?_
    rintro ⟨k, s⟩ w27 ⟨hi28, H29⟩
    refine G.eq (M' := [(3, .int .u64 (((tot ls 0).2 : Nat) : Int)), (4, .int .i64 (((tot ls 0).1 : Nat) : Int)), (5, .int .u64 (s : Int)), (22, .slice A ls.length c), (23, .int .i64 (ls.length : Int)), (24, .int .i64 (k : Int))]) rfl ?_
    have H29 : Hp w [] [] w27 := H29
    obtain ⟨hk1, hs1, hs2⟩ := hi28
    refine G.seqK fun K30 hK31 => ?_
    refine G.region ?_
    refine GL.run (j := 1) 1 [3, 4, 5, 22, 23, 24, 25] [(3, .int .u64 (((tot ls 0).2 : Nat) : Int)), (4, .int .i64 (((tot ls 0).1 : Nat) : Int)), (5, .int .u64 (s : Int)), (22, .slice A ls.length c), (23, .int .i64 (ls.length : Int)), (24, .int .i64 (k : Int)), (25, .bool (decide ((k : Int) < (ls.length : Int))))] (by kernel_rfl) rfl ?_
    refine GL.k rfl hK31 (fun _ _ h => h) ?_
    refine G.seqK fun K32 hK33 => ?_
    cases hb34 : (decide ((k : Int) < (ls.length : Int)))
    · skip
      have hb34f := of_decide_eq_false hb34
      have ht : tot ls 0 = (0, s) := by rw [hs2, show k = ls.length by omega, tot_end]
      refine G.no rfl ?_
      refine G.exitK hK23 (fun _ _ h => h) ?_
      refine G.seqK fun K35 hK36 => ?_
      refine G.region ?_
      refine GL.run (j := 3) 3 [3, 5, 52] [(3, .int .u64 (((tot ls 0).2 : Nat) : Int)), (5, .int .u64 (s : Int)), (52, .bool ((((tot ls 0).1 : Nat) : Int) == 0))] (by kernel_rfl) rfl ?_
      have hb37 : ((((tot ls 0).1 : Nat) : Int) == 0) = true := by rw [ht]; first | rfl | simp
      rw [hb37]
      refine GL.run (j := 8) 5 [2] [(2, .bool ((((tot ls 0).2 : Nat) : Int) == (s : Int)))] (by kernel_rfl) rfl ?_
      refine GL.k rfl hK36 (fun _ _ h => h) ?_
      refine G.ret ?_
      intro F_ hF_ hM_
      refine hRet _ _ (bodyPost_1 rfl (RV.tmp rfl) ?_ F_ hF_ hM_)
      have hb38 : ((((tot ls 0).2 : Nat) : Int) == (s : Int)) = true := by rw [ht]; first | rfl | simp
      rw [hb38]
      exact ⟨rfl, H29.sub (List.nil_sublist _)⟩
    · skip
      have hb34f := of_decide_eq_true hb34
      refine G.yes rfl ?_
      refine G.skipK hK33 (fun _ _ h => h) ?_
      refine G.seqK fun K39 hK40 => ?_
      refine G.block ?_
      refine G.seqK fun K41 hK42 => ?_
      refine G.region ?_
      refine GL.sem (j := 1) (run_idxRd (P := Try.prog) (k := .i64) (t := 42) (A := A) (len := ls.length) (cap := c) (j := k) (by kernel_rfl) rfl (hr.hp H29) (by first | exact dg_length _ | rw [dg_length]; first | rfl | assumption | (symm; assumption) | (simp; done) | (rw [List.length_take]; omega) | omega) (by first | rfl | omega | (simp only [List.length_cons, List.length_nil, List.length_drop, List.length_take, List.length_append] <;> omega))) [3, 4, 5, 22, 23, 24, 26] [(3, .int .u64 (((tot ls 0).2 : Nat) : Int)), (4, .int .i64 (((tot ls 0).1 : Nat) : Int)), (5, .int .u64 (s : Int)), (22, .slice A ls.length c), (23, .int .i64 (ls.length : Int)), (24, .int .i64 (k : Int)), (26, .pointer (Option.map (fun x => Addr.add x k) A))] (by kernel_rfl) (by kernel_rfl) rfl ?_
      have hdx := (getD_some (ls := ls) (k := k) (by omega))
      have hst := tot_step (s := s) hdx
      have hxK := hls _ (List.mem_of_getElem? hdx)
      refine GL.sem (j := 2) (run_ldRd (P := Try.prog) (ty := 23) (A := A) (j := k) (v := .int .u64 ((ls.getD k 0 : Nat) : Int)) (by kernel_rfl) (hr.hp H29) (dg_at (getD_some (by omega)))) [3, 4, 5, 22, 23, 24, 27] [(3, .int .u64 (((tot ls 0).2 : Nat) : Int)), (4, .int .i64 (((tot ls 0).1 : Nat) : Int)), (5, .int .u64 (s : Int)), (22, .slice A ls.length c), (23, .int .i64 (ls.length : Int)), (24, .int .i64 (k : Int)), (27, .int .u64 ((ls.getD k 0 : Nat) : Int))] (by kernel_rfl) (by kernel_rfl) rfl ?_
      refine GL.run (j := 3) 1 [3, 4, 5, 7, 22, 23, 24] [(3, .int .u64 (((tot ls 0).2 : Nat) : Int)), (4, .int .i64 (((tot ls 0).1 : Nat) : Int)), (5, .int .u64 (s : Int)), (7, .int .u64 ((ls.getD k 0 : Nat) : Int)), (22, .slice A ls.length c), (23, .int .i64 (ls.length : Int)), (24, .int .i64 (k : Int))] (by kernel_rfl) rfl ?_
      refine GL.k rfl hK42 (fun _ _ h => h) ?_
      refine G.seqK fun K43 hK44 => ?_
      refine G.seqK fun K45 hK46 => ?_
      refine G.region ?_
      refine GL.run (j := 2) 2 [3, 4, 5, 7, 22, 23, 24, 29] [(3, .int .u64 (((tot ls 0).2 : Nat) : Int)), (4, .int .i64 (((tot ls 0).1 : Nat) : Int)), (5, .int .u64 (s : Int)), (7, .int .u64 ((ls.getD k 0 : Nat) : Int)), (22, .slice A ls.length c), (23, .int .i64 (ls.length : Int)), (24, .int .i64 (k : Int)), (29, .bool (decide (4611686018427387904 < ((ls.getD k 0 : Nat) : Int))))] (by kernel_rfl) rfl ?_
      refine GL.k rfl hK46 (fun _ _ h => h) ?_
      cases hb47 : (decide (4611686018427387904 < ((ls.getD k 0 : Nat) : Int)))
      · skip
        have hb47f := of_decide_eq_false hb47
        refine G.no rfl ?_
        refine G.skipK hK44 (fun _ _ h => h) ?_
        refine G.seqK fun K48 hK49 => ?_
        refine G.seqK fun K50 hK51 => ?_
        refine G.region ?_
        refine GL.run (j := 4) 4 [3, 4, 5, 7, 22, 23, 24, 39] [(3, .int .u64 (((tot ls 0).2 : Nat) : Int)), (4, .int .i64 (((tot ls 0).1 : Nat) : Int)), (5, .int .u64 (s : Int)), (7, .int .u64 ((ls.getD k 0 : Nat) : Int)), (22, .slice A ls.length c), (23, .int .i64 (ls.length : Int)), (24, .int .i64 (k : Int)), (39, .bool (decide ((IntKind.u64.wrap (4611686018427387904 - ((ls.getD k 0 : Nat) : Int))) < (s : Int))))] (by kernel_rfl) rfl ?_
        have e52 : (IntKind.u64.wrap (4611686018427387904 - ((ls.getD k 0 : Nat) : Int))) = ((4611686018427387904 - (ls.getD k 0) : Nat) : Int) := n_sub (a := 4611686018427387904) (b := (ls.getD k 0)) (by omega) (by omega)
        refine GL.eq (M' := [(3, .int .u64 (((tot ls 0).2 : Nat) : Int)), (4, .int .i64 (((tot ls 0).1 : Nat) : Int)), (5, .int .u64 (s : Int)), (7, .int .u64 ((ls.getD k 0 : Nat) : Int)), (22, .slice A ls.length c), (23, .int .i64 (ls.length : Int)), (24, .int .i64 (k : Int)), (39, .bool (decide (((4611686018427387904 - (ls.getD k 0) : Nat) : Int) < (s : Int))))]) (by rw [e52]) ?_
        clear e52
        refine GL.k rfl hK51 (fun _ _ h => h) ?_
        cases hb53 : (decide (((4611686018427387904 - (ls.getD k 0) : Nat) : Int) < (s : Int)))
        · skip
          have hb53f := of_decide_eq_false hb53
          refine G.no rfl ?_
          refine G.skipK hK49 (fun _ _ h => h) ?_
          refine G.region ?_
          refine GL.run (j := 4) 4 [3, 4, 5, 22, 23, 24] [(3, .int .u64 (((tot ls 0).2 : Nat) : Int)), (4, .int .i64 (((tot ls 0).1 : Nat) : Int)), (5, .int .u64 (IntKind.u64.wrap ((s : Int) + ((ls.getD k 0 : Nat) : Int)))), (22, .slice A ls.length c), (23, .int .i64 (ls.length : Int)), (24, .int .i64 (k : Int))] (by kernel_rfl) rfl ?_
          have e54 : (IntKind.u64.wrap ((s : Int) + ((ls.getD k 0 : Nat) : Int))) = ((s + (ls.getD k 0) : Nat) : Int) := n_add' (a := s) (b := (ls.getD k 0)) (by omega)
          refine GL.eq (M' := [(3, .int .u64 (((tot ls 0).2 : Nat) : Int)), (4, .int .i64 (((tot ls 0).1 : Nat) : Int)), (5, .int .u64 ((s + (ls.getD k 0) : Nat) : Int)), (22, .slice A ls.length c), (23, .int .i64 (ls.length : Int)), (24, .int .i64 (k : Int))]) (by rw [e54]) ?_
          clear e54
          refine GL.k rfl hK40 (fun _ _ h => h) ?_
          refine G.region ?_
          refine GL.run (j := 2) 2 [3, 4, 5, 22, 23, 24] [(3, .int .u64 (((tot ls 0).2 : Nat) : Int)), (4, .int .i64 (((tot ls 0).1 : Nat) : Int)), (5, .int .u64 ((s + (ls.getD k 0) : Nat) : Int)), (22, .slice A ls.length c), (23, .int .i64 (ls.length : Int)), (24, .int .i64 (IntKind.i64.wrap ((k : Int) + 1)))] (by kernel_rfl) rfl ?_
          have e55 : (IntKind.i64.wrap ((k : Int) + 1)) = ((k + 1 : Nat) : Int) := by rw [in_i64 (by omega)]; omega
          refine GL.eq (M' := [(3, .int .u64 (((tot ls 0).2 : Nat) : Int)), (4, .int .i64 (((tot ls 0).1 : Nat) : Int)), (5, .int .u64 ((s + (ls.getD k 0) : Nat) : Int)), (22, .slice A ls.length c), (23, .int .i64 (ls.length : Int)), (24, .int .i64 ((k + 1 : Nat) : Int))]) (by rw [e55]) ?_
          clear e55
          refine GL.fit (ts := [3, 4, 5, 22, 23, 24]) (M' := [(3, .int .u64 (((tot ls 0).2 : Nat) : Int)), (4, .int .i64 (((tot ls 0).1 : Nat) : Int)), (5, .int .u64 ((s + (ls.getD k 0) : Nat) : Int)), (22, .slice A ls.length c), (23, .int .i64 (ls.length : Int)), (24, .int .i64 ((k + 1 : Nat) : Int))]) (by kernel_rfl) ?_
          refine GL.eq (M' := [(3, .int .u64 (((tot ls 0).2 : Nat) : Int)), (4, .int .i64 (((tot ls 0).1 : Nat) : Int)), (5, .int .u64 (((s + (ls.getD k 0)) : Nat) : Int)), (22, .slice A ls.length c), (23, .int .i64 (ls.length : Int)), (24, .int .i64 (((k + 1) : Nat) : Int))]) (by rfl) ?_
          exact GL.again ⟨(k + 1), (s + (ls.getD k 0))⟩ [3, 4, 5, 22, 23, 24] rfl (by kernel_rfl) (by show ls.length - (k + 1) < ls.length - k; omega) ⟨⟨by omega, by omega, by rw [hs2, hst, if_neg (by omega), if_neg (by omega)]⟩, H29⟩
        · skip
          have hb53f := of_decide_eq_true hb53
          have ht : tot ls 0 = (4, 0) := by rw [hs2, hst, if_neg (by omega), if_pos (by omega)]
          refine G.yes rfl ?_
          refine G.seqK fun K56 hK57 => ?_
          refine G.region ?_
          refine GL.run (j := 3) 3 [3, 42] [(3, .int .u64 (((tot ls 0).2 : Nat) : Int)), (42, .bool ((((tot ls 0).1 : Nat) : Int) == 4))] (by kernel_rfl) rfl ?_
          have hb58 : ((((tot ls 0).1 : Nat) : Int) == 4) = true := by rw [ht]; first | rfl | simp
          rw [hb58]
          refine GL.run (j := 7) 4 [2] [(2, .bool ((((tot ls 0).2 : Nat) : Int) == 0))] (by kernel_rfl) rfl ?_
          refine GL.k rfl hK57 (fun _ _ h => h) ?_
          refine G.ret ?_
          intro F_ hF_ hM_
          refine hRet _ _ (bodyPost_1 rfl (RV.tmp rfl) ?_ F_ hF_ hM_)
          have hb59 : ((((tot ls 0).2 : Nat) : Int) == 0) = true := by rw [ht]; first | rfl | simp
          rw [hb59]
          exact ⟨rfl, H29.sub (List.nil_sublist _)⟩
      · skip
        have hb47f := of_decide_eq_true hb47
        have ht : tot ls 0 = (1, 0) := by rw [hs2, hst, if_pos (by omega)]
        refine G.yes rfl ?_
        refine G.seqK fun K60 hK61 => ?_
        refine G.region ?_
        refine GL.run (j := 3) 3 [3, 32] [(3, .int .u64 (((tot ls 0).2 : Nat) : Int)), (32, .bool ((((tot ls 0).1 : Nat) : Int) == 1))] (by kernel_rfl) rfl ?_
        have hb62 : ((((tot ls 0).1 : Nat) : Int) == 1) = true := by rw [ht]; first | rfl | simp
        rw [hb62]
        refine GL.run (j := 7) 4 [2] [(2, .bool ((((tot ls 0).2 : Nat) : Int) == 0))] (by kernel_rfl) rfl ?_
        refine GL.k rfl hK61 (fun _ _ h => h) ?_
        refine G.ret ?_
        intro F_ hF_ hM_
        refine hRet _ _ (bodyPost_1 rfl (RV.tmp rfl) ?_ F_ hF_ hM_)
        have hb63 : ((((tot ls 0).2 : Nat) : Int) == 0) = true := by rw [ht]; first | rfl | simp
        rw [hb63]
        exact ⟨rfl, H29.sub (List.nil_sublist _)⟩
  · skip
    have hb10f := of_decide_eq_true hb10
    refine G.yes rfl ?_
    refine G.seqK fun K64 hK65 => ?_
    refine G.region ?_
    refine GL.call (j := 1) (lives_calls w7) (by kernel_rfl) rfl (fun e_ w66 hR => ?_)
    obtain ⟨rfl, H68⟩ := hR
    have H67 : Hp w [] [] w66 := H8.callNil H68
    refine ⟨_, rfl, [15], [(15, .bool true)], by kernel_rfl, ?_⟩
    refine GL.run (j := 2) 1 [2] [(2, .bool true)] (by kernel_rfl) rfl ?_
    refine GL.k rfl hK65 (fun _ _ h => h) ?_
    refine G.ret ?_
    intro F_ hF_ hM_
    refine hRet _ _ (bodyPost_1 rfl (RV.tmp rfl) ?_ F_ hF_ hM_)
    exact ⟨rfl, H67.sub (List.nil_sublist _)⟩
end Go.Proofs.Ytgbhiklengafiaa
