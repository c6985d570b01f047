/- Amounts, one by one. -/
import Derived.Test.YtgbhiklengafiaaRows
import Derived.Test.YtgbhiklengafiaaRa
import Derived.Test.YtgbhiklengafiaaNb
namespace Go.Proofs.Ytgbhiklengafiaa
open Go.RowKit
theorem each_iter (ls : List Nat) (hlen : ls.length ≤ 1000000) (A : Option Addr) (c B : Nat) : Iter Try.prog 30 #[pt B 0] ls.length (fun k => #[.int .u64 ((ls.getD k 0 : Nat) : Int)]) (fun W => W.cell? ⟨B, 0, none⟩ = some (.slice A ls.length c) ∧ RdS W A (dg ls)) := by
  intro l J Jx hRd hst hy w h0
  rw [show (#[Value.func (.yield l) #[] #[]] ++ #[pt B 0] : Array Value) = #[.func (.yield l) #[] #[], pt B 0] by simp]
  refine calls_R (args := [.func (.yield l) #[] #[], pt B 0]) Try.func30 rfl Try.ntmps30 rfl ?_
  intro Q0 hRet hNor
  have H := Hp.start w
  have H : Hp w [] [] w := H
  refine RG.seqK fun K1 hK2 => ?_
  refine RG.region (by kernel_rfl) ?_
  refine RL.sem (j := 1) (run_ld1 (P := Try.prog) (ty := 42) (a := ⟨B, 0, none⟩) (v := .slice A ls.length c) (by kernel_rfl) ((hRd _ _ h0).1)) [0, 5] [(0, .func (.yield l) #[] #[]), (5, .slice A ls.length c)] (by kernel_rfl) (by kernel_rfl) rfl ?_
  refine RL.run (j := 3) 2 [0, 5, 6, 7] [(0, .func (.yield l) #[] #[]), (5, .slice A ls.length c), (6, .int .i64 (ls.length : Int)), (7, .int .i64 0)] (by kernel_rfl) rfl ?_
  refine RL.k rfl hK2 (fun _ _ h => h) ?_
  refine RG.block ?_
  refine RG.fit [0, 5, 6, 7] (M' := [(0, .func (.yield l) #[] #[]), (5, .slice A ls.length c), (6, .int .i64 (ls.length : Int)), (7, .int .i64 0)]) (by kernel_rfl) ?_
  refine RG.loop (X := Nat) (fun k => [(0, .func (.yield l) #[] #[]), (5, .slice A ls.length c), (6, .int .i64 (ls.length : Int)), (7, .int .i64 (k : Int))]) (fun k w_ => k ≤ ls.length ∧ J k w_) (fun k => ls.length - k) 0 [0, 5, 6, 7] (by kernel_rfl) ⟨Nat.zero_le _, h0⟩ ?_
  rintro k wk ⟨hkN, hJk⟩
  have H3 := Hp.start wk
  refine RG.eq (M' := [(0, .func (.yield l) #[] #[]), (5, .slice A ls.length c), (6, .int .i64 (ls.length : Int)), (7, .int .i64 (k : Int))]) rfl ?_
  refine RG.seqK fun K4 hK5 => ?_
  refine RG.region (by kernel_rfl) ?_
  refine RL.run (j := 1) 1 [0, 5, 6, 7, 8] [(0, .func (.yield l) #[] #[]), (5, .slice A ls.length c), (6, .int .i64 (ls.length : Int)), (7, .int .i64 (k : Int)), (8, .bool (decide ((k : Int) < (ls.length : Int))))] (by kernel_rfl) rfl ?_
  refine RL.k rfl hK5 (fun _ _ h => h) ?_
  refine RG.seqK fun K6 hK7 => ?_
  cases hb8 : (decide ((k : Int) < (ls.length : Int)))
  · skip
    have hb8f := of_decide_eq_false hb8
    refine RG.no rfl ?_
    -- exit to the end
    refine fun F_ hF_ hM_ => wpIn_exit ?_
    refine hNor _ _ (postM_0 rfl  ?_ F_ hF_ hM_)
    exact ⟨⟨_, rfl⟩, .inl (by first | exact hJk | (have hkk : k = ls.length := by omega); rw [← hkk]; exact hJk)⟩
  · skip
    have hb8f := of_decide_eq_true hb8
    refine RG.yes rfl ?_
    refine RG.skipK hK7 (fun _ _ h => h) ?_
    refine RG.seqK fun K9 hK10 => ?_
    refine RG.block ?_
    refine RG.seqK fun K11 hK12 => ?_
    refine RG.region (by kernel_rfl) ?_
    refine RL.sem (j := 1) (run_idxRd (P := Try.prog) (k := .i64) (t := 42) (A := A) (len := ls.length) (cap := c) (j := k) (by kernel_rfl) rfl ((hRd _ _ hJk).2) (by first | exact dg_length _ | rw [dg_length]; first | rfl | assumption | (symm; assumption) | (simp; done) | (rw [List.length_take]; omega) | omega) (by first | rfl | omega | (simp only [List.length_cons, List.length_nil, List.length_drop, List.length_take, List.length_append] <;> omega))) [0, 5, 6, 7, 9] [(0, .func (.yield l) #[] #[]), (5, .slice A ls.length c), (6, .int .i64 (ls.length : Int)), (7, .int .i64 (k : Int)), (9, .pointer (Option.map (fun x => Addr.add x k) A))] (by kernel_rfl) (by kernel_rfl) rfl ?_
    refine RL.sem (j := 2) (run_ldRd (P := Try.prog) (ty := 23) (A := A) (j := k) (v := .int .u64 ((ls.getD k 0 : Nat) : Int)) (by kernel_rfl) ((hRd _ _ hJk).2) (dg_at (getD_some (by omega)))) [0, 5, 6, 7, 10] [(0, .func (.yield l) #[] #[]), (5, .slice A ls.length c), (6, .int .i64 (ls.length : Int)), (7, .int .i64 (k : Int)), (10, .int .u64 ((ls.getD k 0 : Nat) : Int))] (by kernel_rfl) (by kernel_rfl) rfl ?_
    refine RL.run (j := 3) 1 [0, 4, 5, 6, 7] [(0, .func (.yield l) #[] #[]), (4, .int .u64 ((ls.getD k 0 : Nat) : Int)), (5, .slice A ls.length c), (6, .int .i64 (ls.length : Int)), (7, .int .i64 (k : Int))] (by kernel_rfl) rfl ?_
    refine RL.k rfl hK12 (fun _ _ h => h) ?_
    refine RG.seqK fun K13 hK14 => ?_
    refine RG.region (by kernel_rfl) ?_
    refine RL.run (j := 2) 2 [0, 5, 6, 7, 11, 12] [(0, .func (.yield l) #[] #[]), (5, .slice A ls.length c), (6, .int .i64 (ls.length : Int)), (7, .int .i64 (k : Int)), (11, .func (.yield l) #[] #[]), (12, .int .u64 ((ls.getD k 0 : Nat) : Int))] (by kernel_rfl) rfl ?_
    refine RL.yield (j := 3) (hy k _ (by omega) hJk) (by kernel_rfl) rfl (fun e_ w15 hR19 => ?_)
    obtain ⟨b16, rfl, hyt17, hyf18⟩ := yield_cases hR19
    have H20 := Hp.start w15
    refine ⟨_, rfl, [0, 5, 6, 7, 13], [(0, .func (.yield l) #[] #[]), (5, .slice A ls.length c), (6, .int .i64 (ls.length : Int)), (7, .int .i64 (k : Int)), (13, .bool b16)], by kernel_rfl, ?_⟩
    refine RL.run (j := 4) 1 [0, 5, 6, 7, 14] [(0, .func (.yield l) #[] #[]), (5, .slice A ls.length c), (6, .int .i64 (ls.length : Int)), (7, .int .i64 (k : Int)), (14, .bool (!b16))] (by kernel_rfl) rfl ?_
    refine RL.k rfl hK14 (fun _ _ h => h) ?_
    cases hb21 : b16
    · skip
      have hJ22 := hyf18 hb21
      refine RG.yes rfl ?_
      refine RG.ret ?_
      intro F_ hF_ hM_
      refine hRet _ _ (postM_0 rfl  ?_ F_ hF_ hM_)
      exact ⟨⟨_, rfl⟩, .inr hJ22⟩
    · skip
      have hJ23 := hyt17 hb21
      refine RG.no rfl ?_
      refine RG.skipK hK10 (fun _ _ h => h) ?_
      refine RG.region (by kernel_rfl) ?_
      refine RL.run (j := 2) 2 [0, 5, 6, 7] [(0, .func (.yield l) #[] #[]), (5, .slice A ls.length c), (6, .int .i64 (ls.length : Int)), (7, .int .i64 (IntKind.i64.wrap ((k : Int) + 1)))] (by kernel_rfl) rfl ?_
      have e24 : (IntKind.i64.wrap ((k : Int) + 1)) = ((k + 1 : Nat) : Int) := by rw [in_i64 (by omega)]; omega
      refine RL.eq (M' := [(0, .func (.yield l) #[] #[]), (5, .slice A ls.length c), (6, .int .i64 (ls.length : Int)), (7, .int .i64 ((k + 1 : Nat) : Int))]) (by rw [e24]) ?_
      clear e24
      refine RL.fit (ts := [0, 5, 6, 7]) (M' := [(0, .func (.yield l) #[] #[]), (5, .slice A ls.length c), (6, .int .i64 (ls.length : Int)), (7, .int .i64 ((k + 1 : Nat) : Int))]) (by kernel_rfl) ?_
      refine RL.eq (M' := [(0, .func (.yield l) #[] #[]), (5, .slice A ls.length c), (6, .int .i64 (ls.length : Int)), (7, .int .i64 (((k + 1) : Nat) : Int))]) (by rfl) ?_
      exact RL.again (k + 1) [0, 5, 6, 7] rfl (by kernel_rfl) (by show ls.length - (k + 1) < ls.length - k; omega) ⟨by omega, hJ23⟩
theorem each_calls (A : Option Addr) (n c : Nat) (w : World) : Calls Try.prog 19 #[.slice A n c] w fun e w' => ∃ B, e = .returned (.func (.func 30) #[] #[.pointer (some ⟨B, 0, none⟩)]) ∧ Hp w [] [.blk B [.slice A n c] 42] w' := by
  refine calls_G (args := [.slice A n c]) Try.func19 rfl Try.ntmps19 rfl ?_
  intro Q0 hRet hNor hPan
  have H := Hp.start w
  have H : Hp w [] [] w := H
  refine G.seqK fun K1 hK2 => ?_
  refine G.region ?_
  obtain ⟨p3, w4, r5, H6⟩ := H.box (P := Try.prog) 42 [.slice A n c] (.slice A n c) rfl
  have H6 : Hp w [] [.blk p3 [.slice A n c] 42] w4 := H6
  refine GL.sem (j := 1) (r5) [1] [(1, pt p3 0)] (by kernel_rfl) (by kernel_rfl) rfl ?_
  refine GL.run (j := 2) 1 [1] [(1, pt p3 0)] (by kernel_rfl) rfl ?_
  refine GL.k rfl hK2 (fun _ _ h => h) ?_
  refine G.seqK fun K7 hK8 => ?_
  refine G.region ?_
  refine GL.run (j := 2) 2 [2] [(2, .func (.func 30) #[] #[pt p3 0])] (by kernel_rfl) rfl ?_
  refine GL.k rfl hK8 (fun _ _ h => h) ?_
  refine G.ret ?_
  intro F_ hF_ hM_
  refine hRet _ _ (bodyPost_1 rfl (RV.tmp rfl) ?_ F_ hF_ hM_)
  exact ⟨_, rfl, H6⟩
end Go.Proofs.Ytgbhiklengafiaa
