/- Part 2 of what txApart_proved stands on. -/
import Derived.Test.YtcedmbdahbdmaaaZr1
set_option linter.unusedVariables false
set_option maxRecDepth 100000
namespace Go.Proofs.Ytcedmbdahbdmaaa
open Go.RowKit
theorem acc_lt {V : List UInt8} {k : Nat} (h : k ≤ 7) : getB (V.drop (V.length - k)) < 72057594037927936 := by
  have h1 := getB_lt (V.drop (V.length - k))
  have h2 : (V.drop (V.length - k)).length ≤ k := by rw [List.length_drop]; omega
  have h3 : 256 ^ (V.drop (V.length - k)).length ≤ 256 ^ 7 := Nat.pow_le_pow_right (by decide) (by omega)
  exact Nat.lt_of_lt_of_le h1 h3
theorem acc_step {V : List UInt8} {k : Nat} (h : k < V.length) : (V.getD (V.length - 1 - k) 0).toNat + 256 * getB (V.drop (V.length - k)) = getB (V.drop (V.length - (k + 1))) := by
  have h1 := getB_drop (getD8 (bs := V) (k := V.length - 1 - k) (by omega))
  rw [show V.length - (k + 1) = V.length - 1 - k by omega, h1, show V.length - 1 - k + 1 = V.length - k by omega]
theorem Backward_calls (A : Option Addr) (n c : Nat) (w : World) : Calls Try.prog 58 #[.slice A n c] w fun e w' => ∃ B, e = .returned (.func (.func 73) #[] #[.pointer (some ⟨B, 0, none⟩)]) ∧ Hp w [] [.blk B [.slice A n c] 38] w' := by
  refine calls_G (args := [.slice A n c]) Try.func58 rfl Try.ntmps58 rfl ?_
  intro Q0 hRet hNor hPan
  have H := Hp.start w
  have H : Hp w [] [] w := H
  refine G.seqK fun K1 hK2 => ?_
  refine G.region ?_
  obtain ⟨p3, w4, r5, H6⟩ := H.box (P := Try.prog) 38 [.slice A n c] (.slice A n c) rfl
  have H6 : Hp w [] [.blk p3 [.slice A n c] 38] w4 := H6
  refine GL.sem (j := 1) (r5) [1] [(1, pt p3 0)] (by kernel_rfl) (by kernel_rfl) rfl ?_
  refine GL.run (j := 2) 1 [1] [(1, pt p3 0)] (by kernel_rfl) rfl ?_
  refine GL.k rfl hK2 (fun _ _ h => h) ?_
  refine G.seqK fun K7 hK8 => ?_
  refine G.region ?_
  refine GL.run (j := 2) 2 [2] [(2, .func (.func 73) #[] #[pt p3 0])] (by kernel_rfl) rfl ?_
  refine GL.k rfl hK8 (fun _ _ h => h) ?_
  refine G.ret ?_
  intro F_ hF_ hM_
  refine hRet _ _ (bodyPost_1 rfl (RV.tmp rfl) ?_ F_ hF_ hM_)
  exact ⟨_, rfl, H6⟩
theorem Backward_iter (bs : List UInt8) (hlen : bs.length ≤ 1099511627776) (A : Option Addr) (c B : Nat) : Iter Try.prog 73 #[pt B 0] bs.length (fun k => #[.int .i64 ((bs.length - 1 - k : Nat) : Int), .int .u8 ((bs.getD (bs.length - 1 - k) 0).toNat : Int)]) (fun W => W.cell? ⟨B, 0, none⟩ = some (.slice A bs.length c) ∧ RdS W A (by8 bs)) := by
  intro l J Jx hRd hst hy w h0
  rw [show (#[Value.func (.yield l) #[] #[]] ++ #[pt B 0] : Array Value) = #[.func (.yield l) #[] #[], pt B 0] by simp]
  refine calls_R (args := [.func (.yield l) #[] #[], pt B 0]) Try.func73 rfl Try.ntmps73 rfl ?_
  intro Q0 hRet hNor
  have H := Hp.start w
  have H : Hp w [] [] w := H
  refine RG.seqK fun K1 hK2 => ?_
  refine RG.region (by kernel_rfl) ?_
  refine RL.sem (j := 1) (run_ld1 (P := Try.prog) (ty := 38) (a := ⟨B, 0, none⟩) (v := .slice A bs.length c) (by kernel_rfl) ((hRd _ _ h0).1)) [0, 1, 4] [(0, .func (.yield l) #[] #[]), (1, pt B 0), (4, .slice A bs.length c)] (by kernel_rfl) (by kernel_rfl) rfl ?_
  refine RL.run (j := 4) 3 [0, 1, 3] [(0, .func (.yield l) #[] #[]), (1, pt B 0), (3, .int .i64 (IntKind.i64.wrap ((bs.length : Int) - 1)))] (by kernel_rfl) rfl ?_
  have e3 : (IntKind.i64.wrap ((bs.length : Int) - 1)) = (((bs.length - 0 : Nat) : Int) - 1) := by rw [Nat.sub_zero, in_i64 (by omega)]
  refine RL.eq (M' := [(0, .func (.yield l) #[] #[]), (1, pt B 0), (3, .int .i64 (((bs.length - 0 : Nat) : Int) - 1))]) (by rw [e3]) ?_
  clear e3
  refine RL.k rfl hK2 (fun _ _ h => h) ?_
  refine RG.block ?_
  refine RG.fit [0, 1, 3] (M' := [(0, .func (.yield l) #[] #[]), (1, pt B 0), (3, .int .i64 (((bs.length - 0 : Nat) : Int) - 1))]) (by kernel_rfl) ?_
  refine RG.loop (X := Nat) (fun k => [(0, .func (.yield l) #[] #[]), (1, pt B 0), (3, .int .i64 (((bs.length - k : Nat) : Int) - 1))]) (fun k w_ => k ≤ bs.length ∧ J k w_) (fun k => bs.length - k) 0 [0, 1, 3] (by kernel_rfl) ⟨Nat.zero_le _, h0⟩ ?_
  rintro k wk ⟨hkN, hJk⟩
  have H4 := Hp.start wk
  refine RG.eq (M' := [(0, .func (.yield l) #[] #[]), (1, pt B 0), (3, .int .i64 (((bs.length - k : Nat) : Int) - 1))]) rfl ?_
  refine RG.seqK fun K5 hK6 => ?_
  refine RG.seqK fun K7 hK8 => ?_
  refine RG.region (by kernel_rfl) ?_
  refine RL.run (j := 2) 2 [0, 1, 3, 8] [(0, .func (.yield l) #[] #[]), (1, pt B 0), (3, .int .i64 (((bs.length - k : Nat) : Int) - 1)), (8, .bool (decide (0 ≤ (((bs.length - k : Nat) : Int) - 1))))] (by kernel_rfl) rfl ?_
  refine RL.k rfl hK8 (fun _ _ h => h) ?_
  cases hb9 : (decide (0 ≤ (((bs.length - k : Nat) : Int) - 1)))
  · skip
    have hb9f := of_decide_eq_false hb9
    refine RG.no rfl ?_
    refine fun F_ hF_ hM_ => wpIn_exit ?_
    refine hNor _ _ (postM_0 rfl  ?_ F_ hF_ hM_)
    exact ⟨⟨_, rfl⟩, .inl (by first | exact hJk | (have hkk : k = bs.length := by omega); rw [← hkk]; exact hJk)⟩
  · skip
    have hb9f := of_decide_eq_true hb9
    have ei : (((bs.length - k : Nat) : Int) - 1) = ((bs.length - 1 - k : Nat) : Int) := by omega
    refine RG.eq (M' := [(0, .func (.yield l) #[] #[]), (1, pt B 0), (3, .int .i64 ((bs.length - 1 - k : Nat) : Int)), (8, .bool true)]) (by rw [ei]) ?_
    refine RG.yes rfl ?_
    refine RG.skipK hK6 (fun _ _ h => h) ?_
    refine RG.seqK fun K10 hK11 => ?_
    refine RG.block ?_
    refine RG.seqK fun K12 hK13 => ?_
    refine RG.region (by kernel_rfl) ?_
    refine RL.run (j := 2) 2 [0, 1, 3, 11, 12] [(0, .func (.yield l) #[] #[]), (1, pt B 0), (3, .int .i64 ((bs.length - 1 - k : Nat) : Int)), (11, .func (.yield l) #[] #[]), (12, .int .i64 ((bs.length - 1 - k : Nat) : Int))] (by kernel_rfl) rfl ?_
    refine RL.sem (j := 3) (run_ld1 (P := Try.prog) (ty := 38) (a := ⟨B, 0, none⟩) (v := .slice A bs.length c) (by kernel_rfl) ((hRd _ _ hJk).1)) [0, 1, 3, 11, 12, 13] [(0, .func (.yield l) #[] #[]), (1, pt B 0), (3, .int .i64 ((bs.length - 1 - k : Nat) : Int)), (11, .func (.yield l) #[] #[]), (12, .int .i64 ((bs.length - 1 - k : Nat) : Int)), (13, .slice A bs.length c)] (by kernel_rfl) (by kernel_rfl) rfl ?_
    refine RL.run (j := 4) 1 [0, 1, 3, 11, 12, 13, 14] [(0, .func (.yield l) #[] #[]), (1, pt B 0), (3, .int .i64 ((bs.length - 1 - k : Nat) : Int)), (11, .func (.yield l) #[] #[]), (12, .int .i64 ((bs.length - 1 - k : Nat) : Int)), (13, .slice A bs.length c), (14, .int .i64 ((bs.length - 1 - k : Nat) : Int))] (by kernel_rfl) rfl ?_
    refine RL.sem (j := 5) (run_idxRd (P := Try.prog) (k := .i64) (t := 38) (A := A) (len := bs.length) (cap := c) (j := bs.length - 1 - k) (by kernel_rfl) rfl ((hRd _ _ hJk).2) (by rw [by8_length]) (by first | rfl | omega | (simp only [List.length_cons, List.length_nil, List.length_drop, List.length_take, List.length_append] <;> omega))) [0, 1, 3, 11, 12, 15] [(0, .func (.yield l) #[] #[]), (1, pt B 0), (3, .int .i64 ((bs.length - 1 - k : Nat) : Int)), (11, .func (.yield l) #[] #[]), (12, .int .i64 ((bs.length - 1 - k : Nat) : Int)), (15, .pointer (Option.map (fun x => Addr.add x (bs.length - 1 - k)) A))] (by kernel_rfl) (by kernel_rfl) rfl ?_
    refine RL.sem (j := 6) (run_ldRd (P := Try.prog) (ty := 5) (A := A) (j := bs.length - 1 - k) (v := .int .u8 ((bs.getD (bs.length - 1 - k) 0).toNat : Int)) (by kernel_rfl) ((hRd _ _ hJk).2) (by8_at (getD8 (by omega)))) [0, 1, 3, 11, 12, 16] [(0, .func (.yield l) #[] #[]), (1, pt B 0), (3, .int .i64 ((bs.length - 1 - k : Nat) : Int)), (11, .func (.yield l) #[] #[]), (12, .int .i64 ((bs.length - 1 - k : Nat) : Int)), (16, .int .u8 ((bs.getD (bs.length - 1 - k) 0).toNat : Int))] (by kernel_rfl) (by kernel_rfl) rfl ?_
    refine RL.yield (j := 7) (hy k _ (by omega) hJk) (by kernel_rfl) rfl (fun e_ w14 hR18 => ?_)
    obtain ⟨b15, rfl, hyt16, hyf17⟩ := yield_cases hR18
    have H19 := Hp.start w14
    refine ⟨_, rfl, [0, 1, 3, 17], [(0, .func (.yield l) #[] #[]), (1, pt B 0), (3, .int .i64 ((bs.length - 1 - k : Nat) : Int)), (17, .bool b15)], by kernel_rfl, ?_⟩
    refine RL.run (j := 8) 1 [0, 1, 3, 18] [(0, .func (.yield l) #[] #[]), (1, pt B 0), (3, .int .i64 ((bs.length - 1 - k : Nat) : Int)), (18, .bool (!b15))] (by kernel_rfl) rfl ?_
    refine RL.k rfl hK13 (fun _ _ h => h) ?_
    rcases (Bool.eq_false_or_eq_true b15).symm with hb20 | hb20
    · skip
      refine RG.eq (M' := [(0, .func (.yield l) #[] #[]), (1, pt B 0), (3, .int .i64 ((bs.length - 1 - k : Nat) : Int)), (18, .bool true)]) (by first | (rw [hb20]; done) | (rw [hb20]; rfl)) ?_
      have hJ21 := hyf17 hb20
      refine RG.yes rfl ?_
      refine RG.ret ?_
      intro F_ hF_ hM_
      refine hRet _ _ (postM_0 rfl  ?_ F_ hF_ hM_)
      exact ⟨⟨_, rfl⟩, .inr hJ21⟩
    · skip
      refine RG.eq (M' := [(0, .func (.yield l) #[] #[]), (1, pt B 0), (3, .int .i64 ((bs.length - 1 - k : Nat) : Int)), (18, .bool false)]) (by first | (rw [hb20]; done) | (rw [hb20]; rfl)) ?_
      have hJ22 := hyt16 hb20
      refine RG.no rfl ?_
      refine RG.skipK hK11 (fun _ _ h => h) ?_
      refine RG.region (by kernel_rfl) ?_
      refine RL.run (j := 3) 3 [0, 1, 3] [(0, .func (.yield l) #[] #[]), (1, pt B 0), (3, .int .i64 (IntKind.i64.wrap (((bs.length - 1 - k : Nat) : Int) - 1)))] (by kernel_rfl) rfl ?_
      have e23 : (IntKind.i64.wrap (((bs.length - 1 - k : Nat) : Int) - 1)) = (((bs.length - (k + 1) : Nat) : Int) - 1) := by rw [in_i64 (by omega)]; omega
      refine RL.eq (M' := [(0, .func (.yield l) #[] #[]), (1, pt B 0), (3, .int .i64 (((bs.length - (k + 1) : Nat) : Int) - 1))]) (by rw [e23]) ?_
      clear e23
      exact RL.again (k + 1) [0, 1, 3] rfl (by kernel_rfl) (by show bs.length - (k + 1) < bs.length - k; omega) ⟨by omega, hJ22⟩
theorem Read_calls (xs : List UInt8) (A : Option Addr) (n c : Nat) (w : World) (hx : RdS w A (by8 xs)) (hn : n = xs.length) (hb : n ≤ 1000000) : Calls Try.prog 35 #[.slice A n c] w fun e w' => ∃ p R C, e = .returned (.pointer (some ⟨p, 0, none⟩)) ∧ Hp w [] [.row R n C 5 1 (by8 xs), .blk p [.slice R n C, .bool false] 107] w' := by
  refine calls_G (args := [.slice A n c]) Try.func35 rfl Try.ntmps35 rfl ?_
  intro Q0 hRet hNor hPan
  have H := Hp.start w
  have H : Hp w [] [] w := H
  refine G.seqK fun K1 hK2 => ?_
  refine G.region ?_
  refine GL.run (j := 1) 1 [0] [(0, .slice A n c)] (by kernel_rfl) rfl ?_
  refine GL.k rfl hK2 (fun _ _ h => h) ?_
  refine G.seqK fun K3 hK4 => ?_
  refine G.region ?_
  refine GL.run (j := 1) 1 [3] [(3, .slice A n c)] (by kernel_rfl) rfl ?_
  refine GL.call (j := 2) (Clone_calls xs A n c w (hx.hp H) (by omega) (by omega)) (by kernel_rfl) rfl (fun e_ w9 hR => ?_)
  obtain ⟨A5, c6, rfl, H8⟩ := hR
  have H7 : Hp w [] [.row A5 n c6 5 1 (by8 xs)] w9 := H.callNew H8
  refine ⟨_, rfl, [4], [(4, .slice A5 n c6)], by kernel_rfl, ?_⟩
  refine GL.run (j := 3) 1 [5] [(5, .agg #[.slice A5 n c6, .bool false])] (by kernel_rfl) rfl ?_
  obtain ⟨p10, w11, r12, H13⟩ := H7.box (P := Try.prog) 107 [.slice A5 n c6, .bool false] (.agg #[.slice A5 n c6, .bool false]) rfl
  have H13 : Hp w [] [.row A5 n c6 5 1 (by8 xs), .blk p10 [.slice A5 n c6, .bool false] 107] w11 := H13
  refine GL.sem (j := 4) (r12) [6] [(6, pt p10 0)] (by kernel_rfl) (by kernel_rfl) rfl ?_
  refine GL.run (j := 5) 1 [2] [(2, pt p10 0)] (by kernel_rfl) rfl ?_
  refine GL.k rfl hK4 (fun _ _ h => h) ?_
  refine G.ret ?_
  intro F_ hF_ hM_
  refine hRet _ _ (bodyPost_1 rfl (RV.tmp rfl) ?_ F_ hF_ hM_)
  exact ⟨_, _, _, rfl, H13⟩
theorem Wrong_calls (S : List Nat) (p : Nat) (A : Option Addr) (k cap : Nat) (wr : Bool) (R : Option Addr) (N C : Nat) (whole : List UInt8) (w : World) (h0 : Hp w S [.blk p [.slice A k cap, .bool wr] 107, .row R N C 5 1 (by8 whole)] w) : Calls Try.prog 59 #[pt p 0] w fun e w' => e = .returned (.bool wr) ∧ Hp w S [.blk p [.slice A k cap, .bool wr] 107, .row R N C 5 1 (by8 whole)] w' := by
  refine calls_G (args := [pt p 0]) Try.func59 rfl Try.ntmps59 rfl ?_
  intro Q0 hRet hNor hPan
  have H := h0
  have H : Hp w S [.blk p [.slice A k cap, .bool wr] 107, .row R N C 5 1 (by8 whole)] w := H
  refine G.seqK fun K1 hK2 => ?_
  refine G.region ?_
  refine GL.run (j := 1) 1 [0] [(0, pt p 0)] (by kernel_rfl) rfl ?_
  refine GL.k rfl hK2 (fun _ _ h => h) ?_
  refine G.seqK fun K3 hK4 => ?_
  refine G.region ?_
  refine GL.run (j := 6) 6 [5, 8] [(5, .bool false), (8, pt p 1)] (by kernel_rfl) rfl ?_
  refine GL.sem (j := 7) (H.ld (o := 1) (ty := 4) (v := .bool wr) 0 rfl (by kernel_rfl) rfl) [5, 9] [(5, .bool false), (9, .bool wr)] (by kernel_rfl) (by kernel_rfl) rfl ?_
  refine GL.run (j := 9) 2 [2] [(2, .bool wr)] (by kernel_rfl) rfl ?_
  refine GL.k rfl hK4 (fun _ _ h => h) ?_
  refine G.ret ?_
  intro F_ hF_ hM_
  refine hRet _ _ (bodyPost_1 rfl (RV.tmp rfl) ?_ F_ hF_ hM_)
  exact ⟨rfl, H⟩
theorem Fail_calls (S : List Nat) (p : Nat) (A : Option Addr) (k cap : Nat) (wr : Bool) (R : Option Addr) (N C : Nat) (whole : List UInt8) (w : World) (h0 : Hp w S [.blk p [.slice A k cap, .bool wr] 107, .row R N C 5 1 (by8 whole)] w) : Calls Try.prog 57 #[pt p 0] w fun e w' => e = .returned (.tuple #[]) ∧ Hp w S [.blk p [.slice none 0 0, .bool true] 107, .row R N C 5 1 (by8 whole)] w' := by
  refine calls_G (args := [pt p 0]) Try.func57 rfl Try.ntmps57 rfl ?_
  intro Q0 hRet hNor hPan
  have H := h0
  have H : Hp w S [.blk p [.slice A k cap, .bool wr] 107, .row R N C 5 1 (by8 whole)] w := H
  refine G.seqK fun K1 hK2 => ?_
  refine G.region ?_
  refine GL.run (j := 2) 2 [0, 3] [(0, pt p 0), (3, .bool true)] (by kernel_rfl) rfl ?_
  refine GL.k rfl hK2 (fun _ _ h => h) ?_
  refine G.yes rfl ?_
  refine G.region ?_
  refine GL.run (j := 4) 4 [5, 7] [(5, pt p 0), (7, pt p 1)] (by kernel_rfl) rfl ?_
  obtain ⟨w3, r4, H5⟩ := H.st (P := Try.prog) (o := 1) (ty := 4) (v := .bool true) 0 rfl (by kernel_rfl) (by simp) rfl
  have H5 : Hp w S [.blk p [.slice A k cap, .bool true] 107, .row R N C 5 1 (by8 whole)] w3 := H5
  refine GL.semU (j := 5) r4 [5] [(5, pt p 0)] (by kernel_rfl) rfl rfl rfl ?_
  refine GL.run (j := 7) 2 [9] [(9, pt p 0)] (by kernel_rfl) rfl ?_
  obtain ⟨w6, r7, H8⟩ := H5.st (P := Try.prog) (o := 0) (ty := 38) (v := .slice none 0 0) 0 rfl (by kernel_rfl) (by simp) rfl
  have H8 : Hp w S [.blk p [.slice none 0 0, .bool true] 107, .row R N C 5 1 (by8 whole)] w6 := H8
  refine GL.semU (j := 8) r7 [] [] (by kernel_rfl) rfl rfl rfl ?_
  refine GL.done rfl ?_
  intro F_ hF_ hM_
  refine hNor _ _ (bodyPost_0 rfl  ?_ F_ hF_ hM_)
  exact ⟨rfl, H8⟩
theorem Raw_calls (S : List Nat) (p : Nat) (A : Option Addr) (k cap : Nat) (wr : Bool) (R : Option Addr) (N C : Nat) (whole rest : List UInt8) (n : Nat) (w : World) (h0 : Hp w S [.blk p [.slice A k cap, .bool wr] 107, .row R N C 5 1 (by8 whole)] w) (hcut : Cut R whole A rest) (hk : k = rest.length) (hcap : k ≤ cap) (hN : k ≤ 1000000) : Calls Try.prog 39 #[pt p 0, .int .i64 (n : Int)] w fun e w' => ∃ B b D d, e = .returned (.slice D (rV wr rest n).length d) ∧ Hp w S [.blk p [.slice B (rR wr rest n).length b, .bool (!(rOK wr rest n))] 107, .row R N C 5 1 (by8 whole), .row D (rV wr rest n).length d 5 1 (by8 (rV wr rest n))] w' ∧ Cut R whole B (rR wr rest n) ∧ (rR wr rest n).length ≤ b := by
  refine calls_G (args := [pt p 0, .int .i64 (n : Int)]) Try.func39 rfl Try.ntmps39 rfl ?_
  intro Q0 hRet hNor hPan
  have H := h0
  have H : Hp w S [.blk p [.slice A k cap, .bool wr] 107, .row R N C 5 1 (by8 whole)] w := H
  refine G.seqK fun K1 hK2 => ?_
  refine G.region ?_
  refine GL.run (j := 1) 1 [0, 1] [(0, pt p 0), (1, .int .i64 (n : Int))] (by kernel_rfl) rfl ?_
  refine GL.k rfl hK2 (fun _ _ h => h) ?_
  refine G.seqK fun K3 hK4 => ?_
  refine G.seqK fun K5 hK6 => ?_
  refine G.region ?_
  refine GL.run (j := 1) 1 [0, 1, 6] [(0, pt p 0), (1, .int .i64 (n : Int)), (6, pt p 0)] (by kernel_rfl) rfl ?_
  refine GL.call (j := 2) (Wrong_calls (ids [.blk p [.slice A k cap, .bool wr] 107, .row R N C 5 1 (by8 whole)]) p A k cap wr R N C whole w (Hp.startL (A := [.blk p [.slice A k cap, .bool wr] 107, .row R N C 5 1 (by8 whole)]) (B := []) H)) (by kernel_rfl) rfl (fun e_ w7 hR => ?_)
  obtain ⟨rfl, H9⟩ := hR
  have H8 : Hp w S [.blk p [.slice A k cap, .bool wr] 107, .row R N C 5 1 (by8 whole)] w7 := Hp.callL (A := [.blk p [.slice A k cap, .bool wr] 107, .row R N C 5 1 (by8 whole)]) (B := []) H H9
  refine ⟨_, rfl, [0, 1, 7], [(0, pt p 0), (1, .int .i64 (n : Int)), (7, .bool wr)], by kernel_rfl, ?_⟩
  refine GL.run (j := 3) 1 [0, 1, 8] [(0, pt p 0), (1, .int .i64 (n : Int)), (8, .bool wr)] (by kernel_rfl) rfl ?_
  rcases (Bool.eq_false_or_eq_true wr).symm with hb10 | hb10
  · skip
    refine GL.eq (M' := [(0, pt p 0), (1, .int .i64 (n : Int)), (8, .bool false)]) (by first | (rw [hb10]; done) | (rw [hb10]; rfl)) ?_
    have hwrF : wr = false := hb10
    refine GL.run (j := 7) 4 [0, 1, 12] [(0, pt p 0), (1, .int .i64 (n : Int)), (12, .bool (decide ((n : Int) < 0)))] (by kernel_rfl) rfl ?_
    have hb11 : (decide ((n : Int) < 0)) = false := decide_eq_false (by omega)
    rw [hb11]
    refine GL.run (j := 11) 4 [0, 1, 12, 13, 16] [(0, pt p 0), (1, .int .i64 (n : Int)), (12, .bool false), (13, .int .i64 (n : Int)), (16, pt p 0)] (by kernel_rfl) rfl ?_
    refine GL.sem (j := 12) (H8.ld (o := 0) (ty := 38) (v := .slice A k cap) 0 rfl (by kernel_rfl) rfl) [0, 1, 12, 13, 17] [(0, pt p 0), (1, .int .i64 (n : Int)), (12, .bool false), (13, .int .i64 (n : Int)), (17, .slice A k cap)] (by kernel_rfl) (by kernel_rfl) rfl ?_
    refine GL.run (j := 15) 3 [0, 1, 20] [(0, pt p 0), (1, .int .i64 (n : Int)), (20, .bool (decide ((k : Int) < (n : Int))))] (by kernel_rfl) rfl ?_
    refine GL.k rfl hK6 (fun _ _ h => h) ?_
    cases hb12 : (decide ((k : Int) < (n : Int)))
    · skip
      have hb12f := of_decide_eq_false hb12
      refine G.no rfl ?_
      refine G.skipK hK4 (fun _ _ h => h) ?_
      refine G.seqK fun K13 hK14 => ?_
      refine G.region ?_
      refine GL.run (j := 3) 3 [0, 1, 25] [(0, pt p 0), (1, .int .i64 (n : Int)), (25, pt p 0)] (by kernel_rfl) rfl ?_
      refine GL.sem (j := 4) (H8.ld (o := 0) (ty := 38) (v := .slice A k cap) 0 rfl (by kernel_rfl) rfl) [0, 1, 26] [(0, pt p 0), (1, .int .i64 (n : Int)), (26, .slice A k cap)] (by kernel_rfl) (by kernel_rfl) rfl ?_
      refine GL.run (j := 5) 1 [0, 1, 26, 27] [(0, pt p 0), (1, .int .i64 (n : Int)), (26, .slice A k cap), (27, .int .i64 (n : Int))] (by kernel_rfl) rfl ?_
      refine GL.sem (j := 6) (run_sliceSl0 (P := Try.prog) (lo := none) (hi := some (.int .i64 (n : Int))) (t := 38) (len := k) (cap := cap) (A := A) (h := n) (by kernel_rfl) (Or.inl ⟨rfl, rfl⟩) (Or.inr ⟨_, _, rfl, rfl⟩) (by omega)) [0, 1, 28] [(0, pt p 0), (1, .int .i64 (n : Int)), (28, .slice A n cap)] (by kernel_rfl) (by kernel_rfl) rfl ?_
      refine GL.call (j := 7) (Clone_calls (rest.take n) A n cap w7 (RdS.take8 (hcut _ (H8.rdRow 1 rfl)) n (cs := (rest.take n)) rfl) (by rw [List.length_take]; omega) (by omega)) (by kernel_rfl) rfl (fun e_ w19 hR => ?_)
      obtain ⟨A15, c16, rfl, H18⟩ := hR
      have H17 : Hp w S [.blk p [.slice A k cap, .bool wr] 107, .row R N C 5 1 (by8 whole), .row A15 n c16 5 1 (by8 (rest.take n))] w19 := H8.callNew H18
      refine ⟨_, rfl, [0, 1, 29], [(0, pt p 0), (1, .int .i64 (n : Int)), (29, .slice A15 n c16)], by kernel_rfl, ?_⟩
      refine GL.run (j := 8) 1 [0, 1, 5] [(0, pt p 0), (1, .int .i64 (n : Int)), (5, .slice A15 n c16)] (by kernel_rfl) rfl ?_
      refine GL.k rfl hK14 (fun _ _ h => h) ?_
      refine G.seqK fun K20 hK21 => ?_
      refine G.region ?_
      refine GL.run (j := 4) 4 [1, 5, 30, 33] [(1, .int .i64 (n : Int)), (5, .slice A15 n c16), (30, pt p 0), (33, pt p 0)] (by kernel_rfl) rfl ?_
      refine GL.sem (j := 5) (H17.ld (o := 0) (ty := 38) (v := .slice A k cap) 0 rfl (by kernel_rfl) rfl) [1, 5, 30, 34] [(1, .int .i64 (n : Int)), (5, .slice A15 n c16), (30, pt p 0), (34, .slice A k cap)] (by kernel_rfl) (by kernel_rfl) rfl ?_
      refine GL.run (j := 6) 1 [5, 30, 34, 35] [(5, .slice A15 n c16), (30, pt p 0), (34, .slice A k cap), (35, .int .i64 (n : Int))] (by kernel_rfl) rfl ?_
      refine GL.sem (j := 7) (run_sliceSl (P := Try.prog) (lo := some (.int .i64 (n : Int))) (hi := none) (t := 38) (len := k) (cap := cap) (A := A) (l := n) (h := k) (by kernel_rfl) (Or.inr ⟨_, _, rfl, rfl⟩) (Or.inl ⟨rfl, rfl⟩) (by omega) (by omega)) [5, 30, 36] [(5, .slice A15 n c16), (30, pt p 0), (36, .slice (if cap = n then A else Option.map (fun x => Addr.add x n) A) (k - n) (cap - n))] (by kernel_rfl) (by kernel_rfl) rfl ?_
      refine GL.run (j := 9) 2 [5, 36, 38] [(5, .slice A15 n c16), (36, .slice (if cap = n then A else Option.map (fun x => Addr.add x n) A) (k - n) (cap - n)), (38, pt p 0)] (by kernel_rfl) rfl ?_
      obtain ⟨w22, r23, H24⟩ := H17.st (P := Try.prog) (o := 0) (ty := 38) (v := .slice (if cap = n then A else Option.map (fun x => Addr.add x n) A) (k - n) (cap - n)) 0 rfl (by kernel_rfl) (by simp) rfl
      have H24 : Hp w S [.blk p [.slice (if cap = n then A else Option.map (fun x => Addr.add x n) A) (k - n) (cap - n), .bool wr] 107, .row R N C 5 1 (by8 whole), .row A15 n c16 5 1 (by8 (rest.take n))] w22 := H24
      refine GL.semU (j := 10) r23 [5] [(5, .slice A15 n c16)] (by kernel_rfl) rfl rfl rfl ?_
      refine GL.k rfl hK21 (fun _ _ h => h) ?_
      refine G.seqK fun K25 hK26 => ?_
      refine G.region ?_
      refine GL.run (j := 2) 2 [4] [(4, .slice A15 n c16)] (by kernel_rfl) rfl ?_
      refine GL.k rfl hK26 (fun _ _ h => h) ?_
      refine G.ret ?_
      intro F_ hF_ hM_
      refine hRet _ _ (bodyPost_1 rfl (RV.tmp rfl) ?_ F_ hF_ hM_)
      have hwr : wr = false := hwrF
      subst hwr
      obtain ⟨e1, e2, e3⟩ := rOK_true (rest := rest) (n := n) (by omega)
      rw [e1, e2, e3, show (rest.take n).length = n by rw [List.length_take]; omega, show (rest.drop n).length = k - n by rw [List.length_drop]; omega]
      exact ⟨_, _, _, _, rfl, H24, hcut.drop n (by omega), by omega⟩
    · skip
      have hb12f := of_decide_eq_true hb12
      refine G.yes rfl ?_
      refine G.seqK fun K27 hK28 => ?_
      refine G.region ?_
      refine GL.run (j := 1) 1 [21] [(21, pt p 0)] (by kernel_rfl) rfl ?_
      refine GL.call (j := 2) (Fail_calls (ids [.blk p [.slice A k cap, .bool wr] 107, .row R N C 5 1 (by8 whole)]) p A k cap wr R N C whole w7 (Hp.startL (A := [.blk p [.slice A k cap, .bool wr] 107, .row R N C 5 1 (by8 whole)]) (B := []) H8)) (by kernel_rfl) rfl (fun e_ w29 hR => ?_)
      obtain ⟨rfl, H31⟩ := hR
      have H30 : Hp w S [.blk p [.slice none 0 0, .bool true] 107, .row R N C 5 1 (by8 whole)] w29 := Hp.callL (A := [.blk p [.slice A k cap, .bool wr] 107, .row R N C 5 1 (by8 whole)]) (B := []) H8 H31
      refine ⟨_, rfl, [], [], by kernel_rfl, ?_⟩
      refine GL.k rfl hK28 (fun _ _ h => h) ?_
      refine G.seqK fun K32 hK33 => ?_
      refine G.region ?_
      refine GL.run (j := 1) 1 [4] [(4, .slice none 0 0)] (by kernel_rfl) rfl ?_
      refine GL.k rfl hK33 (fun _ _ h => h) ?_
      refine G.ret ?_
      intro F_ hF_ hM_
      refine hRet _ _ (bodyPost_1 rfl (RV.tmp rfl) ?_ F_ hF_ hM_)
      obtain ⟨e1, e2, e3⟩ := rOK_false (wr := wr) (rest := rest) (n := n) (.inr (by omega))
      rw [e1, e2, e3]
      exact ⟨none, 0, none, 0, rfl, H30.rowNil 5 1, Cut.nil _ _ _, Nat.le_refl _⟩
  · skip
    refine GL.eq (M' := [(0, pt p 0), (1, .int .i64 (n : Int)), (8, .bool true)]) (by first | (rw [hb10]; done) | (rw [hb10]; rfl)) ?_
    refine GL.run (j := 15) 12 [0, 1, 20] [(0, pt p 0), (1, .int .i64 (n : Int)), (20, .bool true)] (by kernel_rfl) rfl ?_
    refine GL.k rfl hK6 (fun _ _ h => h) ?_
    refine G.yes rfl ?_
    refine G.seqK fun K34 hK35 => ?_
    refine G.region ?_
    refine GL.run (j := 1) 1 [21] [(21, pt p 0)] (by kernel_rfl) rfl ?_
    refine GL.call (j := 2) (Fail_calls (ids [.blk p [.slice A k cap, .bool wr] 107, .row R N C 5 1 (by8 whole)]) p A k cap wr R N C whole w7 (Hp.startL (A := [.blk p [.slice A k cap, .bool wr] 107, .row R N C 5 1 (by8 whole)]) (B := []) H8)) (by kernel_rfl) rfl (fun e_ w36 hR => ?_)
    obtain ⟨rfl, H38⟩ := hR
    have H37 : Hp w S [.blk p [.slice none 0 0, .bool true] 107, .row R N C 5 1 (by8 whole)] w36 := Hp.callL (A := [.blk p [.slice A k cap, .bool wr] 107, .row R N C 5 1 (by8 whole)]) (B := []) H8 H38
    refine ⟨_, rfl, [], [], by kernel_rfl, ?_⟩
    refine GL.k rfl hK35 (fun _ _ h => h) ?_
    refine G.seqK fun K39 hK40 => ?_
    refine G.region ?_
    refine GL.run (j := 1) 1 [4] [(4, .slice none 0 0)] (by kernel_rfl) rfl ?_
    refine GL.k rfl hK40 (fun _ _ h => h) ?_
    refine G.ret ?_
    intro F_ hF_ hM_
    refine hRet _ _ (bodyPost_1 rfl (RV.tmp rfl) ?_ F_ hF_ hM_)
    obtain ⟨e1, e2, e3⟩ := rOK_false (wr := wr) (rest := rest) (n := n) (.inl (by assumption))
    rw [e1, e2, e3]
    exact ⟨none, 0, none, 0, rfl, H37.rowNil 5 1, Cut.nil _ _ _, Nat.le_refl _⟩
theorem Get1_calls (S : List Nat) (p : Nat) (A : Option Addr) (k cap : Nat) (wr : Bool) (R : Option Addr) (N C : Nat) (whole rest : List UInt8) (w : World) (h0 : Hp w S [.blk p [.slice A k cap, .bool wr] 107, .row R N C 5 1 (by8 whole)] w) (hcut : Cut R whole A rest) (hk : k = rest.length) (hcap : k ≤ cap) (hN : k ≤ 1000000) : Calls Try.prog 36 #[pt p 0, .int .i64 1] w fun e w' => ∃ B b, e = .returned (.int .u64 ((getB (rV wr rest 1) : Nat) : Int)) ∧ Hp w S [.blk p [.slice B (rR wr rest 1).length b, .bool (!(rOK wr rest 1))] 107, .row R N C 5 1 (by8 whole)] w' ∧ Cut R whole B (rR wr rest 1) ∧ (rR wr rest 1).length ≤ b := by
  refine calls_R (args := [pt p 0, .int .i64 1]) Try.func36 rfl Try.ntmps36 rfl ?_
  intro Q0 hRet hNor
  have H := h0
  have H : Hp w S [.blk p [.slice A k cap, .bool wr] 107, .row R N C 5 1 (by8 whole)] w := H
  refine RG.seqK fun K1 hK2 => ?_
  refine RG.region (by kernel_rfl) ?_
  refine RL.run (j := 1) 1 [0, 1] [(0, pt p 0), (1, .int .i64 1)] (by kernel_rfl) rfl ?_
  refine RL.k rfl hK2 (fun _ _ h => h) ?_
  refine RG.seqK fun K3 hK4 => ?_
  refine RG.seqK fun K5 hK6 => ?_
  refine RG.region (by kernel_rfl) ?_
  refine RL.run (j := 14) 14 [0, 1, 21] [(0, pt p 0), (1, .int .i64 1), (21, .bool false)] (by kernel_rfl) rfl ?_
  refine RL.k rfl hK6 (fun _ _ h => h) ?_
  refine RG.no rfl ?_
  refine RG.skipK hK4 (fun _ _ h => h) ?_
  refine RG.seqK fun K7 hK8 => ?_
  refine RG.region (by kernel_rfl) ?_
  obtain ⟨p9, w10, r11, H12⟩ := H.alloc (P := Try.prog) 31 [.int .u64 0] (by kernel_rfl)
  have H12 : Hp w S [.blk p [.slice A k cap, .bool wr] 107, .row R N C 5 1 (by8 whole), .blk p9 [.int .u64 0] 31] w10 := H12
  refine RL.sem (j := 1) (r11) [0, 1, 5] [(0, pt p 0), (1, .int .i64 1), (5, pt p9 0)] (by kernel_rfl) (by kernel_rfl) rfl ?_
  refine RL.k rfl hK8 (fun _ _ h => h) ?_
  refine RG.seqK fun K13 hK14 => ?_
  refine RG.seqK fun K15 hK16 => ?_
  refine RG.region (by kernel_rfl) ?_
  refine RL.run (j := 2) 2 [5, 24, 25] [(5, pt p9 0), (24, pt p 0), (25, .int .i64 1)] (by kernel_rfl) rfl ?_
  refine RL.call (j := 3) (Raw_calls (ids [.blk p [.slice A k cap, .bool wr] 107, .row R N C 5 1 (by8 whole)]) p A k cap wr R N C whole rest 1 w10 (Hp.startL (A := [.blk p [.slice A k cap, .bool wr] 107, .row R N C 5 1 (by8 whole)]) (B := [.blk p9 [.int .u64 0] 31]) H12) hcut (hk) (hcap) (hN)) (by kernel_rfl) rfl (fun e_ w23 hR => ?_)
  obtain ⟨A17, c18, A19, c20, rfl, H25, hC21, hL22⟩ := hR
  have H24 : Hp w S [.blk p [.slice A17 ((rR wr rest 1).length) c18, .bool (!(rOK wr rest 1))] 107, .row R N C 5 1 (by8 whole), .row A19 ((rV wr rest 1).length) c20 5 1 (by8 (rV wr rest 1)), .blk p9 [.int .u64 0] 31] w23 := Hp.callL (A := [.blk p [.slice A k cap, .bool wr] 107, .row R N C 5 1 (by8 whole)]) (B := [.blk p9 [.int .u64 0] 31]) H12 H25
  refine ⟨_, rfl, [5, 26], [(5, pt p9 0), (26, .slice A19 ((rV wr rest 1).length) c20)], by kernel_rfl, ?_⟩
  refine RL.call (j := 4) (Backward_calls A19 ((rV wr rest 1).length) c20 w23) (by kernel_rfl) rfl (fun e_ w29 hR => ?_)
  obtain ⟨B26, rfl, H28⟩ := hR
  have H27 : Hp w S [.blk p [.slice A17 ((rR wr rest 1).length) c18, .bool (!(rOK wr rest 1))] 107, .row R N C 5 1 (by8 whole), .row A19 ((rV wr rest 1).length) c20 5 1 (by8 (rV wr rest 1)), .blk p9 [.int .u64 0] 31, .blk B26 [.slice A19 ((rV wr rest 1).length) c20] 38] w29 := H24.callNew H28
  refine ⟨_, rfl, [5, 27], [(5, pt p9 0), (27, .func (.func 73) #[] #[pt B26 0])], by kernel_rfl, ?_⟩
  refine RL.k rfl hK16 (fun _ _ h => h) ?_
  refine RG.block ?_
  refine RG.fit [5, 27] (M' := [(5, pt p9 0), (27, .func (.func 73) #[] #[pt B26 0])]) (by kernel_rfl) ?_
  refine RG.range H27 (gf := 73) (lb := #[pt B26 0]) rfl (enters_of Try.func73 (by kernel_rfl) rfl) (Xt := Nat) (fun k s => s = getB ((rV wr rest 1).drop ((rV wr rest 1).length - k))) (fun k s => [.blk p [.slice A17 ((rR wr rest 1).length) c18, .bool (!(rOK wr rest 1))] 107, .row R N C 5 1 (by8 whole), .row A19 ((rV wr rest 1).length) c20 5 1 (by8 (rV wr rest 1)), .blk p9 [.int .u64 (s : Int)] 31, .blk B26 [.slice A19 ((rV wr rest 1).length) c20] 38]) (fun s => False) (fun s => []) (N := (rV wr rest 1).length) (enc := fun k => #[.int .i64 (((rV wr rest 1).length - 1 - k : Nat) : Int), .int .u8 (((rV wr rest 1).getD ((rV wr rest 1).length - 1 - k) 0).toNat : Int)]) (Backward_iter (rV wr rest 1) (Nat.le_trans (show (rV wr rest 1).length ≤ 8 from (Nat.le_trans (rV_le wr rest 1) (by decide))) (by decide)) A19 c20 B26) (fun _ => rfl) 0 (by rw [Nat.sub_zero, List.drop_length]; rfl) rfl (fun k s E W hx HW => ⟨(HW.blkAt 4 rfl).cell 0, HW.rdRow 2 rfl⟩) (fun k => [(29, .int .u8 (((rV wr rest 1).getD ((rV wr rest 1).length - 1 - k) 0).toNat : Int)), (28, .int .i64 (((rV wr rest 1).length - 1 - k : Nat) : Int)), (5, pt p9 0), (27, .func (.func 73) #[] #[pt B26 0])]) (fun _ => rfl) ?_ ?_ ?_
  · skip
    rintro D33 l34 oR35 oB36 k s w30 K37 hk38 hx31 H32 hK39
    have H32 : Hp w S [.blk p [.slice A17 ((rR wr rest 1).length) c18, .bool (!(rOK wr rest 1))] 107, .row R N C 5 1 (by8 whole), .row A19 ((rV wr rest 1).length) c20 5 1 (by8 (rV wr rest 1)), .blk p9 [.int .u64 (s : Int)] 31, .blk B26 [.slice A19 ((rV wr rest 1).length) c20] 38, .obj D33 DF, .obj l34 oR35] w30 := H32
    have hs1 := hx31
    have hk9 := hk38
    have hVl : (rV wr rest 1).length ≤ 8 := (Nat.le_trans (rV_le wr rest 1) (by decide))
    have hs56 : s < 72057594037927936 := by rw [hs1]; exact acc_lt (by omega)
    have hxb := UInt8.toNat_lt ((rV wr rest 1).getD ((rV wr rest 1).length - 1 - k) 0)
    refine RG.region (by kernel_rfl) ?_
    refine RL.run (j := 1) 1 [5, 7] [(5, pt p9 0), (7, .int .u8 (((rV wr rest 1).getD ((rV wr rest 1).length - 1 - k) 0).toNat : Int))] (by kernel_rfl) rfl ?_
    refine RL.done rfl (fun F_ hF_ hM_ => hK39 F_ _ [.blk p [.slice A17 ((rR wr rest 1).length) c18, .bool (!(rOK wr rest 1))] 107, .row R N C 5 1 (by8 whole), .row A19 ((rV wr rest 1).length) c20 5 1 (by8 (rV wr rest 1)), .blk p9 [.int .u64 (s : Int)] 31, .blk B26 [.slice A19 ((rV wr rest 1).length) c20] 38] _ hF_ hM_ H32 ?_)
    intro w40 H41
    have H41 : Hp w S [.blk p [.slice A17 ((rR wr rest 1).length) c18, .bool (!(rOK wr rest 1))] 107, .row R N C 5 1 (by8 whole), .row A19 ((rV wr rest 1).length) c20 5 1 (by8 (rV wr rest 1)), .blk p9 [.int .u64 (s : Int)] 31, .blk B26 [.slice A19 ((rV wr rest 1).length) c20] 38, .obj D33 DF, .obj l34 oB36] w40 := H41
    refine RG.block ?_
    refine RG.region (by kernel_rfl) ?_
    refine RL.sem (j := 1) (H41.ld (o := 0) (ty := 31) (v := .int .u64 (s : Int)) 3 rfl (by kernel_rfl) rfl) [5, 7, 30] [(5, pt p9 0), (7, .int .u8 (((rV wr rest 1).getD ((rV wr rest 1).length - 1 - k) 0).toNat : Int)), (30, .int .u64 (s : Int))] (by kernel_rfl) (by kernel_rfl) rfl ?_
    refine RL.run (j := 5) 4 [5, 34] [(5, pt p9 0), (34, .int .u64 (Go.bits .or .u64 (IntKind.u64.wrap ((s : Int) * 2 ^ 8)) (IntKind.u64.wrap (((rV wr rest 1).getD ((rV wr rest 1).length - 1 - k) 0).toNat : Int))))] (by kernel_rfl) rfl ?_
    have e42 : (IntKind.u64.wrap ((s : Int) * 2 ^ 8)) = ((s * 2 ^ 8 : Nat) : Int) := by rw [n_shl, Nat.mod_eq_of_lt (by simp only [K]; omega)]
    have e43 : (IntKind.u64.wrap (((rV wr rest 1).getD ((rV wr rest 1).length - 1 - k) 0).toNat : Int)) = (((rV wr rest 1).getD ((rV wr rest 1).length - 1 - k) 0).toNat : Int) := u8_up_u64 _
    have e44 : (Go.bits .or .u64 ((s * 2 ^ 8 : Nat) : Int) (((rV wr rest 1).getD ((rV wr rest 1).length - 1 - k) 0).toNat : Int)) = ((((rV wr rest 1).getD ((rV wr rest 1).length - 1 - k) 0).toNat + 256 * s : Nat) : Int) := or_low hs56 hxb
    refine RL.eq (M' := [(5, pt p9 0), (34, .int .u64 ((((rV wr rest 1).getD ((rV wr rest 1).length - 1 - k) 0).toNat + 256 * s : Nat) : Int))]) (by rw [e42, e43, e44]) ?_
    clear e42 e43 e44
    obtain ⟨w45, r46, H47⟩ := H41.st (P := Try.prog) (o := 0) (ty := 31) (v := .int .u64 ((((rV wr rest 1).getD ((rV wr rest 1).length - 1 - k) 0).toNat + 256 * s : Nat) : Int)) 3 rfl (by kernel_rfl) (by simp) rfl
    have H47 : Hp w S [.blk p [.slice A17 ((rR wr rest 1).length) c18, .bool (!(rOK wr rest 1))] 107, .row R N C 5 1 (by8 whole), .row A19 ((rV wr rest 1).length) c20 5 1 (by8 (rV wr rest 1)), .blk p9 [.int .u64 ((((rV wr rest 1).getD ((rV wr rest 1).length - 1 - k) 0).toNat + 256 * s : Nat) : Int)] 31, .blk B26 [.slice A19 ((rV wr rest 1).length) c20] 38, .obj D33 DF, .obj l34 oB36] w45 := H47
    refine RL.semU (j := 6) r46 [] [] (by kernel_rfl) rfl rfl rfl ?_
    exact RL.done rfl (fun F_ hF_ hM_ => ⟨((((rV wr rest 1).getD ((rV wr rest 1).length - 1 - k) 0)).toNat + 256 * s), (by rw [hs1]; exact acc_step hk9), H47⟩)
  · skip
    rintro D51 s w48 hx49 H50
    refine RG.kk hK14 (fun _ _ h => h) ?_
    have H50 : Hp w S [.blk p [.slice A17 ((rR wr rest 1).length) c18, .bool (!(rOK wr rest 1))] 107, .row R N C 5 1 (by8 whole), .row A19 ((rV wr rest 1).length) c20 5 1 (by8 (rV wr rest 1)), .blk p9 [.int .u64 (s : Int)] 31, .blk B26 [.slice A19 ((rV wr rest 1).length) c20] 38, .obj D51 DF] w48 := H50
    rw [Nat.sub_self, List.drop_zero] at hx49
    have hs1 := hx49
    refine RG.seqK fun K52 hK53 => ?_
    refine RG.region (by kernel_rfl) ?_
    refine RL.sem (j := 1) (H50.ld (o := 0) (ty := 31) (v := .int .u64 (s : Int)) 3 rfl (by kernel_rfl) rfl) [35] [(35, .int .u64 (s : Int))] (by kernel_rfl) (by kernel_rfl) rfl ?_
    refine RL.run (j := 2) 1 [4] [(4, .int .u64 (s : Int))] (by kernel_rfl) rfl ?_
    refine RL.k rfl hK53 (fun _ _ h => h) ?_
    refine RG.ret ?_
    have hD54 := H50.objAt 5 rfl
    have H55 : Hp w S [.blk p [.slice A17 ((rR wr rest 1).length) c18, .bool (!(rOK wr rest 1))] 107, .row R N C 5 1 (by8 whole), .row A19 ((rV wr rest 1).length) c20 5 1 (by8 (rV wr rest 1)), .blk p9 [.int .u64 (s : Int)] 31, .blk B26 [.slice A19 ((rV wr rest 1).length) c20] 38, .obj D51 (.deferred none)] (World.putObj w48 D51 (.deferred none)) := H50.putObj 5 (.deferred none) rfl
    intro F_ hF_ hM_
    refine hRet _ _ (postK_1 hD54 rfl (RV.tmp rfl) ?_ F_ hF_ hM_)
    have H56 : Hp w S [.blk p [.slice A17 ((rR wr rest 1).length) c18, .bool (!(rOK wr rest 1))] 107, .row R N C 5 1 (by8 whole)] (World.putObj w48 D51 (.deferred none)) := H55.sub (List.Sublist.cons_cons _ (List.Sublist.cons_cons _ (List.Sublist.cons _ (List.Sublist.cons _ (List.Sublist.cons _ (List.Sublist.cons _ (List.Sublist.slnil)))))))
    rw [← hs1]
    exact ⟨_, _, rfl, H56, hC21, hL22⟩
  · skip
    rintro D60 s w57 hx58 H59
    exact hx58.elim
theorem Get2_calls (S : List Nat) (p : Nat) (A : Option Addr) (k cap : Nat) (wr : Bool) (R : Option Addr) (N C : Nat) (whole rest : List UInt8) (w : World) (h0 : Hp w S [.blk p [.slice A k cap, .bool wr] 107, .row R N C 5 1 (by8 whole)] w) (hcut : Cut R whole A rest) (hk : k = rest.length) (hcap : k ≤ cap) (hN : k ≤ 1000000) : Calls Try.prog 36 #[pt p 0, .int .i64 2] w fun e w' => ∃ B b, e = .returned (.int .u64 ((getB (rV wr rest 2) : Nat) : Int)) ∧ Hp w S [.blk p [.slice B (rR wr rest 2).length b, .bool (!(rOK wr rest 2))] 107, .row R N C 5 1 (by8 whole)] w' ∧ Cut R whole B (rR wr rest 2) ∧ (rR wr rest 2).length ≤ b := by
  refine calls_R (args := [pt p 0, .int .i64 2]) Try.func36 rfl Try.ntmps36 rfl ?_
  intro Q0 hRet hNor
  have H := h0
  have H : Hp w S [.blk p [.slice A k cap, .bool wr] 107, .row R N C 5 1 (by8 whole)] w := H
  refine RG.seqK fun K1 hK2 => ?_
  refine RG.region (by kernel_rfl) ?_
  refine RL.run (j := 1) 1 [0, 1] [(0, pt p 0), (1, .int .i64 2)] (by kernel_rfl) rfl ?_
  refine RL.k rfl hK2 (fun _ _ h => h) ?_
  refine RG.seqK fun K3 hK4 => ?_
  refine RG.seqK fun K5 hK6 => ?_
  refine RG.region (by kernel_rfl) ?_
  refine RL.run (j := 14) 14 [0, 1, 21] [(0, pt p 0), (1, .int .i64 2), (21, .bool false)] (by kernel_rfl) rfl ?_
  refine RL.k rfl hK6 (fun _ _ h => h) ?_
  refine RG.no rfl ?_
  refine RG.skipK hK4 (fun _ _ h => h) ?_
  refine RG.seqK fun K7 hK8 => ?_
  refine RG.region (by kernel_rfl) ?_
  obtain ⟨p9, w10, r11, H12⟩ := H.alloc (P := Try.prog) 31 [.int .u64 0] (by kernel_rfl)
  have H12 : Hp w S [.blk p [.slice A k cap, .bool wr] 107, .row R N C 5 1 (by8 whole), .blk p9 [.int .u64 0] 31] w10 := H12
  refine RL.sem (j := 1) (r11) [0, 1, 5] [(0, pt p 0), (1, .int .i64 2), (5, pt p9 0)] (by kernel_rfl) (by kernel_rfl) rfl ?_
  refine RL.k rfl hK8 (fun _ _ h => h) ?_
  refine RG.seqK fun K13 hK14 => ?_
  refine RG.seqK fun K15 hK16 => ?_
  refine RG.region (by kernel_rfl) ?_
  refine RL.run (j := 2) 2 [5, 24, 25] [(5, pt p9 0), (24, pt p 0), (25, .int .i64 2)] (by kernel_rfl) rfl ?_
  refine RL.call (j := 3) (Raw_calls (ids [.blk p [.slice A k cap, .bool wr] 107, .row R N C 5 1 (by8 whole)]) p A k cap wr R N C whole rest 2 w10 (Hp.startL (A := [.blk p [.slice A k cap, .bool wr] 107, .row R N C 5 1 (by8 whole)]) (B := [.blk p9 [.int .u64 0] 31]) H12) hcut (hk) (hcap) (hN)) (by kernel_rfl) rfl (fun e_ w23 hR => ?_)
  obtain ⟨A17, c18, A19, c20, rfl, H25, hC21, hL22⟩ := hR
  have H24 : Hp w S [.blk p [.slice A17 ((rR wr rest 2).length) c18, .bool (!(rOK wr rest 2))] 107, .row R N C 5 1 (by8 whole), .row A19 ((rV wr rest 2).length) c20 5 1 (by8 (rV wr rest 2)), .blk p9 [.int .u64 0] 31] w23 := Hp.callL (A := [.blk p [.slice A k cap, .bool wr] 107, .row R N C 5 1 (by8 whole)]) (B := [.blk p9 [.int .u64 0] 31]) H12 H25
  refine ⟨_, rfl, [5, 26], [(5, pt p9 0), (26, .slice A19 ((rV wr rest 2).length) c20)], by kernel_rfl, ?_⟩
  refine RL.call (j := 4) (Backward_calls A19 ((rV wr rest 2).length) c20 w23) (by kernel_rfl) rfl (fun e_ w29 hR => ?_)
  obtain ⟨B26, rfl, H28⟩ := hR
  have H27 : Hp w S [.blk p [.slice A17 ((rR wr rest 2).length) c18, .bool (!(rOK wr rest 2))] 107, .row R N C 5 1 (by8 whole), .row A19 ((rV wr rest 2).length) c20 5 1 (by8 (rV wr rest 2)), .blk p9 [.int .u64 0] 31, .blk B26 [.slice A19 ((rV wr rest 2).length) c20] 38] w29 := H24.callNew H28
  refine ⟨_, rfl, [5, 27], [(5, pt p9 0), (27, .func (.func 73) #[] #[pt B26 0])], by kernel_rfl, ?_⟩
  refine RL.k rfl hK16 (fun _ _ h => h) ?_
  refine RG.block ?_
  refine RG.fit [5, 27] (M' := [(5, pt p9 0), (27, .func (.func 73) #[] #[pt B26 0])]) (by kernel_rfl) ?_
  refine RG.range H27 (gf := 73) (lb := #[pt B26 0]) rfl (enters_of Try.func73 (by kernel_rfl) rfl) (Xt := Nat) (fun k s => s = getB ((rV wr rest 2).drop ((rV wr rest 2).length - k))) (fun k s => [.blk p [.slice A17 ((rR wr rest 2).length) c18, .bool (!(rOK wr rest 2))] 107, .row R N C 5 1 (by8 whole), .row A19 ((rV wr rest 2).length) c20 5 1 (by8 (rV wr rest 2)), .blk p9 [.int .u64 (s : Int)] 31, .blk B26 [.slice A19 ((rV wr rest 2).length) c20] 38]) (fun s => False) (fun s => []) (N := (rV wr rest 2).length) (enc := fun k => #[.int .i64 (((rV wr rest 2).length - 1 - k : Nat) : Int), .int .u8 (((rV wr rest 2).getD ((rV wr rest 2).length - 1 - k) 0).toNat : Int)]) (Backward_iter (rV wr rest 2) (Nat.le_trans (show (rV wr rest 2).length ≤ 8 from (Nat.le_trans (rV_le wr rest 2) (by decide))) (by decide)) A19 c20 B26) (fun _ => rfl) 0 (by rw [Nat.sub_zero, List.drop_length]; rfl) rfl (fun k s E W hx HW => ⟨(HW.blkAt 4 rfl).cell 0, HW.rdRow 2 rfl⟩) (fun k => [(29, .int .u8 (((rV wr rest 2).getD ((rV wr rest 2).length - 1 - k) 0).toNat : Int)), (28, .int .i64 (((rV wr rest 2).length - 1 - k : Nat) : Int)), (5, pt p9 0), (27, .func (.func 73) #[] #[pt B26 0])]) (fun _ => rfl) ?_ ?_ ?_
  · skip
    rintro D33 l34 oR35 oB36 k s w30 K37 hk38 hx31 H32 hK39
    have H32 : Hp w S [.blk p [.slice A17 ((rR wr rest 2).length) c18, .bool (!(rOK wr rest 2))] 107, .row R N C 5 1 (by8 whole), .row A19 ((rV wr rest 2).length) c20 5 1 (by8 (rV wr rest 2)), .blk p9 [.int .u64 (s : Int)] 31, .blk B26 [.slice A19 ((rV wr rest 2).length) c20] 38, .obj D33 DF, .obj l34 oR35] w30 := H32
    have hs1 := hx31
    have hk9 := hk38
    have hVl : (rV wr rest 2).length ≤ 8 := (Nat.le_trans (rV_le wr rest 2) (by decide))
    have hs56 : s < 72057594037927936 := by rw [hs1]; exact acc_lt (by omega)
    have hxb := UInt8.toNat_lt ((rV wr rest 2).getD ((rV wr rest 2).length - 1 - k) 0)
    refine RG.region (by kernel_rfl) ?_
    refine RL.run (j := 1) 1 [5, 7] [(5, pt p9 0), (7, .int .u8 (((rV wr rest 2).getD ((rV wr rest 2).length - 1 - k) 0).toNat : Int))] (by kernel_rfl) rfl ?_
    refine RL.done rfl (fun F_ hF_ hM_ => hK39 F_ _ [.blk p [.slice A17 ((rR wr rest 2).length) c18, .bool (!(rOK wr rest 2))] 107, .row R N C 5 1 (by8 whole), .row A19 ((rV wr rest 2).length) c20 5 1 (by8 (rV wr rest 2)), .blk p9 [.int .u64 (s : Int)] 31, .blk B26 [.slice A19 ((rV wr rest 2).length) c20] 38] _ hF_ hM_ H32 ?_)
    intro w40 H41
    have H41 : Hp w S [.blk p [.slice A17 ((rR wr rest 2).length) c18, .bool (!(rOK wr rest 2))] 107, .row R N C 5 1 (by8 whole), .row A19 ((rV wr rest 2).length) c20 5 1 (by8 (rV wr rest 2)), .blk p9 [.int .u64 (s : Int)] 31, .blk B26 [.slice A19 ((rV wr rest 2).length) c20] 38, .obj D33 DF, .obj l34 oB36] w40 := H41
    refine RG.block ?_
    refine RG.region (by kernel_rfl) ?_
    refine RL.sem (j := 1) (H41.ld (o := 0) (ty := 31) (v := .int .u64 (s : Int)) 3 rfl (by kernel_rfl) rfl) [5, 7, 30] [(5, pt p9 0), (7, .int .u8 (((rV wr rest 2).getD ((rV wr rest 2).length - 1 - k) 0).toNat : Int)), (30, .int .u64 (s : Int))] (by kernel_rfl) (by kernel_rfl) rfl ?_
    refine RL.run (j := 5) 4 [5, 34] [(5, pt p9 0), (34, .int .u64 (Go.bits .or .u64 (IntKind.u64.wrap ((s : Int) * 2 ^ 8)) (IntKind.u64.wrap (((rV wr rest 2).getD ((rV wr rest 2).length - 1 - k) 0).toNat : Int))))] (by kernel_rfl) rfl ?_
    have e42 : (IntKind.u64.wrap ((s : Int) * 2 ^ 8)) = ((s * 2 ^ 8 : Nat) : Int) := by rw [n_shl, Nat.mod_eq_of_lt (by simp only [K]; omega)]
    have e43 : (IntKind.u64.wrap (((rV wr rest 2).getD ((rV wr rest 2).length - 1 - k) 0).toNat : Int)) = (((rV wr rest 2).getD ((rV wr rest 2).length - 1 - k) 0).toNat : Int) := u8_up_u64 _
    have e44 : (Go.bits .or .u64 ((s * 2 ^ 8 : Nat) : Int) (((rV wr rest 2).getD ((rV wr rest 2).length - 1 - k) 0).toNat : Int)) = ((((rV wr rest 2).getD ((rV wr rest 2).length - 1 - k) 0).toNat + 256 * s : Nat) : Int) := or_low hs56 hxb
    refine RL.eq (M' := [(5, pt p9 0), (34, .int .u64 ((((rV wr rest 2).getD ((rV wr rest 2).length - 1 - k) 0).toNat + 256 * s : Nat) : Int))]) (by rw [e42, e43, e44]) ?_
    clear e42 e43 e44
    obtain ⟨w45, r46, H47⟩ := H41.st (P := Try.prog) (o := 0) (ty := 31) (v := .int .u64 ((((rV wr rest 2).getD ((rV wr rest 2).length - 1 - k) 0).toNat + 256 * s : Nat) : Int)) 3 rfl (by kernel_rfl) (by simp) rfl
    have H47 : Hp w S [.blk p [.slice A17 ((rR wr rest 2).length) c18, .bool (!(rOK wr rest 2))] 107, .row R N C 5 1 (by8 whole), .row A19 ((rV wr rest 2).length) c20 5 1 (by8 (rV wr rest 2)), .blk p9 [.int .u64 ((((rV wr rest 2).getD ((rV wr rest 2).length - 1 - k) 0).toNat + 256 * s : Nat) : Int)] 31, .blk B26 [.slice A19 ((rV wr rest 2).length) c20] 38, .obj D33 DF, .obj l34 oB36] w45 := H47
    refine RL.semU (j := 6) r46 [] [] (by kernel_rfl) rfl rfl rfl ?_
    exact RL.done rfl (fun F_ hF_ hM_ => ⟨((((rV wr rest 2).getD ((rV wr rest 2).length - 1 - k) 0)).toNat + 256 * s), (by rw [hs1]; exact acc_step hk9), H47⟩)
  · skip
    rintro D51 s w48 hx49 H50
    refine RG.kk hK14 (fun _ _ h => h) ?_
    have H50 : Hp w S [.blk p [.slice A17 ((rR wr rest 2).length) c18, .bool (!(rOK wr rest 2))] 107, .row R N C 5 1 (by8 whole), .row A19 ((rV wr rest 2).length) c20 5 1 (by8 (rV wr rest 2)), .blk p9 [.int .u64 (s : Int)] 31, .blk B26 [.slice A19 ((rV wr rest 2).length) c20] 38, .obj D51 DF] w48 := H50
    rw [Nat.sub_self, List.drop_zero] at hx49
    have hs1 := hx49
    refine RG.seqK fun K52 hK53 => ?_
    refine RG.region (by kernel_rfl) ?_
    refine RL.sem (j := 1) (H50.ld (o := 0) (ty := 31) (v := .int .u64 (s : Int)) 3 rfl (by kernel_rfl) rfl) [35] [(35, .int .u64 (s : Int))] (by kernel_rfl) (by kernel_rfl) rfl ?_
    refine RL.run (j := 2) 1 [4] [(4, .int .u64 (s : Int))] (by kernel_rfl) rfl ?_
    refine RL.k rfl hK53 (fun _ _ h => h) ?_
    refine RG.ret ?_
    have hD54 := H50.objAt 5 rfl
    have H55 : Hp w S [.blk p [.slice A17 ((rR wr rest 2).length) c18, .bool (!(rOK wr rest 2))] 107, .row R N C 5 1 (by8 whole), .row A19 ((rV wr rest 2).length) c20 5 1 (by8 (rV wr rest 2)), .blk p9 [.int .u64 (s : Int)] 31, .blk B26 [.slice A19 ((rV wr rest 2).length) c20] 38, .obj D51 (.deferred none)] (World.putObj w48 D51 (.deferred none)) := H50.putObj 5 (.deferred none) rfl
    intro F_ hF_ hM_
    refine hRet _ _ (postK_1 hD54 rfl (RV.tmp rfl) ?_ F_ hF_ hM_)
    have H56 : Hp w S [.blk p [.slice A17 ((rR wr rest 2).length) c18, .bool (!(rOK wr rest 2))] 107, .row R N C 5 1 (by8 whole)] (World.putObj w48 D51 (.deferred none)) := H55.sub (List.Sublist.cons_cons _ (List.Sublist.cons_cons _ (List.Sublist.cons _ (List.Sublist.cons _ (List.Sublist.cons _ (List.Sublist.cons _ (List.Sublist.slnil)))))))
    rw [← hs1]
    exact ⟨_, _, rfl, H56, hC21, hL22⟩
  · skip
    rintro D60 s w57 hx58 H59
    exact hx58.elim
theorem Get4_calls (S : List Nat) (p : Nat) (A : Option Addr) (k cap : Nat) (wr : Bool) (R : Option Addr) (N C : Nat) (whole rest : List UInt8) (w : World) (h0 : Hp w S [.blk p [.slice A k cap, .bool wr] 107, .row R N C 5 1 (by8 whole)] w) (hcut : Cut R whole A rest) (hk : k = rest.length) (hcap : k ≤ cap) (hN : k ≤ 1000000) : Calls Try.prog 36 #[pt p 0, .int .i64 4] w fun e w' => ∃ B b, e = .returned (.int .u64 ((getB (rV wr rest 4) : Nat) : Int)) ∧ Hp w S [.blk p [.slice B (rR wr rest 4).length b, .bool (!(rOK wr rest 4))] 107, .row R N C 5 1 (by8 whole)] w' ∧ Cut R whole B (rR wr rest 4) ∧ (rR wr rest 4).length ≤ b := by
  refine calls_R (args := [pt p 0, .int .i64 4]) Try.func36 rfl Try.ntmps36 rfl ?_
  intro Q0 hRet hNor
  have H := h0
  have H : Hp w S [.blk p [.slice A k cap, .bool wr] 107, .row R N C 5 1 (by8 whole)] w := H
  refine RG.seqK fun K1 hK2 => ?_
  refine RG.region (by kernel_rfl) ?_
  refine RL.run (j := 1) 1 [0, 1] [(0, pt p 0), (1, .int .i64 4)] (by kernel_rfl) rfl ?_
  refine RL.k rfl hK2 (fun _ _ h => h) ?_
  refine RG.seqK fun K3 hK4 => ?_
  refine RG.seqK fun K5 hK6 => ?_
  refine RG.region (by kernel_rfl) ?_
  refine RL.run (j := 14) 14 [0, 1, 21] [(0, pt p 0), (1, .int .i64 4), (21, .bool false)] (by kernel_rfl) rfl ?_
  refine RL.k rfl hK6 (fun _ _ h => h) ?_
  refine RG.no rfl ?_
  refine RG.skipK hK4 (fun _ _ h => h) ?_
  refine RG.seqK fun K7 hK8 => ?_
  refine RG.region (by kernel_rfl) ?_
  obtain ⟨p9, w10, r11, H12⟩ := H.alloc (P := Try.prog) 31 [.int .u64 0] (by kernel_rfl)
  have H12 : Hp w S [.blk p [.slice A k cap, .bool wr] 107, .row R N C 5 1 (by8 whole), .blk p9 [.int .u64 0] 31] w10 := H12
  refine RL.sem (j := 1) (r11) [0, 1, 5] [(0, pt p 0), (1, .int .i64 4), (5, pt p9 0)] (by kernel_rfl) (by kernel_rfl) rfl ?_
  refine RL.k rfl hK8 (fun _ _ h => h) ?_
  refine RG.seqK fun K13 hK14 => ?_
  refine RG.seqK fun K15 hK16 => ?_
  refine RG.region (by kernel_rfl) ?_
  refine RL.run (j := 2) 2 [5, 24, 25] [(5, pt p9 0), (24, pt p 0), (25, .int .i64 4)] (by kernel_rfl) rfl ?_
  refine RL.call (j := 3) (Raw_calls (ids [.blk p [.slice A k cap, .bool wr] 107, .row R N C 5 1 (by8 whole)]) p A k cap wr R N C whole rest 4 w10 (Hp.startL (A := [.blk p [.slice A k cap, .bool wr] 107, .row R N C 5 1 (by8 whole)]) (B := [.blk p9 [.int .u64 0] 31]) H12) hcut (hk) (hcap) (hN)) (by kernel_rfl) rfl (fun e_ w23 hR => ?_)
  obtain ⟨A17, c18, A19, c20, rfl, H25, hC21, hL22⟩ := hR
  have H24 : Hp w S [.blk p [.slice A17 ((rR wr rest 4).length) c18, .bool (!(rOK wr rest 4))] 107, .row R N C 5 1 (by8 whole), .row A19 ((rV wr rest 4).length) c20 5 1 (by8 (rV wr rest 4)), .blk p9 [.int .u64 0] 31] w23 := Hp.callL (A := [.blk p [.slice A k cap, .bool wr] 107, .row R N C 5 1 (by8 whole)]) (B := [.blk p9 [.int .u64 0] 31]) H12 H25
  refine ⟨_, rfl, [5, 26], [(5, pt p9 0), (26, .slice A19 ((rV wr rest 4).length) c20)], by kernel_rfl, ?_⟩
  refine RL.call (j := 4) (Backward_calls A19 ((rV wr rest 4).length) c20 w23) (by kernel_rfl) rfl (fun e_ w29 hR => ?_)
  obtain ⟨B26, rfl, H28⟩ := hR
  have H27 : Hp w S [.blk p [.slice A17 ((rR wr rest 4).length) c18, .bool (!(rOK wr rest 4))] 107, .row R N C 5 1 (by8 whole), .row A19 ((rV wr rest 4).length) c20 5 1 (by8 (rV wr rest 4)), .blk p9 [.int .u64 0] 31, .blk B26 [.slice A19 ((rV wr rest 4).length) c20] 38] w29 := H24.callNew H28
  refine ⟨_, rfl, [5, 27], [(5, pt p9 0), (27, .func (.func 73) #[] #[pt B26 0])], by kernel_rfl, ?_⟩
  refine RL.k rfl hK16 (fun _ _ h => h) ?_
  refine RG.block ?_
  refine RG.fit [5, 27] (M' := [(5, pt p9 0), (27, .func (.func 73) #[] #[pt B26 0])]) (by kernel_rfl) ?_
  refine RG.range H27 (gf := 73) (lb := #[pt B26 0]) rfl (enters_of Try.func73 (by kernel_rfl) rfl) (Xt := Nat) (fun k s => s = getB ((rV wr rest 4).drop ((rV wr rest 4).length - k))) (fun k s => [.blk p [.slice A17 ((rR wr rest 4).length) c18, .bool (!(rOK wr rest 4))] 107, .row R N C 5 1 (by8 whole), .row A19 ((rV wr rest 4).length) c20 5 1 (by8 (rV wr rest 4)), .blk p9 [.int .u64 (s : Int)] 31, .blk B26 [.slice A19 ((rV wr rest 4).length) c20] 38]) (fun s => False) (fun s => []) (N := (rV wr rest 4).length) (enc := fun k => #[.int .i64 (((rV wr rest 4).length - 1 - k : Nat) : Int), .int .u8 (((rV wr rest 4).getD ((rV wr rest 4).length - 1 - k) 0).toNat : Int)]) (Backward_iter (rV wr rest 4) (Nat.le_trans (show (rV wr rest 4).length ≤ 8 from (Nat.le_trans (rV_le wr rest 4) (by decide))) (by decide)) A19 c20 B26) (fun _ => rfl) 0 (by rw [Nat.sub_zero, List.drop_length]; rfl) rfl (fun k s E W hx HW => ⟨(HW.blkAt 4 rfl).cell 0, HW.rdRow 2 rfl⟩) (fun k => [(29, .int .u8 (((rV wr rest 4).getD ((rV wr rest 4).length - 1 - k) 0).toNat : Int)), (28, .int .i64 (((rV wr rest 4).length - 1 - k : Nat) : Int)), (5, pt p9 0), (27, .func (.func 73) #[] #[pt B26 0])]) (fun _ => rfl) ?_ ?_ ?_
  · skip
    rintro D33 l34 oR35 oB36 k s w30 K37 hk38 hx31 H32 hK39
    have H32 : Hp w S [.blk p [.slice A17 ((rR wr rest 4).length) c18, .bool (!(rOK wr rest 4))] 107, .row R N C 5 1 (by8 whole), .row A19 ((rV wr rest 4).length) c20 5 1 (by8 (rV wr rest 4)), .blk p9 [.int .u64 (s : Int)] 31, .blk B26 [.slice A19 ((rV wr rest 4).length) c20] 38, .obj D33 DF, .obj l34 oR35] w30 := H32
    have hs1 := hx31
    have hk9 := hk38
    have hVl : (rV wr rest 4).length ≤ 8 := (Nat.le_trans (rV_le wr rest 4) (by decide))
    have hs56 : s < 72057594037927936 := by rw [hs1]; exact acc_lt (by omega)
    have hxb := UInt8.toNat_lt ((rV wr rest 4).getD ((rV wr rest 4).length - 1 - k) 0)
    refine RG.region (by kernel_rfl) ?_
    refine RL.run (j := 1) 1 [5, 7] [(5, pt p9 0), (7, .int .u8 (((rV wr rest 4).getD ((rV wr rest 4).length - 1 - k) 0).toNat : Int))] (by kernel_rfl) rfl ?_
    refine RL.done rfl (fun F_ hF_ hM_ => hK39 F_ _ [.blk p [.slice A17 ((rR wr rest 4).length) c18, .bool (!(rOK wr rest 4))] 107, .row R N C 5 1 (by8 whole), .row A19 ((rV wr rest 4).length) c20 5 1 (by8 (rV wr rest 4)), .blk p9 [.int .u64 (s : Int)] 31, .blk B26 [.slice A19 ((rV wr rest 4).length) c20] 38] _ hF_ hM_ H32 ?_)
    intro w40 H41
    have H41 : Hp w S [.blk p [.slice A17 ((rR wr rest 4).length) c18, .bool (!(rOK wr rest 4))] 107, .row R N C 5 1 (by8 whole), .row A19 ((rV wr rest 4).length) c20 5 1 (by8 (rV wr rest 4)), .blk p9 [.int .u64 (s : Int)] 31, .blk B26 [.slice A19 ((rV wr rest 4).length) c20] 38, .obj D33 DF, .obj l34 oB36] w40 := H41
    refine RG.block ?_
    refine RG.region (by kernel_rfl) ?_
    refine RL.sem (j := 1) (H41.ld (o := 0) (ty := 31) (v := .int .u64 (s : Int)) 3 rfl (by kernel_rfl) rfl) [5, 7, 30] [(5, pt p9 0), (7, .int .u8 (((rV wr rest 4).getD ((rV wr rest 4).length - 1 - k) 0).toNat : Int)), (30, .int .u64 (s : Int))] (by kernel_rfl) (by kernel_rfl) rfl ?_
    refine RL.run (j := 5) 4 [5, 34] [(5, pt p9 0), (34, .int .u64 (Go.bits .or .u64 (IntKind.u64.wrap ((s : Int) * 2 ^ 8)) (IntKind.u64.wrap (((rV wr rest 4).getD ((rV wr rest 4).length - 1 - k) 0).toNat : Int))))] (by kernel_rfl) rfl ?_
    have e42 : (IntKind.u64.wrap ((s : Int) * 2 ^ 8)) = ((s * 2 ^ 8 : Nat) : Int) := by rw [n_shl, Nat.mod_eq_of_lt (by simp only [K]; omega)]
    have e43 : (IntKind.u64.wrap (((rV wr rest 4).getD ((rV wr rest 4).length - 1 - k) 0).toNat : Int)) = (((rV wr rest 4).getD ((rV wr rest 4).length - 1 - k) 0).toNat : Int) := u8_up_u64 _
    have e44 : (Go.bits .or .u64 ((s * 2 ^ 8 : Nat) : Int) (((rV wr rest 4).getD ((rV wr rest 4).length - 1 - k) 0).toNat : Int)) = ((((rV wr rest 4).getD ((rV wr rest 4).length - 1 - k) 0).toNat + 256 * s : Nat) : Int) := or_low hs56 hxb
    refine RL.eq (M' := [(5, pt p9 0), (34, .int .u64 ((((rV wr rest 4).getD ((rV wr rest 4).length - 1 - k) 0).toNat + 256 * s : Nat) : Int))]) (by rw [e42, e43, e44]) ?_
    clear e42 e43 e44
    obtain ⟨w45, r46, H47⟩ := H41.st (P := Try.prog) (o := 0) (ty := 31) (v := .int .u64 ((((rV wr rest 4).getD ((rV wr rest 4).length - 1 - k) 0).toNat + 256 * s : Nat) : Int)) 3 rfl (by kernel_rfl) (by simp) rfl
    have H47 : Hp w S [.blk p [.slice A17 ((rR wr rest 4).length) c18, .bool (!(rOK wr rest 4))] 107, .row R N C 5 1 (by8 whole), .row A19 ((rV wr rest 4).length) c20 5 1 (by8 (rV wr rest 4)), .blk p9 [.int .u64 ((((rV wr rest 4).getD ((rV wr rest 4).length - 1 - k) 0).toNat + 256 * s : Nat) : Int)] 31, .blk B26 [.slice A19 ((rV wr rest 4).length) c20] 38, .obj D33 DF, .obj l34 oB36] w45 := H47
    refine RL.semU (j := 6) r46 [] [] (by kernel_rfl) rfl rfl rfl ?_
    exact RL.done rfl (fun F_ hF_ hM_ => ⟨((((rV wr rest 4).getD ((rV wr rest 4).length - 1 - k) 0)).toNat + 256 * s), (by rw [hs1]; exact acc_step hk9), H47⟩)
  · skip
    rintro D51 s w48 hx49 H50
    refine RG.kk hK14 (fun _ _ h => h) ?_
    have H50 : Hp w S [.blk p [.slice A17 ((rR wr rest 4).length) c18, .bool (!(rOK wr rest 4))] 107, .row R N C 5 1 (by8 whole), .row A19 ((rV wr rest 4).length) c20 5 1 (by8 (rV wr rest 4)), .blk p9 [.int .u64 (s : Int)] 31, .blk B26 [.slice A19 ((rV wr rest 4).length) c20] 38, .obj D51 DF] w48 := H50
    rw [Nat.sub_self, List.drop_zero] at hx49
    have hs1 := hx49
    refine RG.seqK fun K52 hK53 => ?_
    refine RG.region (by kernel_rfl) ?_
    refine RL.sem (j := 1) (H50.ld (o := 0) (ty := 31) (v := .int .u64 (s : Int)) 3 rfl (by kernel_rfl) rfl) [35] [(35, .int .u64 (s : Int))] (by kernel_rfl) (by kernel_rfl) rfl ?_
    refine RL.run (j := 2) 1 [4] [(4, .int .u64 (s : Int))] (by kernel_rfl) rfl ?_
    refine RL.k rfl hK53 (fun _ _ h => h) ?_
    refine RG.ret ?_
    have hD54 := H50.objAt 5 rfl
    have H55 : Hp w S [.blk p [.slice A17 ((rR wr rest 4).length) c18, .bool (!(rOK wr rest 4))] 107, .row R N C 5 1 (by8 whole), .row A19 ((rV wr rest 4).length) c20 5 1 (by8 (rV wr rest 4)), .blk p9 [.int .u64 (s : Int)] 31, .blk B26 [.slice A19 ((rV wr rest 4).length) c20] 38, .obj D51 (.deferred none)] (World.putObj w48 D51 (.deferred none)) := H50.putObj 5 (.deferred none) rfl
    intro F_ hF_ hM_
    refine hRet _ _ (postK_1 hD54 rfl (RV.tmp rfl) ?_ F_ hF_ hM_)
    have H56 : Hp w S [.blk p [.slice A17 ((rR wr rest 4).length) c18, .bool (!(rOK wr rest 4))] 107, .row R N C 5 1 (by8 whole)] (World.putObj w48 D51 (.deferred none)) := H55.sub (List.Sublist.cons_cons _ (List.Sublist.cons_cons _ (List.Sublist.cons _ (List.Sublist.cons _ (List.Sublist.cons _ (List.Sublist.cons _ (List.Sublist.slnil)))))))
    rw [← hs1]
    exact ⟨_, _, rfl, H56, hC21, hL22⟩
  · skip
    rintro D60 s w57 hx58 H59
    exact hx58.elim
theorem Get8_calls (S : List Nat) (p : Nat) (A : Option Addr) (k cap : Nat) (wr : Bool) (R : Option Addr) (N C : Nat) (whole rest : List UInt8) (w : World) (h0 : Hp w S [.blk p [.slice A k cap, .bool wr] 107, .row R N C 5 1 (by8 whole)] w) (hcut : Cut R whole A rest) (hk : k = rest.length) (hcap : k ≤ cap) (hN : k ≤ 1000000) : Calls Try.prog 36 #[pt p 0, .int .i64 8] w fun e w' => ∃ B b, e = .returned (.int .u64 ((getB (rV wr rest 8) : Nat) : Int)) ∧ Hp w S [.blk p [.slice B (rR wr rest 8).length b, .bool (!(rOK wr rest 8))] 107, .row R N C 5 1 (by8 whole)] w' ∧ Cut R whole B (rR wr rest 8) ∧ (rR wr rest 8).length ≤ b := by
  refine calls_R (args := [pt p 0, .int .i64 8]) Try.func36 rfl Try.ntmps36 rfl ?_
  intro Q0 hRet hNor
  have H := h0
  have H : Hp w S [.blk p [.slice A k cap, .bool wr] 107, .row R N C 5 1 (by8 whole)] w := H
  refine RG.seqK fun K1 hK2 => ?_
  refine RG.region (by kernel_rfl) ?_
  refine RL.run (j := 1) 1 [0, 1] [(0, pt p 0), (1, .int .i64 8)] (by kernel_rfl) rfl ?_
  refine RL.k rfl hK2 (fun _ _ h => h) ?_
  refine RG.seqK fun K3 hK4 => ?_
  refine RG.seqK fun K5 hK6 => ?_
  refine RG.region (by kernel_rfl) ?_
  refine RL.run (j := 14) 14 [0, 1, 21] [(0, pt p 0), (1, .int .i64 8), (21, .bool false)] (by kernel_rfl) rfl ?_
  refine RL.k rfl hK6 (fun _ _ h => h) ?_
  refine RG.no rfl ?_
  refine RG.skipK hK4 (fun _ _ h => h) ?_
  refine RG.seqK fun K7 hK8 => ?_
  refine RG.region (by kernel_rfl) ?_
  obtain ⟨p9, w10, r11, H12⟩ := H.alloc (P := Try.prog) 31 [.int .u64 0] (by kernel_rfl)
  have H12 : Hp w S [.blk p [.slice A k cap, .bool wr] 107, .row R N C 5 1 (by8 whole), .blk p9 [.int .u64 0] 31] w10 := H12
  refine RL.sem (j := 1) (r11) [0, 1, 5] [(0, pt p 0), (1, .int .i64 8), (5, pt p9 0)] (by kernel_rfl) (by kernel_rfl) rfl ?_
  refine RL.k rfl hK8 (fun _ _ h => h) ?_
  refine RG.seqK fun K13 hK14 => ?_
  refine RG.seqK fun K15 hK16 => ?_
  refine RG.region (by kernel_rfl) ?_
  refine RL.run (j := 2) 2 [5, 24, 25] [(5, pt p9 0), (24, pt p 0), (25, .int .i64 8)] (by kernel_rfl) rfl ?_
  refine RL.call (j := 3) (Raw_calls (ids [.blk p [.slice A k cap, .bool wr] 107, .row R N C 5 1 (by8 whole)]) p A k cap wr R N C whole rest 8 w10 (Hp.startL (A := [.blk p [.slice A k cap, .bool wr] 107, .row R N C 5 1 (by8 whole)]) (B := [.blk p9 [.int .u64 0] 31]) H12) hcut (hk) (hcap) (hN)) (by kernel_rfl) rfl (fun e_ w23 hR => ?_)
  obtain ⟨A17, c18, A19, c20, rfl, H25, hC21, hL22⟩ := hR
  have H24 : Hp w S [.blk p [.slice A17 ((rR wr rest 8).length) c18, .bool (!(rOK wr rest 8))] 107, .row R N C 5 1 (by8 whole), .row A19 ((rV wr rest 8).length) c20 5 1 (by8 (rV wr rest 8)), .blk p9 [.int .u64 0] 31] w23 := Hp.callL (A := [.blk p [.slice A k cap, .bool wr] 107, .row R N C 5 1 (by8 whole)]) (B := [.blk p9 [.int .u64 0] 31]) H12 H25
  refine ⟨_, rfl, [5, 26], [(5, pt p9 0), (26, .slice A19 ((rV wr rest 8).length) c20)], by kernel_rfl, ?_⟩
  refine RL.call (j := 4) (Backward_calls A19 ((rV wr rest 8).length) c20 w23) (by kernel_rfl) rfl (fun e_ w29 hR => ?_)
  obtain ⟨B26, rfl, H28⟩ := hR
  have H27 : Hp w S [.blk p [.slice A17 ((rR wr rest 8).length) c18, .bool (!(rOK wr rest 8))] 107, .row R N C 5 1 (by8 whole), .row A19 ((rV wr rest 8).length) c20 5 1 (by8 (rV wr rest 8)), .blk p9 [.int .u64 0] 31, .blk B26 [.slice A19 ((rV wr rest 8).length) c20] 38] w29 := H24.callNew H28
  refine ⟨_, rfl, [5, 27], [(5, pt p9 0), (27, .func (.func 73) #[] #[pt B26 0])], by kernel_rfl, ?_⟩
  refine RL.k rfl hK16 (fun _ _ h => h) ?_
  refine RG.block ?_
  refine RG.fit [5, 27] (M' := [(5, pt p9 0), (27, .func (.func 73) #[] #[pt B26 0])]) (by kernel_rfl) ?_
  refine RG.range H27 (gf := 73) (lb := #[pt B26 0]) rfl (enters_of Try.func73 (by kernel_rfl) rfl) (Xt := Nat) (fun k s => s = getB ((rV wr rest 8).drop ((rV wr rest 8).length - k))) (fun k s => [.blk p [.slice A17 ((rR wr rest 8).length) c18, .bool (!(rOK wr rest 8))] 107, .row R N C 5 1 (by8 whole), .row A19 ((rV wr rest 8).length) c20 5 1 (by8 (rV wr rest 8)), .blk p9 [.int .u64 (s : Int)] 31, .blk B26 [.slice A19 ((rV wr rest 8).length) c20] 38]) (fun s => False) (fun s => []) (N := (rV wr rest 8).length) (enc := fun k => #[.int .i64 (((rV wr rest 8).length - 1 - k : Nat) : Int), .int .u8 (((rV wr rest 8).getD ((rV wr rest 8).length - 1 - k) 0).toNat : Int)]) (Backward_iter (rV wr rest 8) (Nat.le_trans (show (rV wr rest 8).length ≤ 8 from (Nat.le_trans (rV_le wr rest 8) (by decide))) (by decide)) A19 c20 B26) (fun _ => rfl) 0 (by rw [Nat.sub_zero, List.drop_length]; rfl) rfl (fun k s E W hx HW => ⟨(HW.blkAt 4 rfl).cell 0, HW.rdRow 2 rfl⟩) (fun k => [(29, .int .u8 (((rV wr rest 8).getD ((rV wr rest 8).length - 1 - k) 0).toNat : Int)), (28, .int .i64 (((rV wr rest 8).length - 1 - k : Nat) : Int)), (5, pt p9 0), (27, .func (.func 73) #[] #[pt B26 0])]) (fun _ => rfl) ?_ ?_ ?_
  · skip
    rintro D33 l34 oR35 oB36 k s w30 K37 hk38 hx31 H32 hK39
    have H32 : Hp w S [.blk p [.slice A17 ((rR wr rest 8).length) c18, .bool (!(rOK wr rest 8))] 107, .row R N C 5 1 (by8 whole), .row A19 ((rV wr rest 8).length) c20 5 1 (by8 (rV wr rest 8)), .blk p9 [.int .u64 (s : Int)] 31, .blk B26 [.slice A19 ((rV wr rest 8).length) c20] 38, .obj D33 DF, .obj l34 oR35] w30 := H32
    have hs1 := hx31
    have hk9 := hk38
    have hVl : (rV wr rest 8).length ≤ 8 := (Nat.le_trans (rV_le wr rest 8) (by decide))
    have hs56 : s < 72057594037927936 := by rw [hs1]; exact acc_lt (by omega)
    have hxb := UInt8.toNat_lt ((rV wr rest 8).getD ((rV wr rest 8).length - 1 - k) 0)
    refine RG.region (by kernel_rfl) ?_
    refine RL.run (j := 1) 1 [5, 7] [(5, pt p9 0), (7, .int .u8 (((rV wr rest 8).getD ((rV wr rest 8).length - 1 - k) 0).toNat : Int))] (by kernel_rfl) rfl ?_
    refine RL.done rfl (fun F_ hF_ hM_ => hK39 F_ _ [.blk p [.slice A17 ((rR wr rest 8).length) c18, .bool (!(rOK wr rest 8))] 107, .row R N C 5 1 (by8 whole), .row A19 ((rV wr rest 8).length) c20 5 1 (by8 (rV wr rest 8)), .blk p9 [.int .u64 (s : Int)] 31, .blk B26 [.slice A19 ((rV wr rest 8).length) c20] 38] _ hF_ hM_ H32 ?_)
    intro w40 H41
    have H41 : Hp w S [.blk p [.slice A17 ((rR wr rest 8).length) c18, .bool (!(rOK wr rest 8))] 107, .row R N C 5 1 (by8 whole), .row A19 ((rV wr rest 8).length) c20 5 1 (by8 (rV wr rest 8)), .blk p9 [.int .u64 (s : Int)] 31, .blk B26 [.slice A19 ((rV wr rest 8).length) c20] 38, .obj D33 DF, .obj l34 oB36] w40 := H41
    refine RG.block ?_
    refine RG.region (by kernel_rfl) ?_
    refine RL.sem (j := 1) (H41.ld (o := 0) (ty := 31) (v := .int .u64 (s : Int)) 3 rfl (by kernel_rfl) rfl) [5, 7, 30] [(5, pt p9 0), (7, .int .u8 (((rV wr rest 8).getD ((rV wr rest 8).length - 1 - k) 0).toNat : Int)), (30, .int .u64 (s : Int))] (by kernel_rfl) (by kernel_rfl) rfl ?_
    refine RL.run (j := 5) 4 [5, 34] [(5, pt p9 0), (34, .int .u64 (Go.bits .or .u64 (IntKind.u64.wrap ((s : Int) * 2 ^ 8)) (IntKind.u64.wrap (((rV wr rest 8).getD ((rV wr rest 8).length - 1 - k) 0).toNat : Int))))] (by kernel_rfl) rfl ?_
    have e42 : (IntKind.u64.wrap ((s : Int) * 2 ^ 8)) = ((s * 2 ^ 8 : Nat) : Int) := by rw [n_shl, Nat.mod_eq_of_lt (by simp only [K]; omega)]
    have e43 : (IntKind.u64.wrap (((rV wr rest 8).getD ((rV wr rest 8).length - 1 - k) 0).toNat : Int)) = (((rV wr rest 8).getD ((rV wr rest 8).length - 1 - k) 0).toNat : Int) := u8_up_u64 _
    have e44 : (Go.bits .or .u64 ((s * 2 ^ 8 : Nat) : Int) (((rV wr rest 8).getD ((rV wr rest 8).length - 1 - k) 0).toNat : Int)) = ((((rV wr rest 8).getD ((rV wr rest 8).length - 1 - k) 0).toNat + 256 * s : Nat) : Int) := or_low hs56 hxb
    refine RL.eq (M' := [(5, pt p9 0), (34, .int .u64 ((((rV wr rest 8).getD ((rV wr rest 8).length - 1 - k) 0).toNat + 256 * s : Nat) : Int))]) (by rw [e42, e43, e44]) ?_
    clear e42 e43 e44
    obtain ⟨w45, r46, H47⟩ := H41.st (P := Try.prog) (o := 0) (ty := 31) (v := .int .u64 ((((rV wr rest 8).getD ((rV wr rest 8).length - 1 - k) 0).toNat + 256 * s : Nat) : Int)) 3 rfl (by kernel_rfl) (by simp) rfl
    have H47 : Hp w S [.blk p [.slice A17 ((rR wr rest 8).length) c18, .bool (!(rOK wr rest 8))] 107, .row R N C 5 1 (by8 whole), .row A19 ((rV wr rest 8).length) c20 5 1 (by8 (rV wr rest 8)), .blk p9 [.int .u64 ((((rV wr rest 8).getD ((rV wr rest 8).length - 1 - k) 0).toNat + 256 * s : Nat) : Int)] 31, .blk B26 [.slice A19 ((rV wr rest 8).length) c20] 38, .obj D33 DF, .obj l34 oB36] w45 := H47
    refine RL.semU (j := 6) r46 [] [] (by kernel_rfl) rfl rfl rfl ?_
    exact RL.done rfl (fun F_ hF_ hM_ => ⟨((((rV wr rest 8).getD ((rV wr rest 8).length - 1 - k) 0)).toNat + 256 * s), (by rw [hs1]; exact acc_step hk9), H47⟩)
  · skip
    rintro D51 s w48 hx49 H50
    refine RG.kk hK14 (fun _ _ h => h) ?_
    have H50 : Hp w S [.blk p [.slice A17 ((rR wr rest 8).length) c18, .bool (!(rOK wr rest 8))] 107, .row R N C 5 1 (by8 whole), .row A19 ((rV wr rest 8).length) c20 5 1 (by8 (rV wr rest 8)), .blk p9 [.int .u64 (s : Int)] 31, .blk B26 [.slice A19 ((rV wr rest 8).length) c20] 38, .obj D51 DF] w48 := H50
    rw [Nat.sub_self, List.drop_zero] at hx49
    have hs1 := hx49
    refine RG.seqK fun K52 hK53 => ?_
    refine RG.region (by kernel_rfl) ?_
    refine RL.sem (j := 1) (H50.ld (o := 0) (ty := 31) (v := .int .u64 (s : Int)) 3 rfl (by kernel_rfl) rfl) [35] [(35, .int .u64 (s : Int))] (by kernel_rfl) (by kernel_rfl) rfl ?_
    refine RL.run (j := 2) 1 [4] [(4, .int .u64 (s : Int))] (by kernel_rfl) rfl ?_
    refine RL.k rfl hK53 (fun _ _ h => h) ?_
    refine RG.ret ?_
    have hD54 := H50.objAt 5 rfl
    have H55 : Hp w S [.blk p [.slice A17 ((rR wr rest 8).length) c18, .bool (!(rOK wr rest 8))] 107, .row R N C 5 1 (by8 whole), .row A19 ((rV wr rest 8).length) c20 5 1 (by8 (rV wr rest 8)), .blk p9 [.int .u64 (s : Int)] 31, .blk B26 [.slice A19 ((rV wr rest 8).length) c20] 38, .obj D51 (.deferred none)] (World.putObj w48 D51 (.deferred none)) := H50.putObj 5 (.deferred none) rfl
    intro F_ hF_ hM_
    refine hRet _ _ (postK_1 hD54 rfl (RV.tmp rfl) ?_ F_ hF_ hM_)
    have H56 : Hp w S [.blk p [.slice A17 ((rR wr rest 8).length) c18, .bool (!(rOK wr rest 8))] 107, .row R N C 5 1 (by8 whole)] (World.putObj w48 D51 (.deferred none)) := H55.sub (List.Sublist.cons_cons _ (List.Sublist.cons_cons _ (List.Sublist.cons _ (List.Sublist.cons _ (List.Sublist.cons _ (List.Sublist.cons _ (List.Sublist.slnil)))))))
    rw [← hs1]
    exact ⟨_, _, rfl, H56, hC21, hL22⟩
  · skip
    rintro D60 s w57 hx58 H59
    exact hx58.elim
theorem End_calls (S : List Nat) (p : Nat) (A : Option Addr) (k cap : Nat) (wr : Bool) (R : Option Addr) (N C : Nat) (whole rest : List UInt8) (w : World) (h0 : Hp w S [.blk p [.slice A k cap, .bool wr] 107, .row R N C 5 1 (by8 whole)] w) (hk : k = rest.length) : Calls Try.prog 41 #[pt p 0] w fun e w' => e = .returned (.bool (!wr && (rest.length == 0))) ∧ Hp w S [.blk p [.slice A k cap, .bool wr] 107, .row R N C 5 1 (by8 whole)] w' := by
  refine calls_G (args := [pt p 0]) Try.func41 rfl Try.ntmps41 rfl ?_
  intro Q0 hRet hNor hPan
  have H := h0
  have H : Hp w S [.blk p [.slice A k cap, .bool wr] 107, .row R N C 5 1 (by8 whole)] w := H
  refine G.seqK fun K1 hK2 => ?_
  refine G.region ?_
  refine GL.run (j := 1) 1 [0] [(0, pt p 0)] (by kernel_rfl) rfl ?_
  refine GL.k rfl hK2 (fun _ _ h => h) ?_
  refine G.seqK fun K3 hK4 => ?_
  refine G.region ?_
  refine GL.run (j := 1) 1 [0, 3] [(0, pt p 0), (3, pt p 0)] (by kernel_rfl) rfl ?_
  refine GL.call (j := 2) (Wrong_calls (ids [.blk p [.slice A k cap, .bool wr] 107, .row R N C 5 1 (by8 whole)]) p A k cap wr R N C whole w (Hp.startL (A := [.blk p [.slice A k cap, .bool wr] 107, .row R N C 5 1 (by8 whole)]) (B := []) H)) (by kernel_rfl) rfl (fun e_ w5 hR => ?_)
  obtain ⟨rfl, H7⟩ := hR
  have H6 : Hp w S [.blk p [.slice A k cap, .bool wr] 107, .row R N C 5 1 (by8 whole)] w5 := Hp.callL (A := [.blk p [.slice A k cap, .bool wr] 107, .row R N C 5 1 (by8 whole)]) (B := []) H H7
  refine ⟨_, rfl, [0, 4], [(0, pt p 0), (4, .bool wr)], by kernel_rfl, ?_⟩
  refine GL.run (j := 4) 2 [0, 6] [(0, pt p 0), (6, .bool (!wr))] (by kernel_rfl) rfl ?_
  rcases (Bool.eq_false_or_eq_true wr).symm with hb8 | hb8
  · skip
    refine GL.eq (M' := [(0, pt p 0), (6, .bool true)]) (by first | (rw [hb8]; done) | (rw [hb8]; rfl)) ?_
    refine GL.run (j := 7) 3 [6, 9] [(6, .bool true), (9, pt p 0)] (by kernel_rfl) rfl ?_
    refine GL.sem (j := 8) (H6.ld (o := 0) (ty := 38) (v := .slice A k cap) 0 rfl (by kernel_rfl) rfl) [6, 10] [(6, .bool true), (10, .slice A k cap)] (by kernel_rfl) (by kernel_rfl) rfl ?_
    refine GL.run (j := 12) 4 [2] [(2, .bool ((k : Int) == 0))] (by kernel_rfl) rfl ?_
    refine GL.k rfl hK4 (fun _ _ h => h) ?_
    refine G.ret ?_
    intro F_ hF_ hM_
    refine hRet _ _ (bodyPost_1 rfl (RV.tmp rfl) ?_ F_ hF_ hM_)
    have hwr : wr = false := by assumption
    have e0 : (((k : Int) == 0) : Bool) = (!wr && (rest.length == 0)) := by
      rw [hwr]
      show _ = (rest.length == 0)
      rw [Bool.eq_iff_iff]
      simp only [beq_iff_eq]
      omega
    rw [e0]
    exact ⟨rfl, H6⟩
  · skip
    refine GL.eq (M' := [(0, pt p 0), (6, .bool false)]) (by first | (rw [hb8]; done) | (rw [hb8]; rfl)) ?_
    refine GL.run (j := 12) 8 [2] [(2, .bool false)] (by kernel_rfl) rfl ?_
    refine GL.k rfl hK4 (fun _ _ h => h) ?_
    refine G.ret ?_
    intro F_ hF_ hM_
    refine hRet _ _ (bodyPost_1 rfl (RV.tmp rfl) ?_ F_ hF_ hM_)
    have hwr : wr = true := by assumption
    have e0 : (false : Bool) = (!wr && (rest.length == 0)) := by
      rw [hwr]
      rfl
    rw [e0]
    exact ⟨rfl, H6⟩
end Go.Proofs.Ytcedmbdahbdmaaa
set_option maxRecDepth 100000
namespace Go.Proofs.Ytcedmbdahbdmaaa
open Go.RowKit
theorem CountSize_calls (x : Nat) (w : World) : Calls Try.prog 60 #[.int .u64 (x : Int)] w fun e w' => e = .returned (.int .i64 ((cntSz x : Nat) : Int)) ∧ Hp w [] [] w' := by
  refine calls_G (args := [.int .u64 (x : Int)]) Try.func60 rfl Try.ntmps60 rfl ?_
  intro Q0 hRet hNor hPan
  have H := Hp.start w
  have H : Hp w [] [] w := H
  refine G.seqK fun K1 hK2 => ?_
  refine G.region ?_
  refine GL.run (j := 1) 1 [0] [(0, .int .u64 (x : Int))] (by kernel_rfl) rfl ?_
  refine GL.k rfl hK2 (fun _ _ h => h) ?_
  refine G.seqK fun K3 hK4 => ?_
  refine G.block ?_
  refine G.seqK fun K5 hK6 => ?_
  refine G.region ?_
  refine GL.run (j := 3) 3 [0, 3] [(0, .int .u64 (x : Int)), (3, .bool (decide ((x : Int) < 253)))] (by kernel_rfl) rfl ?_
  refine GL.k rfl hK6 (fun _ _ h => h) ?_
  cases hb7 : (decide ((x : Int) < 253))
  · skip
    have hb7f := of_decide_eq_false hb7
    refine G.no rfl ?_
    refine G.seqK fun K8 hK9 => ?_
    refine G.region ?_
    refine GL.run (j := 3) 3 [0, 6] [(0, .int .u64 (x : Int)), (6, .bool (decide ((x : Int) < 65536)))] (by kernel_rfl) rfl ?_
    refine GL.k rfl hK9 (fun _ _ h => h) ?_
    cases hb10 : (decide ((x : Int) < 65536))
    · skip
      have hb10f := of_decide_eq_false hb10
      refine G.no rfl ?_
      refine G.seqK fun K11 hK12 => ?_
      refine G.region ?_
      refine GL.run (j := 3) 3 [9] [(9, .bool (decide ((x : Int) < 4294967296)))] (by kernel_rfl) rfl ?_
      refine GL.k rfl hK12 (fun _ _ h => h) ?_
      cases hb13 : (decide ((x : Int) < 4294967296))
      · skip
        have hb13f := of_decide_eq_false hb13
        refine G.no rfl ?_
        refine G.skipK hK4 (fun _ _ h => h) ?_
        refine G.seqK fun K14 hK15 => ?_
        refine G.region ?_
        refine GL.run (j := 1) 1 [2] [(2, .int .i64 9)] (by kernel_rfl) rfl ?_
        refine GL.k rfl hK15 (fun _ _ h => h) ?_
        refine G.ret ?_
        intro F_ hF_ hM_
        refine hRet _ _ (bodyPost_1 rfl (RV.tmp rfl) ?_ F_ hF_ hM_)
        have e0 : cntSz x = 9 := by unfold cntSz; (repeat' split) <;> omega
        rw [e0]
        exact ⟨rfl, H.sub (List.nil_sublist _)⟩
      · skip
        have hb13f := of_decide_eq_true hb13
        refine G.yes rfl ?_
        refine G.seqK fun K16 hK17 => ?_
        refine G.region ?_
        refine GL.run (j := 1) 1 [2] [(2, .int .i64 5)] (by kernel_rfl) rfl ?_
        refine GL.k rfl hK17 (fun _ _ h => h) ?_
        refine G.ret ?_
        intro F_ hF_ hM_
        refine hRet _ _ (bodyPost_1 rfl (RV.tmp rfl) ?_ F_ hF_ hM_)
        have e0 : cntSz x = 5 := by unfold cntSz; (repeat' split) <;> omega
        rw [e0]
        exact ⟨rfl, H.sub (List.nil_sublist _)⟩
    · skip
      have hb10f := of_decide_eq_true hb10
      refine G.yes rfl ?_
      refine G.seqK fun K18 hK19 => ?_
      refine G.region ?_
      refine GL.run (j := 1) 1 [2] [(2, .int .i64 3)] (by kernel_rfl) rfl ?_
      refine GL.k rfl hK19 (fun _ _ h => h) ?_
      refine G.ret ?_
      intro F_ hF_ hM_
      refine hRet _ _ (bodyPost_1 rfl (RV.tmp rfl) ?_ F_ hF_ hM_)
      have e0 : cntSz x = 3 := by unfold cntSz; (repeat' split) <;> omega
      rw [e0]
      exact ⟨rfl, H.sub (List.nil_sublist _)⟩
  · skip
    have hb7f := of_decide_eq_true hb7
    refine G.yes rfl ?_
    refine G.seqK fun K20 hK21 => ?_
    refine G.region ?_
    refine GL.run (j := 1) 1 [2] [(2, .int .i64 1)] (by kernel_rfl) rfl ?_
    refine GL.k rfl hK21 (fun _ _ h => h) ?_
    refine G.ret ?_
    intro F_ hF_ hM_
    refine hRet _ _ (bodyPost_1 rfl (RV.tmp rfl) ?_ F_ hF_ hM_)
    have e0 : cntSz x = 1 := by unfold cntSz; (repeat' split) <;> omega
    rw [e0]
    exact ⟨rfl, H.sub (List.nil_sublist _)⟩
theorem WCount_calls (S : List Nat) (p : Nat) (A : Option Addr) (n c : Nat) (bs : List UInt8) (x : Nat) (w : World) (h0 : Hp w S [.blk p [.slice A n c] 114, .row A n c 5 1 (by8 bs)] w) (hn : n ≤ 900000) : Calls Try.prog 63 #[pt p 0, .int .u64 (x : Int)] w fun e w' => ∃ A c, e = .returned (.tuple #[]) ∧ Hp w S [.blk p [.slice A (n + cntSz x) c] 114, .row A (n + cntSz x) c 5 1 (by8 (bs ++ cnt x))] w' := by
  have hc9 := cntSz_le x
  refine calls_G (args := [pt p 0, .int .u64 (x : Int)]) Try.func63 rfl Try.ntmps63 rfl ?_
  intro Q0 hRet hNor hPan
  have H := h0
  have H : Hp w S [.blk p [.slice A n c] 114, .row A n c 5 1 (by8 bs)] w := H
  refine G.seqK fun K1 hK2 => ?_
  refine G.region ?_
  refine GL.run (j := 1) 1 [0, 1, 4] [(0, pt p 0), (1, .int .u64 (x : Int)), (4, .int .u64 (x : Int))] (by kernel_rfl) rfl ?_
  refine GL.call (j := 2) (CountSize_calls x w) (by kernel_rfl) rfl (fun e_ w3 hR => ?_)
  obtain ⟨rfl, H5⟩ := hR
  have H4 : Hp w S [.blk p [.slice A n c] 114, .row A n c 5 1 (by8 bs)] w3 := H.callNil H5
  refine ⟨_, rfl, [0, 1, 5], [(0, pt p 0), (1, .int .u64 (x : Int)), (5, .int .i64 (((cntSz x) : Nat) : Int))], by kernel_rfl, ?_⟩
  refine GL.k rfl hK2 (fun _ _ h => h) ?_
  refine G.block ?_
  refine G.seqK fun K6 hK7 => ?_
  refine G.region ?_
  refine GL.run (j := 2) 2 [0, 1, 5, 11] [(0, pt p 0), (1, .int .u64 (x : Int)), (5, .int .i64 (((cntSz x) : Nat) : Int)), (11, .bool ((((cntSz x) : Nat) : Int) == 1))] (by kernel_rfl) rfl ?_
  refine GL.k rfl hK7 (fun _ _ h => h) ?_
  cases hb8 : ((((cntSz x) : Nat) : Int) == 1)
  · skip
    have hb8f := ne_of_beq_false hb8
    refine G.no rfl ?_
    refine G.seqK fun K9 hK10 => ?_
    refine G.region ?_
    refine GL.run (j := 2) 2 [0, 1, 5, 16] [(0, pt p 0), (1, .int .u64 (x : Int)), (5, .int .i64 (((cntSz x) : Nat) : Int)), (16, .bool ((((cntSz x) : Nat) : Int) == 3))] (by kernel_rfl) rfl ?_
    refine GL.k rfl hK10 (fun _ _ h => h) ?_
    cases hb11 : ((((cntSz x) : Nat) : Int) == 3)
    · skip
      have hb11f := ne_of_beq_false hb11
      refine G.no rfl ?_
      refine G.seqK fun K12 hK13 => ?_
      refine G.region ?_
      refine GL.run (j := 2) 2 [0, 1, 23] [(0, pt p 0), (1, .int .u64 (x : Int)), (23, .bool ((((cntSz x) : Nat) : Int) == 5))] (by kernel_rfl) rfl ?_
      refine GL.k rfl hK13 (fun _ _ h => h) ?_
      cases hb14 : ((((cntSz x) : Nat) : Int) == 5)
      · skip
        have hb14f := ne_of_beq_false hb14
        refine G.no rfl ?_
        refine G.seqK fun K15 hK16 => ?_
        refine G.region ?_
        refine GL.run (j := 1) 1 [0, 1, 6] [(0, pt p 0), (1, .int .u64 (x : Int)), (6, pt p 0)] (by kernel_rfl) rfl ?_
        refine GL.call (j := 2) (Put1_calls (ids [.blk p [.slice A n c] 114, .row A n c 5 1 (by8 bs)]) p A n c bs 255 w3 (Hp.startL (A := [.blk p [.slice A n c] 114, .row A n c 5 1 (by8 bs)]) (B := []) H4) (by omega)) (by kernel_rfl) rfl (fun e_ w19 hR => ?_)
        obtain ⟨A17, c18, rfl, H21⟩ := hR
        have H20 : Hp w S [.blk p [.slice A17 (n + 1) c18] 114, .row A17 (n + 1) c18 5 1 (by8 (bs ++ (putB 255 1)))] w19 := Hp.callL (A := [.blk p [.slice A n c] 114, .row A n c 5 1 (by8 bs)]) (B := []) H4 H21
        refine ⟨_, rfl, [0, 1], [(0, pt p 0), (1, .int .u64 (x : Int))], by kernel_rfl, ?_⟩
        refine GL.k rfl hK16 (fun _ _ h => h) ?_
        refine G.region ?_
        refine GL.run (j := 2) 2 [8, 9] [(8, pt p 0), (9, .int .u64 (x : Int))] (by kernel_rfl) rfl ?_
        refine GL.call (j := 3) (Put8_calls (ids [.blk p [.slice A17 (n + 1) c18] 114, .row A17 (n + 1) c18 5 1 (by8 (bs ++ (putB 255 1)))]) p A17 (n + 1) c18 (bs ++ (putB 255 1)) x w19 (Hp.startL (A := [.blk p [.slice A17 (n + 1) c18] 114, .row A17 (n + 1) c18 5 1 (by8 (bs ++ (putB 255 1)))]) (B := []) H20) (by omega)) (by kernel_rfl) rfl (fun e_ w24 hR => ?_)
        obtain ⟨A22, c23, rfl, H26⟩ := hR
        have H25 : Hp w S [.blk p [.slice A22 ((n + 1) + 8) c23] 114, .row A22 ((n + 1) + 8) c23 5 1 (by8 ((bs ++ (putB 255 1)) ++ (putB x 8)))] w24 := Hp.callL (A := [.blk p [.slice A17 (n + 1) c18] 114, .row A17 (n + 1) c18 5 1 (by8 (bs ++ (putB 255 1)))]) (B := []) H20 H26
        refine ⟨_, rfl, [], [], by kernel_rfl, ?_⟩
        refine GL.done rfl ?_
        intro F_ hF_ hM_
        refine hNor _ _ (bodyPost_0 rfl  ?_ F_ hF_ hM_)
        have e0 : cntSz x = 9 ∧ cnt x = putB 255 1 ++ putB x 8 := by rcases cnt_cases x with ⟨_, a, b⟩ | ⟨_, _, a, b⟩ | ⟨_, _, a, b⟩ | ⟨_, a, b⟩ <;> first | exact ⟨a, b⟩ | (exfalso; omega)
        have HF := H25
        rw [List.append_assoc] at HF
        rw [e0.1, e0.2]
        exact ⟨_, _, rfl, HF⟩
      · skip
        have hb14f := eq_of_beq hb14
        refine G.yes rfl ?_
        refine G.seqK fun K27 hK28 => ?_
        refine G.region ?_
        refine GL.run (j := 1) 1 [0, 1, 25] [(0, pt p 0), (1, .int .u64 (x : Int)), (25, pt p 0)] (by kernel_rfl) rfl ?_
        refine GL.call (j := 2) (Put1_calls (ids [.blk p [.slice A n c] 114, .row A n c 5 1 (by8 bs)]) p A n c bs 254 w3 (Hp.startL (A := [.blk p [.slice A n c] 114, .row A n c 5 1 (by8 bs)]) (B := []) H4) (by omega)) (by kernel_rfl) rfl (fun e_ w31 hR => ?_)
        obtain ⟨A29, c30, rfl, H33⟩ := hR
        have H32 : Hp w S [.blk p [.slice A29 (n + 1) c30] 114, .row A29 (n + 1) c30 5 1 (by8 (bs ++ (putB 254 1)))] w31 := Hp.callL (A := [.blk p [.slice A n c] 114, .row A n c 5 1 (by8 bs)]) (B := []) H4 H33
        refine ⟨_, rfl, [0, 1], [(0, pt p 0), (1, .int .u64 (x : Int))], by kernel_rfl, ?_⟩
        refine GL.k rfl hK28 (fun _ _ h => h) ?_
        refine G.region ?_
        refine GL.run (j := 2) 2 [27, 28] [(27, pt p 0), (28, .int .u64 (x : Int))] (by kernel_rfl) rfl ?_
        refine GL.call (j := 3) (Put4_calls (ids [.blk p [.slice A29 (n + 1) c30] 114, .row A29 (n + 1) c30 5 1 (by8 (bs ++ (putB 254 1)))]) p A29 (n + 1) c30 (bs ++ (putB 254 1)) x w31 (Hp.startL (A := [.blk p [.slice A29 (n + 1) c30] 114, .row A29 (n + 1) c30 5 1 (by8 (bs ++ (putB 254 1)))]) (B := []) H32) (by omega)) (by kernel_rfl) rfl (fun e_ w36 hR => ?_)
        obtain ⟨A34, c35, rfl, H38⟩ := hR
        have H37 : Hp w S [.blk p [.slice A34 ((n + 1) + 4) c35] 114, .row A34 ((n + 1) + 4) c35 5 1 (by8 ((bs ++ (putB 254 1)) ++ (putB x 4)))] w36 := Hp.callL (A := [.blk p [.slice A29 (n + 1) c30] 114, .row A29 (n + 1) c30 5 1 (by8 (bs ++ (putB 254 1)))]) (B := []) H32 H38
        refine ⟨_, rfl, [], [], by kernel_rfl, ?_⟩
        refine GL.done rfl ?_
        intro F_ hF_ hM_
        refine hNor _ _ (bodyPost_0 rfl  ?_ F_ hF_ hM_)
        have e0 : cntSz x = 5 ∧ cnt x = putB 254 1 ++ putB x 4 := by rcases cnt_cases x with ⟨_, a, b⟩ | ⟨_, _, a, b⟩ | ⟨_, _, a, b⟩ | ⟨_, a, b⟩ <;> first | exact ⟨a, b⟩ | (exfalso; omega)
        have HF := H37
        rw [List.append_assoc] at HF
        rw [e0.1, e0.2]
        exact ⟨_, _, rfl, HF⟩
    · skip
      have hb11f := eq_of_beq hb11
      refine G.yes rfl ?_
      refine G.seqK fun K39 hK40 => ?_
      refine G.region ?_
      refine GL.run (j := 1) 1 [0, 1, 18] [(0, pt p 0), (1, .int .u64 (x : Int)), (18, pt p 0)] (by kernel_rfl) rfl ?_
      refine GL.call (j := 2) (Put1_calls (ids [.blk p [.slice A n c] 114, .row A n c 5 1 (by8 bs)]) p A n c bs 253 w3 (Hp.startL (A := [.blk p [.slice A n c] 114, .row A n c 5 1 (by8 bs)]) (B := []) H4) (by omega)) (by kernel_rfl) rfl (fun e_ w43 hR => ?_)
      obtain ⟨A41, c42, rfl, H45⟩ := hR
      have H44 : Hp w S [.blk p [.slice A41 (n + 1) c42] 114, .row A41 (n + 1) c42 5 1 (by8 (bs ++ (putB 253 1)))] w43 := Hp.callL (A := [.blk p [.slice A n c] 114, .row A n c 5 1 (by8 bs)]) (B := []) H4 H45
      refine ⟨_, rfl, [0, 1], [(0, pt p 0), (1, .int .u64 (x : Int))], by kernel_rfl, ?_⟩
      refine GL.k rfl hK40 (fun _ _ h => h) ?_
      refine G.region ?_
      refine GL.run (j := 2) 2 [20, 21] [(20, pt p 0), (21, .int .u64 (x : Int))] (by kernel_rfl) rfl ?_
      refine GL.call (j := 3) (Put2_calls (ids [.blk p [.slice A41 (n + 1) c42] 114, .row A41 (n + 1) c42 5 1 (by8 (bs ++ (putB 253 1)))]) p A41 (n + 1) c42 (bs ++ (putB 253 1)) x w43 (Hp.startL (A := [.blk p [.slice A41 (n + 1) c42] 114, .row A41 (n + 1) c42 5 1 (by8 (bs ++ (putB 253 1)))]) (B := []) H44) (by omega)) (by kernel_rfl) rfl (fun e_ w48 hR => ?_)
      obtain ⟨A46, c47, rfl, H50⟩ := hR
      have H49 : Hp w S [.blk p [.slice A46 ((n + 1) + 2) c47] 114, .row A46 ((n + 1) + 2) c47 5 1 (by8 ((bs ++ (putB 253 1)) ++ (putB x 2)))] w48 := Hp.callL (A := [.blk p [.slice A41 (n + 1) c42] 114, .row A41 (n + 1) c42 5 1 (by8 (bs ++ (putB 253 1)))]) (B := []) H44 H50
      refine ⟨_, rfl, [], [], by kernel_rfl, ?_⟩
      refine GL.done rfl ?_
      intro F_ hF_ hM_
      refine hNor _ _ (bodyPost_0 rfl  ?_ F_ hF_ hM_)
      have e0 : cntSz x = 3 ∧ cnt x = putB 253 1 ++ putB x 2 := by rcases cnt_cases x with ⟨_, a, b⟩ | ⟨_, _, a, b⟩ | ⟨_, _, a, b⟩ | ⟨_, a, b⟩ <;> first | exact ⟨a, b⟩ | (exfalso; omega)
      have HF := H49
      rw [List.append_assoc] at HF
      rw [e0.1, e0.2]
      exact ⟨_, _, rfl, HF⟩
  · skip
    have hb8f := eq_of_beq hb8
    refine G.yes rfl ?_
    refine G.region ?_
    refine GL.run (j := 2) 2 [13, 14] [(13, pt p 0), (14, .int .u64 (x : Int))] (by kernel_rfl) rfl ?_
    refine GL.call (j := 3) (Put1_calls (ids [.blk p [.slice A n c] 114, .row A n c 5 1 (by8 bs)]) p A n c bs x w3 (Hp.startL (A := [.blk p [.slice A n c] 114, .row A n c 5 1 (by8 bs)]) (B := []) H4) (by omega)) (by kernel_rfl) rfl (fun e_ w53 hR => ?_)
    obtain ⟨A51, c52, rfl, H55⟩ := hR
    have H54 : Hp w S [.blk p [.slice A51 (n + 1) c52] 114, .row A51 (n + 1) c52 5 1 (by8 (bs ++ (putB x 1)))] w53 := Hp.callL (A := [.blk p [.slice A n c] 114, .row A n c 5 1 (by8 bs)]) (B := []) H4 H55
    refine ⟨_, rfl, [], [], by kernel_rfl, ?_⟩
    refine GL.done rfl ?_
    intro F_ hF_ hM_
    refine hNor _ _ (bodyPost_0 rfl  ?_ F_ hF_ hM_)
    have e0 : cntSz x = 1 ∧ cnt x = putB x 1 := by rcases cnt_cases x with ⟨_, a, b⟩ | ⟨_, _, a, b⟩ | ⟨_, _, a, b⟩ | ⟨_, a, b⟩ <;> first | exact ⟨a, b⟩ | (exfalso; omega)
    have HF := H54
    rw [e0.1, e0.2]
    exact ⟨_, _, rfl, HF⟩
theorem WRaw_calls (S : List Nat) (p : Nat) (A : Option Addr) (n c : Nat) (bs : List UInt8) (B : Option Addr) (m d : Nat) (ys : List UInt8) (w : World) (h0 : Hp w S [.blk p [.slice A n c] 114, .row A n c 5 1 (by8 bs)] w) (hn : n ≤ 1000000) (hx : RdO w S B (by8 ys)) (hm : m = ys.length) (hmb : m ≤ 100000) : Calls Try.prog 64 #[pt p 0, .slice B m d] w fun e w' => ∃ A c, e = .returned (.tuple #[]) ∧ Hp w S [.blk p [.slice A (n + m) c] 114, .row A (n + m) c 5 1 (by8 (bs ++ ys))] w' := by
  refine calls_G (args := [pt p 0, .slice B m d]) Try.func64 rfl Try.ntmps64 rfl ?_
  intro Q0 hRet hNor hPan
  have H := h0
  have H : Hp w S [.blk p [.slice A n c] 114, .row A n c 5 1 (by8 bs)] w := H
  refine G.seqK fun K1 hK2 => ?_
  refine G.region ?_
  refine GL.run (j := 2) 2 [0, 1, 5] [(0, pt p 0), (1, .slice B m d), (5, .bool true)] (by kernel_rfl) rfl ?_
  refine GL.k rfl hK2 (fun _ _ h => h) ?_
  refine G.yes rfl ?_
  refine G.region ?_
  refine GL.run (j := 4) 4 [1, 6, 9] [(1, .slice B m d), (6, pt p 0), (9, pt p 0)] (by kernel_rfl) rfl ?_
  refine GL.sem (j := 5) (H.ld (o := 0) (ty := 38) (v := .slice A n c) 0 rfl (by kernel_rfl) rfl) [1, 6, 10] [(1, .slice B m d), (6, pt p 0), (10, .slice A n c)] (by kernel_rfl) (by kernel_rfl) rfl ?_
  refine GL.run (j := 6) 1 [6, 10, 11] [(6, pt p 0), (10, .slice A n c), (11, .slice B m d)] (by kernel_rfl) rfl ?_
  obtain ⟨A3, c4, w5, r6, H7⟩ := H.append (P := Try.prog) (e := 5) (sz := 1) (by_ := 1) (n := n) (c := c) (m := m) (d := d) (t := 38) (ty := 38) (xs := by8 bs) (news := by8 ys) 1 rfl (by kernel_rfl) (hx.hp H) (by first | (simp [by8_length]; done) | (rw [by8_length]; omega) | (rw [by8_length, putB_length])) (by8_one _) (by omega) (by simp only [maxLen]; omega)
  rw [← by8_append] at H7
  have H7 : Hp w S [.blk p [.slice A n c] 114, .row A3 (n + m) c4 5 1 (by8 (bs ++ ys))] w5 := H7
  refine GL.sem (j := 7) (r6) [6, 12] [(6, pt p 0), (12, .slice A3 (n + m) c4)] (by kernel_rfl) (by kernel_rfl) rfl ?_
  refine GL.run (j := 9) 2 [12, 14] [(12, .slice A3 (n + m) c4), (14, pt p 0)] (by kernel_rfl) rfl ?_
  obtain ⟨w8, r9, H10⟩ := H7.st (P := Try.prog) (o := 0) (ty := 38) (v := .slice A3 (n + m) c4) 0 rfl (by kernel_rfl) (by simp) rfl
  have H10 : Hp w S [.blk p [.slice A3 (n + m) c4] 114, .row A3 (n + m) c4 5 1 (by8 (bs ++ ys))] w8 := H10
  refine GL.semU (j := 10) r9 [] [] (by kernel_rfl) rfl rfl rfl ?_
  refine GL.done rfl ?_
  intro F_ hF_ hM_
  refine hNor _ _ (bodyPost_0 rfl  ?_ F_ hF_ hM_)
  exact ⟨_, _, rfl, H10⟩
theorem WCounted_calls (S : List Nat) (p : Nat) (A : Option Addr) (n c : Nat) (bs : List UInt8) (B : Option Addr) (m d : Nat) (ys : List UInt8) (w : World) (h0 : Hp w S [.blk p [.slice A n c] 114, .row A n c 5 1 (by8 bs)] w) (hn : n ≤ 800000) (hx : RdO w S B (by8 ys)) (hm : m = ys.length) (hmb : m ≤ 100000) : Calls Try.prog 65 #[pt p 0, .slice B m d] w fun e w' => ∃ A c, e = .returned (.tuple #[]) ∧ Hp w S [.blk p [.slice A (n + (cntSz m + m)) c] 114, .row A (n + (cntSz m + m)) c 5 1 (by8 (bs ++ (cnt m ++ ys)))] w' := by
  refine calls_G (args := [pt p 0, .slice B m d]) Try.func65 rfl Try.ntmps65 rfl ?_
  intro Q0 hRet hNor hPan
  have H := h0
  have H : Hp w S [.blk p [.slice A n c] 114, .row A n c 5 1 (by8 bs)] w := H
  refine G.seqK fun K1 hK2 => ?_
  refine G.region ?_
  refine GL.run (j := 4) 4 [0, 1, 4, 7] [(0, pt p 0), (1, .slice B m d), (4, pt p 0), (7, .int .u64 (IntKind.u64.wrap (m : Int)))] (by kernel_rfl) rfl ?_
  have e3 : (IntKind.u64.wrap (m : Int)) = (m : Int) := in_u64 (by omega)
  refine GL.eq (M' := [(0, pt p 0), (1, .slice B m d), (4, pt p 0), (7, .int .u64 (m : Int))]) (by rw [e3]) ?_
  clear e3
  have hcA4 := cntSz_le m
  refine GL.call (j := 5) (WCount_calls (ids [.blk p [.slice A n c] 114, .row A n c 5 1 (by8 bs)]) p A n c bs m w (Hp.startL (A := [.blk p [.slice A n c] 114, .row A n c 5 1 (by8 bs)]) (B := []) H) (by omega)) (by kernel_rfl) rfl (fun e_ w6 hR => ?_)
  obtain ⟨A4, c5, rfl, H8⟩ := hR
  have H7 : Hp w S [.blk p [.slice A4 (n + cntSz m) c5] 114, .row A4 (n + cntSz m) c5 5 1 (by8 (bs ++ cnt m))] w6 := Hp.callL (A := [.blk p [.slice A n c] 114, .row A n c 5 1 (by8 bs)]) (B := []) H H8
  refine ⟨_, rfl, [0, 1], [(0, pt p 0), (1, .slice B m d)], by kernel_rfl, ?_⟩
  refine GL.k rfl hK2 (fun _ _ h => h) ?_
  refine G.region ?_
  refine GL.run (j := 2) 2 [9, 10] [(9, pt p 0), (10, .slice B m d)] (by kernel_rfl) rfl ?_
  refine GL.call (j := 3) (WRaw_calls (ids [.blk p [.slice A4 (n + cntSz m) c5] 114, .row A4 (n + cntSz m) c5 5 1 (by8 (bs ++ cnt m))]) p A4 (n + cntSz m) c5 (bs ++ cnt m) B m d ys w6 (Hp.startL (A := [.blk p [.slice A4 (n + cntSz m) c5] 114, .row A4 (n + cntSz m) c5 5 1 (by8 (bs ++ cnt m))]) (B := []) H7) (by omega) (RdO.mid (A' := [.blk p [.slice A4 (n + cntSz m) c5] 114, .row A4 (n + cntSz m) c5 5 1 (by8 (bs ++ cnt m))]) (B' := []) hx H7) (by omega) (by omega)) (by kernel_rfl) rfl (fun e_ w11 hR => ?_)
  obtain ⟨A9, c10, rfl, H13⟩ := hR
  have H12 : Hp w S [.blk p [.slice A9 ((n + cntSz m) + m) c10] 114, .row A9 ((n + cntSz m) + m) c10 5 1 (by8 ((bs ++ cnt m) ++ ys))] w11 := Hp.callL (A := [.blk p [.slice A4 (n + cntSz m) c5] 114, .row A4 (n + cntSz m) c5 5 1 (by8 (bs ++ cnt m))]) (B := []) H7 H13
  refine ⟨_, rfl, [], [], by kernel_rfl, ?_⟩
  refine GL.done rfl ?_
  intro F_ hF_ hM_
  refine hNor _ _ (bodyPost_0 rfl  ?_ F_ hF_ hM_)
  have HF := H12
  rw [List.append_assoc, Nat.add_assoc] at HF
  exact ⟨_, _, rfl, HF⟩
end Go.Proofs.Ytcedmbdahbdmaaa
set_option maxRecDepth 100000
namespace Go.Proofs.Ytcedmbdahbdmaaa
open Go.RowKit
def txK (ins : List TIn) (outs : List TOut) : Nat := if ins.length = 0 ∨ outs.length = 0 then 16 else if 64 < ins.length ∨ 64 < outs.length ∨ (∃ x ∈ ins, 520 < x.kb.length) ∨ (∃ x ∈ outs, 520 < x.lb.length) then 3 else 0
theorem txK_zero {ins : List TIn} {outs : List TOut} : txK ins outs = 0 ↔ (ins.length ≠ 0 ∧ outs.length ≠ 0) ∧ ins.length ≤ 64 ∧ outs.length ≤ 64 ∧ (∀ x ∈ ins, x.kb.length ≤ 520) ∧ (∀ x ∈ outs, x.lb.length ≤ 520) := by
  unfold txK
  constructor
  · intro h
    split at h
    · cases h
    · split at h
      · cases h
      · rename_i h1 h2
        refine ⟨by omega, by omega, by omega, fun x hx => ?_, fun x hx => ?_⟩
        · exact Nat.not_lt.1 fun h => h2 (.inr (.inr (.inl ⟨x, hx, h⟩)))
        · exact Nat.not_lt.1 fun h => h2 (.inr (.inr (.inr ⟨x, hx, h⟩)))
  · rintro ⟨h1, h2, h3, h4, h5⟩
    rw [if_neg (by omega), if_neg]
    rintro (h | h | ⟨x, hx, h⟩ | ⟨x, hx, h⟩)
    · omega
    · omega
    · have := h4 x hx
      omega
    · have := h5 x hx
      omega
theorem check_calls (v : Nat) (ins : List TIn) (A : Option Addr) (ca : Nat) (outs : List TOut) (B : Option Addr) (cb : Nat) (lt : Nat) (w : World) (hv : v < 4294967296) (hlt : lt < 4294967296) (hIns : RdS w A (insC ins)) (hI : ∀ x ∈ ins, x.Ok w []) (hOuts : RdS w B (outsC outs)) (hO : ∀ x ∈ outs, x.Ok w []) (hni : ins.length ≤ maxLen) (hno : outs.length ≤ maxLen) : Calls Try.prog 47 #[.agg #[.int .u32 (v : Int), .slice A ins.length ca, .slice B outs.length cb, .int .u32 (lt : Int)]] w fun e w' => e = .returned (.int .i64 ((txK ins outs : Nat) : Int)) ∧ Hp w [] [] w' := by
  have hni_ : ins.length ≤ 9223372036854775807 := hni
  have hno_ : outs.length ≤ 9223372036854775807 := hno
  refine calls_G (args := [.agg #[.int .u32 (v : Int), .slice A ins.length ca, .slice B outs.length cb, .int .u32 (lt : Int)]]) Try.func47 rfl Try.ntmps47 rfl ?_
  intro Q0 hRet hNor hPan
  have H := Hp.start w
  have H : Hp w [] [] w := H
  refine G.seqK fun K1 hK2 => ?_
  refine G.region ?_
  obtain ⟨p3, w4, r5, H6⟩ := H.box (P := Try.prog) 26 [.int .u32 (v : Int), .slice A ins.length ca, .slice B outs.length cb, .int .u32 (lt : Int)] (.agg #[.int .u32 (v : Int), .slice A ins.length ca, .slice B outs.length cb, .int .u32 (lt : Int)]) rfl
  have H6 : Hp w [] [.blk p3 [.int .u32 (v : Int), .slice A ins.length ca, .slice B outs.length cb, .int .u32 (lt : Int)] 26] w4 := H6
  refine GL.sem (j := 1) (r5) [1] [(1, pt p3 0)] (by kernel_rfl) (by kernel_rfl) rfl ?_
  refine GL.run (j := 2) 1 [1] [(1, pt p3 0)] (by kernel_rfl) rfl ?_
  refine GL.k rfl hK2 (fun _ _ h => h) ?_
  refine G.seqK fun K7 hK8 => ?_
  refine G.seqK fun K9 hK10 => ?_
  refine G.region ?_
  refine GL.run (j := 1) 1 [1, 7] [(1, pt p3 0), (7, pt p3 1)] (by kernel_rfl) rfl ?_
  refine GL.sem (j := 2) (H6.ld (o := 1) (ty := 23) (v := .slice A ins.length ca) 0 rfl (by kernel_rfl) rfl) [1, 8] [(1, pt p3 0), (8, .slice A ins.length ca)] (by kernel_rfl) (by kernel_rfl) rfl ?_
  refine GL.run (j := 5) 3 [1, 11] [(1, pt p3 0), (11, .bool ((ins.length : Int) == 0))] (by kernel_rfl) rfl ?_
  cases hb11 : ((ins.length : Int) == 0)
  · skip
    have hb11f := ne_of_beq_false hb11
    refine GL.run (j := 6) 1 [1, 11, 12] [(1, pt p3 0), (11, .bool false), (12, pt p3 2)] (by kernel_rfl) rfl ?_
    refine GL.sem (j := 7) (H6.ld (o := 2) (ty := 24) (v := .slice B outs.length cb) 0 rfl (by kernel_rfl) rfl) [1, 11, 13] [(1, pt p3 0), (11, .bool false), (13, .slice B outs.length cb)] (by kernel_rfl) (by kernel_rfl) rfl ?_
    refine GL.run (j := 10) 3 [1, 16] [(1, pt p3 0), (16, .bool ((outs.length : Int) == 0))] (by kernel_rfl) rfl ?_
    refine GL.k rfl hK10 (fun _ _ h => h) ?_
    cases hb12 : ((outs.length : Int) == 0)
    · skip
      have hb12f := ne_of_beq_false hb12
      refine G.no rfl ?_
      refine G.skipK hK8 (fun _ _ h => h) ?_
      refine G.seqK fun K13 hK14 => ?_
      refine G.seqK fun K15 hK16 => ?_
      refine G.region ?_
      refine GL.run (j := 1) 1 [1, 17] [(1, pt p3 0), (17, pt p3 1)] (by kernel_rfl) rfl ?_
      refine GL.sem (j := 2) (H6.ld (o := 1) (ty := 23) (v := .slice A ins.length ca) 0 rfl (by kernel_rfl) rfl) [1, 18] [(1, pt p3 0), (18, .slice A ins.length ca)] (by kernel_rfl) (by kernel_rfl) rfl ?_
      refine GL.run (j := 5) 3 [1, 21] [(1, pt p3 0), (21, .bool (decide (64 < (ins.length : Int))))] (by kernel_rfl) rfl ?_
      cases hb17 : (decide (64 < (ins.length : Int)))
      · skip
        have hb17f := of_decide_eq_false hb17
        refine GL.run (j := 6) 1 [1, 21, 22] [(1, pt p3 0), (21, .bool false), (22, pt p3 2)] (by kernel_rfl) rfl ?_
        refine GL.sem (j := 7) (H6.ld (o := 2) (ty := 24) (v := .slice B outs.length cb) 0 rfl (by kernel_rfl) rfl) [1, 21, 23] [(1, pt p3 0), (21, .bool false), (23, .slice B outs.length cb)] (by kernel_rfl) (by kernel_rfl) rfl ?_
        refine GL.run (j := 10) 3 [1, 26] [(1, pt p3 0), (26, .bool (decide (64 < (outs.length : Int))))] (by kernel_rfl) rfl ?_
        refine GL.k rfl hK16 (fun _ _ h => h) ?_
        cases hb18 : (decide (64 < (outs.length : Int)))
        · skip
          have hb18f := of_decide_eq_false hb18
          refine G.no rfl ?_
          refine G.skipK hK14 (fun _ _ h => h) ?_
          refine G.seqK fun K19 hK20 => ?_
          refine G.seqK fun K21 hK22 => ?_
          refine G.region ?_
          refine GL.run (j := 1) 1 [1, 27] [(1, pt p3 0), (27, pt p3 1)] (by kernel_rfl) rfl ?_
          refine GL.sem (j := 2) (H6.ld (o := 1) (ty := 23) (v := .slice A ins.length ca) 0 rfl (by kernel_rfl) rfl) [1, 28] [(1, pt p3 0), (28, .slice A ins.length ca)] (by kernel_rfl) (by kernel_rfl) rfl ?_
          refine GL.run (j := 4) 2 [1, 28, 29, 30] [(1, pt p3 0), (28, .slice A ins.length ca), (29, .int .i64 (ins.length : Int)), (30, .int .i64 0)] (by kernel_rfl) rfl ?_
          refine GL.k rfl hK22 (fun _ _ h => h) ?_
          refine G.block ?_
          refine G.fit [1, 28, 29, 30] (M' := [(1, pt p3 0), (28, .slice A ins.length ca), (29, .int .i64 (ins.length : Int)), (30, .int .i64 0)]) (by kernel_rfl) ?_
          refine G.loop (X := Nat) (fun i => [(1, pt p3 0), (28, .slice A ins.length ca), (29, .int .i64 (ins.length : Int)), (30, .int .i64 (i : Int))]) (fun i w_ => (i ≤ ins.length ∧ (∀ y ∈ ins.take i, y.kb.length ≤ 520)) ∧ Hp w [] [.blk p3 [.int .u32 (v : Int), .slice A ins.length ca, .slice B outs.length cb, .int .u32 (lt : Int)] 26] w_) (fun i => ins.length - i) 0 [1, 28, 29, 30] (by kernel_rfl) ⟨⟨Nat.zero_le _, fun y hy => by simp at hy⟩, H6⟩ ?_
          rintro i w23 ⟨hi24, H25⟩
          refine G.eq (M' := [(1, pt p3 0), (28, .slice A ins.length ca), (29, .int .i64 (ins.length : Int)), (30, .int .i64 (i : Int))]) rfl ?_
          have H25 : Hp w [] [.blk p3 [.int .u32 (v : Int), .slice A ins.length ca, .slice B outs.length cb, .int .u32 (lt : Int)] 26] w23 := H25
          obtain ⟨hil, hia⟩ := hi24
          refine G.seqK fun K26 hK27 => ?_
          refine G.region ?_
          refine GL.run (j := 1) 1 [1, 28, 29, 30, 31] [(1, pt p3 0), (28, .slice A ins.length ca), (29, .int .i64 (ins.length : Int)), (30, .int .i64 (i : Int)), (31, .bool (decide ((i : Int) < (ins.length : Int))))] (by kernel_rfl) rfl ?_
          refine GL.k rfl hK27 (fun _ _ h => h) ?_
          refine G.seqK fun K28 hK29 => ?_
          cases hb30 : (decide ((i : Int) < (ins.length : Int)))
          · skip
            have hb30f := of_decide_eq_false hb30
            refine G.no rfl ?_
            refine G.exitK hK20 (fun _ _ h => h) ?_
            refine G.seqK fun K31 hK32 => ?_
            refine G.seqK fun K33 hK34 => ?_
            refine G.region ?_
            refine GL.run (j := 1) 1 [39] [(39, pt p3 2)] (by kernel_rfl) rfl ?_
            refine GL.sem (j := 2) (H25.ld (o := 2) (ty := 24) (v := .slice B outs.length cb) 0 rfl (by kernel_rfl) rfl) [40] [(40, .slice B outs.length cb)] (by kernel_rfl) (by kernel_rfl) rfl ?_
            refine GL.run (j := 4) 2 [40, 41, 42] [(40, .slice B outs.length cb), (41, .int .i64 (outs.length : Int)), (42, .int .i64 0)] (by kernel_rfl) rfl ?_
            refine GL.k rfl hK34 (fun _ _ h => h) ?_
            refine G.block ?_
            have hall1 := take_done hia (by omega)
            refine G.fit [40, 41, 42] (M' := [(40, .slice B outs.length cb), (41, .int .i64 (outs.length : Int)), (42, .int .i64 0)]) (by kernel_rfl) ?_
            refine G.loop (X := Nat) (fun j => [(40, .slice B outs.length cb), (41, .int .i64 (outs.length : Int)), (42, .int .i64 (j : Int))]) (fun j w_ => (j ≤ outs.length ∧ (∀ y ∈ outs.take j, y.lb.length ≤ 520)) ∧ Hp w [] [.blk p3 [.int .u32 (v : Int), .slice A ins.length ca, .slice B outs.length cb, .int .u32 (lt : Int)] 26] w_) (fun j => outs.length - j) 0 [40, 41, 42] (by kernel_rfl) ⟨⟨Nat.zero_le _, fun y hy => by simp at hy⟩, H25⟩ ?_
            rintro j w35 ⟨hi36, H37⟩
            refine G.eq (M' := [(40, .slice B outs.length cb), (41, .int .i64 (outs.length : Int)), (42, .int .i64 (j : Int))]) rfl ?_
            have H37 : Hp w [] [.blk p3 [.int .u32 (v : Int), .slice A ins.length ca, .slice B outs.length cb, .int .u32 (lt : Int)] 26] w35 := H37
            obtain ⟨hjl, hja⟩ := hi36
            refine G.seqK fun K38 hK39 => ?_
            refine G.region ?_
            refine GL.run (j := 1) 1 [40, 41, 42, 43] [(40, .slice B outs.length cb), (41, .int .i64 (outs.length : Int)), (42, .int .i64 (j : Int)), (43, .bool (decide ((j : Int) < (outs.length : Int))))] (by kernel_rfl) rfl ?_
            refine GL.k rfl hK39 (fun _ _ h => h) ?_
            refine G.seqK fun K40 hK41 => ?_
            cases hb42 : (decide ((j : Int) < (outs.length : Int)))
            · skip
              have hb42f := of_decide_eq_false hb42
              refine G.no rfl ?_
              refine G.exitK hK32 (fun _ _ h => h) ?_
              refine G.seqK fun K43 hK44 => ?_
              refine G.region ?_
              refine GL.run (j := 1) 1 [2] [(2, .int .i64 0)] (by kernel_rfl) rfl ?_
              refine GL.k rfl hK44 (fun _ _ h => h) ?_
              refine G.ret ?_
              intro F_ hF_ hM_
              refine hRet _ _ (bodyPost_1 rfl (RV.tmp rfl) ?_ F_ hF_ hM_)
              have e0 : txK ins outs = 0 := txK_zero.2 ⟨by omega, by omega, by omega, hall1, take_done hja (by omega)⟩
              rw [e0]
              exact ⟨rfl, H37.sub (List.nil_sublist _)⟩
            · skip
              have hb42f := of_decide_eq_true hb42
              refine G.yes rfl ?_
              refine G.skipK hK41 (fun _ _ h => h) ?_
              refine G.seqK fun K45 hK46 => ?_
              refine G.block ?_
              refine G.seqK fun K47 hK48 => ?_
              refine G.region ?_
              obtain ⟨x49, hx50⟩ : ∃ x, outs[j]? = some x := ⟨_, List.getElem?_eq_getElem (by omega)⟩
              have hok51 := hO x49 (List.mem_of_getElem? hx50)
              refine GL.sem (j := 1) (run_idxRdN (P := Try.prog) (k := .i64) (t := 24) (sz := 2) (A := B) (len := outs.length) (cap := cb) (j := j) (by kernel_rfl) rfl (hOuts.hp H37) (outsC_length _) (by decide) (by omega)) [40, 41, 42, 44] [(40, .slice B outs.length cb), (41, .int .i64 (outs.length : Int)), (42, .int .i64 (j : Int)), (44, .pointer (Option.map (fun x => Addr.add x (j * 2)) B))] (by kernel_rfl) (by kernel_rfl) rfl ?_
              refine GL.sem (j := 2) (run_ldRdA (P := Try.prog) (ty := 40) (A := B) (o := (j * 2)) (m := 2) (sub := [.int .u64 (x49.pv : Int), .slice x49.B x49.lb.length x49.lc]) (by kernel_rfl) (hOuts.hp H37) (outsC_cut hx50) (rfl) (by decide)) [40, 41, 42, 45] [(40, .slice B outs.length cb), (41, .int .i64 (outs.length : Int)), (42, .int .i64 (j : Int)), (45, .agg #[.int .u64 (x49.pv : Int), .slice x49.B x49.lb.length x49.lc])] (by kernel_rfl) (by kernel_rfl) rfl ?_
              obtain ⟨p52, w53, r54, H55⟩ := H37.alloc (P := Try.prog) 40 [.int .u64 0, .slice none 0 0] (by kernel_rfl)
              have H55 : Hp w [] [.blk p3 [.int .u32 (v : Int), .slice A ins.length ca, .slice B outs.length cb, .int .u32 (lt : Int)] 26, .blk p52 [.int .u64 0, .slice none 0 0] 40] w53 := H55
              refine GL.sem (j := 3) (r54) [6, 40, 41, 42, 45] [(6, pt p52 0), (40, .slice B outs.length cb), (41, .int .i64 (outs.length : Int)), (42, .int .i64 (j : Int)), (45, .agg #[.int .u64 (x49.pv : Int), .slice x49.B x49.lb.length x49.lc])] (by kernel_rfl) (by kernel_rfl) rfl ?_
              obtain ⟨w56, r57, H58⟩ := H55.stA (P := Try.prog) (o := 0) (vs := [.int .u64 (x49.pv : Int), .slice x49.B x49.lb.length x49.lc]) (ty := 40) (m := 2) 1 rfl (by kernel_rfl) rfl (by simp) (by simp [Value.oneCell'])
              have H58 : Hp w [] [.blk p3 [.int .u32 (v : Int), .slice A ins.length ca, .slice B outs.length cb, .int .u32 (lt : Int)] 26, .blk p52 [.int .u64 (x49.pv : Int), .slice x49.B x49.lb.length x49.lc] 40] w56 := H58
              refine GL.semU (j := 4) r57 [6, 40, 41, 42] [(6, pt p52 0), (40, .slice B outs.length cb), (41, .int .i64 (outs.length : Int)), (42, .int .i64 (j : Int))] (by kernel_rfl) rfl rfl rfl ?_
              refine GL.k rfl hK48 (fun _ _ h => h) ?_
              refine G.seqK fun K59 hK60 => ?_
              refine G.region ?_
              refine GL.run (j := 1) 1 [40, 41, 42, 46] [(40, .slice B outs.length cb), (41, .int .i64 (outs.length : Int)), (42, .int .i64 (j : Int)), (46, pt p52 1)] (by kernel_rfl) rfl ?_
              refine GL.sem (j := 2) (H58.ld (o := 1) (ty := 38) (v := .slice x49.B x49.lb.length x49.lc) 1 rfl (by kernel_rfl) rfl) [40, 41, 42, 47] [(40, .slice B outs.length cb), (41, .int .i64 (outs.length : Int)), (42, .int .i64 (j : Int)), (47, .slice x49.B x49.lb.length x49.lc)] (by kernel_rfl) (by kernel_rfl) rfl ?_
              refine GL.run (j := 4) 2 [40, 41, 42, 49] [(40, .slice B outs.length cb), (41, .int .i64 (outs.length : Int)), (42, .int .i64 (j : Int)), (49, .bool (decide (520 < (x49.lb.length : Int))))] (by kernel_rfl) rfl ?_
              refine GL.k rfl hK60 (fun _ _ h => h) ?_
              cases hb61 : (decide (520 < (x49.lb.length : Int)))
              · skip
                have hb61f := of_decide_eq_false hb61
                refine G.no rfl ?_
                refine G.skipK hK46 (fun _ _ h => h) ?_
                refine G.region ?_
                refine GL.run (j := 2) 2 [40, 41, 42] [(40, .slice B outs.length cb), (41, .int .i64 (outs.length : Int)), (42, .int .i64 (IntKind.i64.wrap ((j : Int) + 1)))] (by kernel_rfl) rfl ?_
                have e62 : (IntKind.i64.wrap ((j : Int) + 1)) = ((j + 1 : Nat) : Int) := by rw [in_i64 (by omega)]; omega
                refine GL.eq (M' := [(40, .slice B outs.length cb), (41, .int .i64 (outs.length : Int)), (42, .int .i64 ((j + 1 : Nat) : Int))]) (by rw [e62]) ?_
                clear e62
                have H63 : Hp w [] [.blk p3 [.int .u32 (v : Int), .slice A ins.length ca, .slice B outs.length cb, .int .u32 (lt : Int)] 26] w56 := H58.sub (List.Sublist.cons_cons _ (List.Sublist.cons _ (List.Sublist.slnil)))
                refine GL.fit (ts := [40, 41, 42]) (M' := [(40, .slice B outs.length cb), (41, .int .i64 (outs.length : Int)), (42, .int .i64 ((j + 1 : Nat) : Int))]) (by kernel_rfl) ?_
                refine GL.eq (M' := [(40, .slice B outs.length cb), (41, .int .i64 (outs.length : Int)), (42, .int .i64 (((j + 1) : Nat) : Int))]) (by rfl) ?_
                exact GL.again (j + 1) [40, 41, 42] rfl (by kernel_rfl) (by show outs.length - (j + 1) < outs.length - j; omega) ⟨⟨by omega, take_all hja hx50 (by omega)⟩, H63⟩
              · skip
                have hb61f := of_decide_eq_true hb61
                refine G.yes rfl ?_
                refine G.seqK fun K64 hK65 => ?_
                refine G.region ?_
                refine GL.run (j := 1) 1 [2] [(2, .int .i64 3)] (by kernel_rfl) rfl ?_
                refine GL.k rfl hK65 (fun _ _ h => h) ?_
                refine G.ret ?_
                intro F_ hF_ hM_
                refine hRet _ _ (bodyPost_1 rfl (RV.tmp rfl) ?_ F_ hF_ hM_)
                have e0 : txK ins outs = 3 := by rw [txK, if_neg (by omega), if_pos (.inr (.inr (.inr ⟨x49, List.mem_of_getElem? hx50, by omega⟩)))]
                rw [e0]
                exact ⟨rfl, H58.sub (List.nil_sublist _)⟩
          · skip
            have hb30f := of_decide_eq_true hb30
            refine G.yes rfl ?_
            refine G.skipK hK29 (fun _ _ h => h) ?_
            refine G.seqK fun K66 hK67 => ?_
            refine G.block ?_
            refine G.seqK fun K68 hK69 => ?_
            refine G.region ?_
            obtain ⟨x70, hx71⟩ : ∃ x, ins[i]? = some x := ⟨_, List.getElem?_eq_getElem (by omega)⟩
            have hok72 := hI x70 (List.mem_of_getElem? hx71)
            refine GL.sem (j := 1) (run_idxRdN (P := Try.prog) (k := .i64) (t := 23) (sz := 35) (A := A) (len := ins.length) (cap := ca) (j := i) (by kernel_rfl) rfl (hIns.hp H25) (insC_length (fun x_ h_ => (hI x_ h_).1)) (by decide) (by omega)) [1, 28, 29, 30, 32] [(1, pt p3 0), (28, .slice A ins.length ca), (29, .int .i64 (ins.length : Int)), (30, .int .i64 (i : Int)), (32, .pointer (Option.map (fun x => Addr.add x (i * 35)) A))] (by kernel_rfl) (by kernel_rfl) rfl ?_
            refine GL.sem (j := 2) (run_ldRdA (P := Try.prog) (ty := 53) (A := A) (o := (i * 35)) (m := 35) (sub := x70.cells) (by kernel_rfl) (hIns.hp H25) (insC_cut (fun x_ h_ => (hI x_ h_).1) hx71) (TIn.cells_length hok72.1) (by decide)) [1, 28, 29, 30, 33] [(1, pt p3 0), (28, .slice A ins.length ca), (29, .int .i64 (ins.length : Int)), (30, .int .i64 (i : Int)), (33, .agg (x70.cells).toArray)] (by kernel_rfl) (by kernel_rfl) rfl ?_
            obtain ⟨p73, w74, r75, H76⟩ := H25.alloc (P := Try.prog) 53 (TIn.nil.cells) (by kernel_rfl)
            have H76 : Hp w [] [.blk p3 [.int .u32 (v : Int), .slice A ins.length ca, .slice B outs.length cb, .int .u32 (lt : Int)] 26, .blk p73 (TIn.nil.cells) 53] w74 := H76
            refine GL.sem (j := 3) (r75) [1, 4, 28, 29, 30, 33] [(1, pt p3 0), (4, pt p73 0), (28, .slice A ins.length ca), (29, .int .i64 (ins.length : Int)), (30, .int .i64 (i : Int)), (33, .agg (x70.cells).toArray)] (by kernel_rfl) (by kernel_rfl) rfl ?_
            obtain ⟨w77, r78, H79⟩ := H76.stA (P := Try.prog) (o := 0) (vs := x70.cells) (ty := 53) (m := 35) 1 rfl (by kernel_rfl) (TIn.cells_length hok72.1) (by rw [Nat.zero_add, TIn.cells_length rfl]; exact Nat.le_refl _) TIn.cells_one
            rw [tx_whole (TIn.cells_length rfl)] at H79
            have H79 : Hp w [] [.blk p3 [.int .u32 (v : Int), .slice A ins.length ca, .slice B outs.length cb, .int .u32 (lt : Int)] 26, .blk p73 (x70.cells) 53] w77 := H79
            refine GL.semU (j := 4) r78 [1, 4, 28, 29, 30] [(1, pt p3 0), (4, pt p73 0), (28, .slice A ins.length ca), (29, .int .i64 (ins.length : Int)), (30, .int .i64 (i : Int))] (by kernel_rfl) rfl rfl rfl ?_
            refine GL.k rfl hK69 (fun _ _ h => h) ?_
            refine G.seqK fun K80 hK81 => ?_
            refine G.region ?_
            refine GL.run (j := 1) 1 [1, 28, 29, 30, 34] [(1, pt p3 0), (28, .slice A ins.length ca), (29, .int .i64 (ins.length : Int)), (30, .int .i64 (i : Int)), (34, pt p73 33)] (by kernel_rfl) rfl ?_
            refine GL.sem (j := 2) (H79.ld (o := 33) (ty := 38) (v := .slice x70.B x70.kb.length x70.kc) 1 rfl (by kernel_rfl) (TIn.cells_key hok72.1)) [1, 28, 29, 30, 35] [(1, pt p3 0), (28, .slice A ins.length ca), (29, .int .i64 (ins.length : Int)), (30, .int .i64 (i : Int)), (35, .slice x70.B x70.kb.length x70.kc)] (by kernel_rfl) (by kernel_rfl) rfl ?_
            refine GL.run (j := 4) 2 [1, 28, 29, 30, 37] [(1, pt p3 0), (28, .slice A ins.length ca), (29, .int .i64 (ins.length : Int)), (30, .int .i64 (i : Int)), (37, .bool (decide (520 < (x70.kb.length : Int))))] (by kernel_rfl) rfl ?_
            refine GL.k rfl hK81 (fun _ _ h => h) ?_
            cases hb82 : (decide (520 < (x70.kb.length : Int)))
            · skip
              have hb82f := of_decide_eq_false hb82
              refine G.no rfl ?_
              refine G.skipK hK67 (fun _ _ h => h) ?_
              refine G.region ?_
              refine GL.run (j := 2) 2 [1, 28, 29, 30] [(1, pt p3 0), (28, .slice A ins.length ca), (29, .int .i64 (ins.length : Int)), (30, .int .i64 (IntKind.i64.wrap ((i : Int) + 1)))] (by kernel_rfl) rfl ?_
              have e83 : (IntKind.i64.wrap ((i : Int) + 1)) = ((i + 1 : Nat) : Int) := by rw [in_i64 (by omega)]; omega
              refine GL.eq (M' := [(1, pt p3 0), (28, .slice A ins.length ca), (29, .int .i64 (ins.length : Int)), (30, .int .i64 ((i + 1 : Nat) : Int))]) (by rw [e83]) ?_
              clear e83
              have H84 : Hp w [] [.blk p3 [.int .u32 (v : Int), .slice A ins.length ca, .slice B outs.length cb, .int .u32 (lt : Int)] 26] w77 := H79.sub (List.Sublist.cons_cons _ (List.Sublist.cons _ (List.Sublist.slnil)))
              refine GL.fit (ts := [1, 28, 29, 30]) (M' := [(1, pt p3 0), (28, .slice A ins.length ca), (29, .int .i64 (ins.length : Int)), (30, .int .i64 ((i + 1 : Nat) : Int))]) (by kernel_rfl) ?_
              refine GL.eq (M' := [(1, pt p3 0), (28, .slice A ins.length ca), (29, .int .i64 (ins.length : Int)), (30, .int .i64 (((i + 1) : Nat) : Int))]) (by rfl) ?_
              exact GL.again (i + 1) [1, 28, 29, 30] rfl (by kernel_rfl) (by show ins.length - (i + 1) < ins.length - i; omega) ⟨⟨by omega, take_all hia hx71 (by omega)⟩, H84⟩
            · skip
              have hb82f := of_decide_eq_true hb82
              refine G.yes rfl ?_
              refine G.seqK fun K85 hK86 => ?_
              refine G.region ?_
              refine GL.run (j := 1) 1 [2] [(2, .int .i64 3)] (by kernel_rfl) rfl ?_
              refine GL.k rfl hK86 (fun _ _ h => h) ?_
              refine G.ret ?_
              intro F_ hF_ hM_
              refine hRet _ _ (bodyPost_1 rfl (RV.tmp rfl) ?_ F_ hF_ hM_)
              have e0 : txK ins outs = 3 := by rw [txK, if_neg (by omega), if_pos (.inr (.inr (.inl ⟨x70, List.mem_of_getElem? hx71, by omega⟩)))]
              rw [e0]
              exact ⟨rfl, H79.sub (List.nil_sublist _)⟩
        · skip
          have hb18f := of_decide_eq_true hb18
          refine G.yes rfl ?_
          refine G.seqK fun K87 hK88 => ?_
          refine G.region ?_
          refine GL.run (j := 1) 1 [2] [(2, .int .i64 3)] (by kernel_rfl) rfl ?_
          refine GL.k rfl hK88 (fun _ _ h => h) ?_
          refine G.ret ?_
          intro F_ hF_ hM_
          refine hRet _ _ (bodyPost_1 rfl (RV.tmp rfl) ?_ F_ hF_ hM_)
          have e0 : txK ins outs = 3 := by rw [txK, if_neg (by omega), if_pos (by first | exact .inl (by omega) | exact .inr (.inl (by omega)))]
          rw [e0]
          exact ⟨rfl, H6.sub (List.nil_sublist _)⟩
      · skip
        have hb17f := of_decide_eq_true hb17
        refine GL.run (j := 10) 5 [1, 26] [(1, pt p3 0), (26, .bool true)] (by kernel_rfl) rfl ?_
        refine GL.k rfl hK16 (fun _ _ h => h) ?_
        refine G.yes rfl ?_
        refine G.seqK fun K89 hK90 => ?_
        refine G.region ?_
        refine GL.run (j := 1) 1 [2] [(2, .int .i64 3)] (by kernel_rfl) rfl ?_
        refine GL.k rfl hK90 (fun _ _ h => h) ?_
        refine G.ret ?_
        intro F_ hF_ hM_
        refine hRet _ _ (bodyPost_1 rfl (RV.tmp rfl) ?_ F_ hF_ hM_)
        have e0 : txK ins outs = 3 := by rw [txK, if_neg (by omega), if_pos (by first | exact .inl (by omega) | exact .inr (.inl (by omega)))]
        rw [e0]
        exact ⟨rfl, H6.sub (List.nil_sublist _)⟩
    · skip
      have hb12f := eq_of_beq hb12
      refine G.yes rfl ?_
      refine G.seqK fun K91 hK92 => ?_
      refine G.region ?_
      refine GL.run (j := 1) 1 [2] [(2, .int .i64 16)] (by kernel_rfl) rfl ?_
      refine GL.k rfl hK92 (fun _ _ h => h) ?_
      refine G.ret ?_
      intro F_ hF_ hM_
      refine hRet _ _ (bodyPost_1 rfl (RV.tmp rfl) ?_ F_ hF_ hM_)
      have e0 : txK ins outs = 16 := if_pos (by omega)
      rw [e0]
      exact ⟨rfl, H6.sub (List.nil_sublist _)⟩
  · skip
    have hb11f := eq_of_beq hb11
    refine GL.run (j := 10) 5 [1, 16] [(1, pt p3 0), (16, .bool true)] (by kernel_rfl) rfl ?_
    refine GL.k rfl hK10 (fun _ _ h => h) ?_
    refine G.yes rfl ?_
    refine G.seqK fun K93 hK94 => ?_
    refine G.region ?_
    refine GL.run (j := 1) 1 [2] [(2, .int .i64 16)] (by kernel_rfl) rfl ?_
    refine GL.k rfl hK94 (fun _ _ h => h) ?_
    refine G.ret ?_
    intro F_ hF_ hM_
    refine hRet _ _ (bodyPost_1 rfl (RV.tmp rfl) ?_ F_ hF_ hM_)
    have e0 : txK ins outs = 16 := if_pos (by omega)
    rw [e0]
    exact ⟨rfl, H6.sub (List.nil_sublist _)⟩
end Go.Proofs.Ytcedmbdahbdmaaa
namespace Go.Proofs.Ytcedmbdahbdmaaa
open Go.RowKit
theorem rOK_cases (wr : Bool) (rest : List UInt8) (n : Nat) : (rOK wr rest n = true ∧ wr = false ∧ n ≤ rest.length) ∨ (rOK wr rest n = false ∧ rV wr rest n = [] ∧ rR wr rest n = []) := by
  by_cases h : wr = true ∨ rest.length < n
  · exact .inr (rOK_false h)
  · have hw : wr = false := by cases wr <;> simp_all
    subst hw
    exact .inl ⟨(rOK_true (by omega)).1, rfl, by omega⟩
end Go.Proofs.Ytcedmbdahbdmaaa
namespace Go.Proofs.Ytcedmbdahbdmaaa
open Go.RowKit
theorem u8_arg {n : Int} (h : (Lit.int .u8 n).wf = true) : ∃ b : UInt8, n = (b.toNat : Int) := by
  simp [Lit.wf, IntKind.min, IntKind.max, IntKind.signed, IntKind.bits] at h
  exact ⟨UInt8.ofNat n.toNat, by rw [u8_ofNat]; omega⟩
end Go.Proofs.Ytcedmbdahbdmaaa
namespace Go.Proofs.Ytcedmbdahbdmaaa
open Go.RowKit
section
variable {P : Program} {w0 w w' : World} {S : List Nat} {L A' B' : List Ent}
theorem RdO.blk (H : Hp w0 S (A' ++ B') w) (i : Nat) {b o : Nat} {cs : List Value} {t : TypeId} (n : Nat) {xs : List Value} (hL : B'[i]? = some (.blk b cs t)) (hx : (cs.drop o).take n = xs) : RdO w (ids A') (some ⟨b, o, none⟩) xs := by
  have hb : Blk w b cs t := H.ents _ (List.mem_append_right _ (List.mem_of_getElem? hL))
  have hnd := H.nd
  rw [ids_append] at hnd
  obtain ⟨_, _, n3⟩ := List.nodup_append.1 hnd
  intro W hs hk
  have hb' : Blk W b cs t := hb.same (hk b hb.lt (fun hin => n3 _ hin _ (ids_mem (List.mem_of_getElem? hL) (by simp [Ent.ids])) rfl))
  exact RdS.blk hb' o n hx
end
end Go.Proofs.Ytcedmbdahbdmaaa
set_option maxRecDepth 100000
namespace Go.Proofs.Ytcedmbdahbdmaaa
open Go.RowKit
theorem run_inBuild (x : TIn) (h : x.fr.length = 32) (w : World) : (Instr.build 89 #[(0, .agg (by8 x.fr).toArray), (1, .int .u64 (x.ix : Int)), (2, .int .u64 (x.sq : Int)), (3, .string (strOf x.kb))]).run Try.prog w = .ok (.agg x.rcells.toArray) w := by
  obtain ⟨f, hf⟩ := fr_fun h
  rw [TIn.rcells, hf]
  exact pev_run (by kernel_rfl) w
theorem Hp.madeIn {w0 w : World} {S : List Nat} {L : List Ent} (H : Hp w0 S L w) (x : TIn) (h : x.fr.length = 32) :
    ∃ b w', (Instr.buildSlice 61 1 #[(0, .agg x.rcells.toArray)]).run Try.prog w = .ok (.slice (some ⟨b, 0, none⟩) 1 1) w' ∧ Hp w0 S (L ++ [.blk b x.rcells 89]) w' := by
  obtain ⟨f, hf⟩ := fr_fun h
  have e : x.rcells = by8 ((List.range 32).map f) ++ [.int .u64 (x.ix : Int), .int .u64 (x.sq : Int), .string (strOf x.kb)] := by rw [TIn.rcells, hf]
  rw [e]
  generalize x.ix = ix at *
  generalize x.sq = sq at *
  generalize x.kb = kb at *
  have hs : nev Try.prog (Instr.buildSlice 61 1 #[(0, Value.agg (by8 ((List.range 32).map f) ++ ([.int .u64 (ix : Int), .int .u64 (sq : Int), .string (strOf kb)] : List Value)).toArray)]) = some (Obj.cells (by8 ((List.range 32).map f) ++ ([.int .u64 (ix : Int), .int .u64 (sq : Int), .string (strOf kb)] : List Value)).toArray 89, fun r => some ((fun b_ => Value.slice (some ⟨b_, 0, none⟩) 1 1) r)) := by kernel_rfl
  obtain ⟨b, w', h1, h2⟩ := H.made _ (fun b_ => Value.slice (some ⟨b_, 0, none⟩) 1 1) _ _ hs
  exact ⟨b, w', h1, h2⟩
theorem Ref_calls (v : Nat) (ins : List TIn) (A : Option Addr) (ca : Nat) (outs : List TOut) (B : Option Addr) (cb : Nat) (lt : Nat) (w : World) (hv : v < 4294967296) (hlt : lt < 4294967296) (hIns : RdS w A (insC ins)) (hI : ∀ x ∈ ins, x.Ok w []) (hOuts : RdS w B (outsC outs)) (hO : ∀ x ∈ outs, x.Ok w []) (hni : ins.length ≤ maxLen) (hno : outs.length ≤ maxLen) (hl1 : ins.length ≤ 1000000) (hl2 : outs.length ≤ 1000000) : Calls Try.prog 18 #[.agg #[.int .u32 (v : Int), .slice A ins.length ca, .slice B outs.length cb, .int .u32 (lt : Int)]] w fun e w' => ∃ A' c' B' d', e = .returned (.agg #[.int .u64 (v : Int), .int .u64 (lt : Int), .slice A' ins.length c', .slice B' outs.length d']) ∧ Hp w [] [.row A' ins.length c' 89 35 (insR ins), .row B' outs.length d' 91 2 (outsR outs)] w' := by
  have hni_ : ins.length ≤ 9223372036854775807 := hni
  have hno_ : outs.length ≤ 9223372036854775807 := hno
  refine calls_G (args := [.agg #[.int .u32 (v : Int), .slice A ins.length ca, .slice B outs.length cb, .int .u32 (lt : Int)]]) Try.func18 rfl Try.ntmps18 rfl ?_
  intro Q0 hRet hNor hPan
  have H := Hp.start w
  have H : Hp w [] [] w := H
  refine G.seqK fun K1 hK2 => ?_
  refine G.region ?_
  obtain ⟨p3, w4, r5, H6⟩ := H.box (P := Try.prog) 26 [.int .u32 (v : Int), .slice A ins.length ca, .slice B outs.length cb, .int .u32 (lt : Int)] (.agg #[.int .u32 (v : Int), .slice A ins.length ca, .slice B outs.length cb, .int .u32 (lt : Int)]) rfl
  have H6 : Hp w [] [.blk p3 [.int .u32 (v : Int), .slice A ins.length ca, .slice B outs.length cb, .int .u32 (lt : Int)] 26] w4 := H6
  refine GL.sem (j := 1) (r5) [1] [(1, pt p3 0)] (by kernel_rfl) (by kernel_rfl) rfl ?_
  obtain ⟨p7, w8, r9, H10⟩ := H6.alloc (P := Try.prog) 64 [.int .u64 0, .int .u64 0, .slice none 0 0, .slice none 0 0] (by kernel_rfl)
  have H10 : Hp w [] [.blk p3 [.int .u32 (v : Int), .slice A ins.length ca, .slice B outs.length cb, .int .u32 (lt : Int)] 26, .blk p7 [.int .u64 0, .int .u64 0, .slice none 0 0, .slice none 0 0] 64] w8 := H10
  refine GL.sem (j := 2) (r9) [1, 2] [(1, pt p3 0), (2, pt p7 0)] (by kernel_rfl) (by kernel_rfl) rfl ?_
  refine GL.k rfl hK2 (fun _ _ h => h) ?_
  refine G.seqK fun K11 hK12 => ?_
  refine G.region ?_
  refine GL.run (j := 1) 1 [1, 2, 8] [(1, pt p3 0), (2, pt p7 0), (8, pt p3 0)] (by kernel_rfl) rfl ?_
  refine GL.sem (j := 2) (H10.ld (o := 0) (ty := 22) (v := .int .u32 (v : Int)) 0 rfl (by kernel_rfl) rfl) [1, 2, 9] [(1, pt p3 0), (2, pt p7 0), (9, .int .u32 (v : Int))] (by kernel_rfl) (by kernel_rfl) rfl ?_
  refine GL.run (j := 4) 2 [1, 2, 10, 11] [(1, pt p3 0), (2, pt p7 0), (10, .int .u64 (IntKind.u64.wrap (v : Int))), (11, pt p3 3)] (by kernel_rfl) rfl ?_
  have e13 : (IntKind.u64.wrap (v : Int)) = (v : Int) := in_u64 (by omega)
  refine GL.eq (M' := [(1, pt p3 0), (2, pt p7 0), (10, .int .u64 (v : Int)), (11, pt p3 3)]) (by rw [e13]) ?_
  clear e13
  refine GL.sem (j := 5) (H10.ld (o := 3) (ty := 22) (v := .int .u32 (lt : Int)) 0 rfl (by kernel_rfl) rfl) [1, 2, 10, 12] [(1, pt p3 0), (2, pt p7 0), (10, .int .u64 (v : Int)), (12, .int .u32 (lt : Int))] (by kernel_rfl) (by kernel_rfl) rfl ?_
  refine GL.run (j := 7) 2 [1, 2, 14] [(1, pt p3 0), (2, pt p7 0), (14, .agg #[.int .u64 (v : Int), .int .u64 (IntKind.u64.wrap (lt : Int)), .slice none 0 0, .slice none 0 0])] (by kernel_rfl) rfl ?_
  have e14 : (IntKind.u64.wrap (lt : Int)) = (lt : Int) := in_u64 (by omega)
  refine GL.eq (M' := [(1, pt p3 0), (2, pt p7 0), (14, .agg #[.int .u64 (v : Int), .int .u64 (lt : Int), .slice none 0 0, .slice none 0 0])]) (by rw [e14]) ?_
  clear e14
  obtain ⟨p15, w16, r17, H18⟩ := H10.alloc (P := Try.prog) 64 [.int .u64 0, .int .u64 0, .slice none 0 0, .slice none 0 0] (by kernel_rfl)
  have H18 : Hp w [] [.blk p3 [.int .u32 (v : Int), .slice A ins.length ca, .slice B outs.length cb, .int .u32 (lt : Int)] 26, .blk p7 [.int .u64 0, .int .u64 0, .slice none 0 0, .slice none 0 0] 64, .blk p15 [.int .u64 0, .int .u64 0, .slice none 0 0, .slice none 0 0] 64] w16 := H18
  refine GL.sem (j := 8) (r17) [1, 2, 3, 14] [(1, pt p3 0), (2, pt p7 0), (3, pt p15 0), (14, .agg #[.int .u64 (v : Int), .int .u64 (lt : Int), .slice none 0 0, .slice none 0 0])] (by kernel_rfl) (by kernel_rfl) rfl ?_
  obtain ⟨w19, r20, H21⟩ := H18.stA (P := Try.prog) (o := 0) (vs := [.int .u64 (v : Int), .int .u64 (lt : Int), .slice none 0 0, .slice none 0 0]) (ty := 64) (m := 4) 2 rfl (by kernel_rfl) rfl (by simp) (by simp [Value.oneCell'])
  have H21 : Hp w [] [.blk p3 [.int .u32 (v : Int), .slice A ins.length ca, .slice B outs.length cb, .int .u32 (lt : Int)] 26, .blk p7 [.int .u64 0, .int .u64 0, .slice none 0 0, .slice none 0 0] 64, .blk p15 [.int .u64 (v : Int), .int .u64 (lt : Int), .slice none 0 0, .slice none 0 0] 64] w19 := H21
  refine GL.semU (j := 9) r20 [1, 2, 3] [(1, pt p3 0), (2, pt p7 0), (3, pt p15 0)] (by kernel_rfl) rfl rfl rfl ?_
  refine GL.k rfl hK12 (fun _ _ h => h) ?_
  refine G.seqK fun K22 hK23 => ?_
  refine G.seqK fun K24 hK25 => ?_
  refine G.region ?_
  refine GL.run (j := 1) 1 [1, 2, 3, 15] [(1, pt p3 0), (2, pt p7 0), (3, pt p15 0), (15, pt p3 1)] (by kernel_rfl) rfl ?_
  refine GL.sem (j := 2) (H21.ld (o := 1) (ty := 23) (v := .slice A ins.length ca) 0 rfl (by kernel_rfl) rfl) [1, 2, 3, 16] [(1, pt p3 0), (2, pt p7 0), (3, pt p15 0), (16, .slice A ins.length ca)] (by kernel_rfl) (by kernel_rfl) rfl ?_
  refine GL.run (j := 4) 2 [1, 2, 3, 16, 17, 18] [(1, pt p3 0), (2, pt p7 0), (3, pt p15 0), (16, .slice A ins.length ca), (17, .int .i64 (ins.length : Int)), (18, .int .i64 0)] (by kernel_rfl) rfl ?_
  refine GL.k rfl hK25 (fun _ _ h => h) ?_
  refine G.block ?_
  have H26 := H21.rowNil 89 35
  have H26 : Hp w [] [.blk p3 [.int .u32 (v : Int), .slice A ins.length ca, .slice B outs.length cb, .int .u32 (lt : Int)] 26, .blk p7 [.int .u64 0, .int .u64 0, .slice none 0 0, .slice none 0 0] 64, .blk p15 [.int .u64 (v : Int), .int .u64 (lt : Int), .slice none 0 0, .slice none 0 0] 64, .row none 0 0 89 35 (insR (List.take 0 ins))] w19 := H26
  refine G.fit [1, 2, 3, 16, 17, 18] (M' := [(1, pt p3 0), (2, pt p7 0), (3, pt p15 0), (16, .slice A ins.length ca), (17, .int .i64 (ins.length : Int)), (18, .int .i64 0)]) (by kernel_rfl) ?_
  refine G.loop (X := Nat × Option Addr × Nat) (fun ⟨i, A_i, c_i⟩ => [(1, pt p3 0), (2, pt p7 0), (3, pt p15 0), (16, .slice A ins.length ca), (17, .int .i64 (ins.length : Int)), (18, .int .i64 (i : Int))]) (fun ⟨i, A_i, c_i⟩ w_ => (i ≤ ins.length) ∧ Hp w [] [.blk p3 [.int .u32 (v : Int), .slice A ins.length ca, .slice B outs.length cb, .int .u32 (lt : Int)] 26, .blk p7 [.int .u64 0, .int .u64 0, .slice none 0 0, .slice none 0 0] 64, .blk p15 [.int .u64 (v : Int), .int .u64 (lt : Int), .slice A_i i c_i, .slice none 0 0] 64, .row A_i i c_i 89 35 (insR (List.take i ins))] w_) (fun ⟨i, A_i, c_i⟩ => ins.length - i) ⟨0, none, 0⟩ [1, 2, 3, 16, 17, 18] (by kernel_rfl) ⟨Nat.zero_le _, H26⟩ ?_
  rintro ⟨i, A_i, c_i⟩ w27 ⟨hi28, H29⟩
  refine G.eq (M' := [(1, pt p3 0), (2, pt p7 0), (3, pt p15 0), (16, .slice A ins.length ca), (17, .int .i64 (ins.length : Int)), (18, .int .i64 (i : Int))]) rfl ?_
  have H29 : Hp w [] [.blk p3 [.int .u32 (v : Int), .slice A ins.length ca, .slice B outs.length cb, .int .u32 (lt : Int)] 26, .blk p7 [.int .u64 0, .int .u64 0, .slice none 0 0, .slice none 0 0] 64, .blk p15 [.int .u64 (v : Int), .int .u64 (lt : Int), .slice A_i i c_i, .slice none 0 0] 64, .row A_i i c_i 89 35 (insR (List.take i ins))] w27 := H29
  have hil := hi28
  refine G.seqK fun K30 hK31 => ?_
  refine G.region ?_
  refine GL.run (j := 1) 1 [1, 2, 3, 16, 17, 18, 19] [(1, pt p3 0), (2, pt p7 0), (3, pt p15 0), (16, .slice A ins.length ca), (17, .int .i64 (ins.length : Int)), (18, .int .i64 (i : Int)), (19, .bool (decide ((i : Int) < (ins.length : Int))))] (by kernel_rfl) rfl ?_
  refine GL.k rfl hK31 (fun _ _ h => h) ?_
  refine G.seqK fun K32 hK33 => ?_
  cases hb34 : (decide ((i : Int) < (ins.length : Int)))
  · skip
    have hb34f := of_decide_eq_false hb34
    refine G.no rfl ?_
    refine G.exitK hK23 (fun _ _ h => h) ?_
    refine G.seqK fun K35 hK36 => ?_
    refine G.seqK fun K37 hK38 => ?_
    refine G.region ?_
    refine GL.run (j := 1) 1 [2, 3, 40] [(2, pt p7 0), (3, pt p15 0), (40, pt p3 2)] (by kernel_rfl) rfl ?_
    refine GL.sem (j := 2) (H29.ld (o := 2) (ty := 24) (v := .slice B outs.length cb) 0 rfl (by kernel_rfl) rfl) [2, 3, 41] [(2, pt p7 0), (3, pt p15 0), (41, .slice B outs.length cb)] (by kernel_rfl) (by kernel_rfl) rfl ?_
    refine GL.run (j := 4) 2 [2, 3, 41, 42, 43] [(2, pt p7 0), (3, pt p15 0), (41, .slice B outs.length cb), (42, .int .i64 (outs.length : Int)), (43, .int .i64 0)] (by kernel_rfl) rfl ?_
    refine GL.k rfl hK38 (fun _ _ h => h) ?_
    refine G.block ?_
    obtain rfl : i = ins.length := by omega
    have H39 : Hp w [] [.blk p3 [.int .u32 (v : Int), .slice A ins.length ca, .slice B outs.length cb, .int .u32 (lt : Int)] 26, .blk p7 [.int .u64 0, .int .u64 0, .slice none 0 0, .slice none 0 0] 64, .blk p15 [.int .u64 (v : Int), .int .u64 (lt : Int), .slice A_i ins.length c_i, .slice none 0 0] 64, .row A_i ins.length c_i 89 35 (insR ins)] w27 := (by have h_ := H29; rw [List.take_length] at h_; exact h_)
    have H40 := H39.rowNil 91 2
    have H40 : Hp w [] [.blk p3 [.int .u32 (v : Int), .slice A ins.length ca, .slice B outs.length cb, .int .u32 (lt : Int)] 26, .blk p7 [.int .u64 0, .int .u64 0, .slice none 0 0, .slice none 0 0] 64, .blk p15 [.int .u64 (v : Int), .int .u64 (lt : Int), .slice A_i ins.length c_i, .slice none 0 0] 64, .row A_i ins.length c_i 89 35 (insR ins), .row none 0 0 91 2 (outsR (List.take 0 outs))] w27 := H40
    refine G.fit [2, 3, 41, 42, 43] (M' := [(2, pt p7 0), (3, pt p15 0), (41, .slice B outs.length cb), (42, .int .i64 (outs.length : Int)), (43, .int .i64 0)]) (by kernel_rfl) ?_
    refine G.loop (X := Nat × Option Addr × Nat) (fun ⟨j, A_j, c_j⟩ => [(2, pt p7 0), (3, pt p15 0), (41, .slice B outs.length cb), (42, .int .i64 (outs.length : Int)), (43, .int .i64 (j : Int))]) (fun ⟨j, A_j, c_j⟩ w_ => (j ≤ outs.length) ∧ Hp w [] [.blk p3 [.int .u32 (v : Int), .slice A ins.length ca, .slice B outs.length cb, .int .u32 (lt : Int)] 26, .blk p7 [.int .u64 0, .int .u64 0, .slice none 0 0, .slice none 0 0] 64, .blk p15 [.int .u64 (v : Int), .int .u64 (lt : Int), .slice A_i ins.length c_i, .slice A_j j c_j] 64, .row A_i ins.length c_i 89 35 (insR ins), .row A_j j c_j 91 2 (outsR (List.take j outs))] w_) (fun ⟨j, A_j, c_j⟩ => outs.length - j) ⟨0, none, 0⟩ [2, 3, 41, 42, 43] (by kernel_rfl) ⟨Nat.zero_le _, H40⟩ ?_
    rintro ⟨j, A_j, c_j⟩ w41 ⟨hi42, H43⟩
    refine G.eq (M' := [(2, pt p7 0), (3, pt p15 0), (41, .slice B outs.length cb), (42, .int .i64 (outs.length : Int)), (43, .int .i64 (j : Int))]) rfl ?_
    have H43 : Hp w [] [.blk p3 [.int .u32 (v : Int), .slice A ins.length ca, .slice B outs.length cb, .int .u32 (lt : Int)] 26, .blk p7 [.int .u64 0, .int .u64 0, .slice none 0 0, .slice none 0 0] 64, .blk p15 [.int .u64 (v : Int), .int .u64 (lt : Int), .slice A_i ins.length c_i, .slice A_j j c_j] 64, .row A_i ins.length c_i 89 35 (insR ins), .row A_j j c_j 91 2 (outsR (List.take j outs))] w41 := H43
    have hjl := hi42
    refine G.seqK fun K44 hK45 => ?_
    refine G.region ?_
    refine GL.run (j := 1) 1 [2, 3, 41, 42, 43, 44] [(2, pt p7 0), (3, pt p15 0), (41, .slice B outs.length cb), (42, .int .i64 (outs.length : Int)), (43, .int .i64 (j : Int)), (44, .bool (decide ((j : Int) < (outs.length : Int))))] (by kernel_rfl) rfl ?_
    refine GL.k rfl hK45 (fun _ _ h => h) ?_
    refine G.seqK fun K46 hK47 => ?_
    cases hb48 : (decide ((j : Int) < (outs.length : Int)))
    · skip
      have hb48f := of_decide_eq_false hb48
      refine G.no rfl ?_
      refine G.exitK hK36 (fun _ _ h => h) ?_
      refine G.seqK fun K49 hK50 => ?_
      refine G.region ?_
      refine GL.sem (j := 1) (H43.ldA (o := 0) (ty := 64) (m := 4) (sub := [.int .u64 (v : Int), .int .u64 (lt : Int), .slice A_i ins.length c_i, .slice A_j j c_j]) 2 rfl (by kernel_rfl) rfl rfl) [2, 59] [(2, pt p7 0), (59, .agg #[.int .u64 (v : Int), .int .u64 (lt : Int), .slice A_i ins.length c_i, .slice A_j j c_j])] (by kernel_rfl) (by kernel_rfl) rfl ?_
      obtain ⟨w51, r52, H53⟩ := H43.stA (P := Try.prog) (o := 0) (vs := [.int .u64 (v : Int), .int .u64 (lt : Int), .slice A_i ins.length c_i, .slice A_j j c_j]) (ty := 64) (m := 4) 1 rfl (by kernel_rfl) rfl (by simp) (by simp [Value.oneCell'])
      have H53 : Hp w [] [.blk p3 [.int .u32 (v : Int), .slice A ins.length ca, .slice B outs.length cb, .int .u32 (lt : Int)] 26, .blk p7 [.int .u64 (v : Int), .int .u64 (lt : Int), .slice A_i ins.length c_i, .slice A_j j c_j] 64, .blk p15 [.int .u64 (v : Int), .int .u64 (lt : Int), .slice A_i ins.length c_i, .slice A_j j c_j] 64, .row A_i ins.length c_i 89 35 (insR ins), .row A_j j c_j 91 2 (outsR (List.take j outs))] w51 := H53
      refine GL.semU (j := 2) r52 [2] [(2, pt p7 0)] (by kernel_rfl) rfl rfl rfl ?_
      refine GL.k rfl hK50 (fun _ _ h => h) ?_
      refine G.ret ?_
      intro F_ hF_ hM_
      refine hRet _ _ (bodyPost_1 rfl (RV.cell rfl (H53.ldA (o := 0) (ty := 64) (m := 4) (sub := [.int .u64 (v : Int), .int .u64 (lt : Int), .slice A_i ins.length c_i, .slice A_j j c_j]) 1 rfl (by kernel_rfl) rfl rfl)) ?_ F_ hF_ hM_)
      have H54 : Hp w [] [.row A_i ins.length c_i 89 35 (insR ins), .row A_j j c_j 91 2 (outsR (List.take j outs))] w51 := H53.sub (List.Sublist.cons _ (List.Sublist.cons _ (List.Sublist.cons _ (List.Sublist.cons_cons _ (List.Sublist.cons_cons _ (List.Sublist.slnil))))))
      obtain rfl : j = outs.length := by omega
      have HF := H54
      rw [List.take_length] at HF
      exact ⟨_, _, _, _, rfl, HF⟩
    · skip
      have hb48f := of_decide_eq_true hb48
      refine G.yes rfl ?_
      refine G.skipK hK47 (fun _ _ h => h) ?_
      refine G.seqK fun K55 hK56 => ?_
      refine G.block ?_
      refine G.seqK fun K57 hK58 => ?_
      refine G.region ?_
      obtain ⟨x59, hx60⟩ : ∃ x, outs[j]? = some x := ⟨_, List.getElem?_eq_getElem (by omega)⟩
      have hok61 := hO x59 (List.mem_of_getElem? hx60)
      refine GL.sem (j := 1) (run_idxRdN (P := Try.prog) (k := .i64) (t := 24) (sz := 2) (A := B) (len := outs.length) (cap := cb) (j := j) (by kernel_rfl) rfl (hOuts.hp H43) (outsC_length _) (by decide) (by omega)) [2, 3, 41, 42, 43, 45] [(2, pt p7 0), (3, pt p15 0), (41, .slice B outs.length cb), (42, .int .i64 (outs.length : Int)), (43, .int .i64 (j : Int)), (45, .pointer (Option.map (fun x => Addr.add x (j * 2)) B))] (by kernel_rfl) (by kernel_rfl) rfl ?_
      refine GL.sem (j := 2) (run_ldRdA (P := Try.prog) (ty := 40) (A := B) (o := (j * 2)) (m := 2) (sub := [.int .u64 (x59.pv : Int), .slice x59.B x59.lb.length x59.lc]) (by kernel_rfl) (hOuts.hp H43) (outsC_cut hx60) (rfl) (by decide)) [2, 3, 41, 42, 43, 46] [(2, pt p7 0), (3, pt p15 0), (41, .slice B outs.length cb), (42, .int .i64 (outs.length : Int)), (43, .int .i64 (j : Int)), (46, .agg #[.int .u64 (x59.pv : Int), .slice x59.B x59.lb.length x59.lc])] (by kernel_rfl) (by kernel_rfl) rfl ?_
      obtain ⟨p62, w63, r64, H65⟩ := H43.alloc (P := Try.prog) 40 [.int .u64 0, .slice none 0 0] (by kernel_rfl)
      have H65 : Hp w [] [.blk p3 [.int .u32 (v : Int), .slice A ins.length ca, .slice B outs.length cb, .int .u32 (lt : Int)] 26, .blk p7 [.int .u64 0, .int .u64 0, .slice none 0 0, .slice none 0 0] 64, .blk p15 [.int .u64 (v : Int), .int .u64 (lt : Int), .slice A_i ins.length c_i, .slice A_j j c_j] 64, .row A_i ins.length c_i 89 35 (insR ins), .row A_j j c_j 91 2 (outsR (List.take j outs)), .blk p62 [.int .u64 0, .slice none 0 0] 40] w63 := H65
      refine GL.sem (j := 3) (r64) [2, 3, 7, 41, 42, 43, 46] [(2, pt p7 0), (3, pt p15 0), (7, pt p62 0), (41, .slice B outs.length cb), (42, .int .i64 (outs.length : Int)), (43, .int .i64 (j : Int)), (46, .agg #[.int .u64 (x59.pv : Int), .slice x59.B x59.lb.length x59.lc])] (by kernel_rfl) (by kernel_rfl) rfl ?_
      obtain ⟨w66, r67, H68⟩ := H65.stA (P := Try.prog) (o := 0) (vs := [.int .u64 (x59.pv : Int), .slice x59.B x59.lb.length x59.lc]) (ty := 40) (m := 2) 5 rfl (by kernel_rfl) rfl (by simp) (by simp [Value.oneCell'])
      have H68 : Hp w [] [.blk p3 [.int .u32 (v : Int), .slice A ins.length ca, .slice B outs.length cb, .int .u32 (lt : Int)] 26, .blk p7 [.int .u64 0, .int .u64 0, .slice none 0 0, .slice none 0 0] 64, .blk p15 [.int .u64 (v : Int), .int .u64 (lt : Int), .slice A_i ins.length c_i, .slice A_j j c_j] 64, .row A_i ins.length c_i 89 35 (insR ins), .row A_j j c_j 91 2 (outsR (List.take j outs)), .blk p62 [.int .u64 (x59.pv : Int), .slice x59.B x59.lb.length x59.lc] 40] w66 := H68
      refine GL.semU (j := 4) r67 [2, 3, 7, 41, 42, 43] [(2, pt p7 0), (3, pt p15 0), (7, pt p62 0), (41, .slice B outs.length cb), (42, .int .i64 (outs.length : Int)), (43, .int .i64 (j : Int))] (by kernel_rfl) rfl rfl rfl ?_
      refine GL.k rfl hK58 (fun _ _ h => h) ?_
      refine G.region ?_
      refine GL.run (j := 1) 1 [2, 3, 7, 41, 42, 43, 47] [(2, pt p7 0), (3, pt p15 0), (7, pt p62 0), (41, .slice B outs.length cb), (42, .int .i64 (outs.length : Int)), (43, .int .i64 (j : Int)), (47, pt p15 3)] (by kernel_rfl) rfl ?_
      refine GL.sem (j := 2) (H68.ld (o := 3) (ty := 62) (v := .slice A_j j c_j) 2 rfl (by kernel_rfl) rfl) [2, 3, 7, 41, 42, 43, 48] [(2, pt p7 0), (3, pt p15 0), (7, pt p62 0), (41, .slice B outs.length cb), (42, .int .i64 (outs.length : Int)), (43, .int .i64 (j : Int)), (48, .slice A_j j c_j)] (by kernel_rfl) (by kernel_rfl) rfl ?_
      refine GL.run (j := 3) 1 [2, 3, 7, 41, 42, 43, 48, 49] [(2, pt p7 0), (3, pt p15 0), (7, pt p62 0), (41, .slice B outs.length cb), (42, .int .i64 (outs.length : Int)), (43, .int .i64 (j : Int)), (48, .slice A_j j c_j), (49, pt p62 0)] (by kernel_rfl) rfl ?_
      refine GL.sem (j := 4) (H68.ld (o := 0) (ty := 32) (v := .int .u64 (x59.pv : Int)) 5 rfl (by kernel_rfl) rfl) [2, 3, 7, 41, 42, 43, 48, 50] [(2, pt p7 0), (3, pt p15 0), (7, pt p62 0), (41, .slice B outs.length cb), (42, .int .i64 (outs.length : Int)), (43, .int .i64 (j : Int)), (48, .slice A_j j c_j), (50, .int .u64 (x59.pv : Int))] (by kernel_rfl) (by kernel_rfl) rfl ?_
      refine GL.run (j := 5) 1 [2, 3, 41, 42, 43, 48, 50, 51] [(2, pt p7 0), (3, pt p15 0), (41, .slice B outs.length cb), (42, .int .i64 (outs.length : Int)), (43, .int .i64 (j : Int)), (48, .slice A_j j c_j), (50, .int .u64 (x59.pv : Int)), (51, pt p62 1)] (by kernel_rfl) rfl ?_
      refine GL.sem (j := 6) (H68.ld (o := 1) (ty := 38) (v := .slice x59.B x59.lb.length x59.lc) 5 rfl (by kernel_rfl) rfl) [2, 3, 41, 42, 43, 48, 50, 52] [(2, pt p7 0), (3, pt p15 0), (41, .slice B outs.length cb), (42, .int .i64 (outs.length : Int)), (43, .int .i64 (j : Int)), (48, .slice A_j j c_j), (50, .int .u64 (x59.pv : Int)), (52, .slice x59.B x59.lb.length x59.lc)] (by kernel_rfl) (by kernel_rfl) rfl ?_
      refine GL.sem (j := 7) (run_toStr (P := Try.prog) (src := 38) (dst := 9) (A := x59.B) (bs := x59.lb) (n := x59.lb.length) (c := x59.lc) (by kernel_rfl) (by kernel_rfl) (hok61.2.1.hp H68) (rfl)) [2, 3, 41, 42, 43, 48, 50, 53] [(2, pt p7 0), (3, pt p15 0), (41, .slice B outs.length cb), (42, .int .i64 (outs.length : Int)), (43, .int .i64 (j : Int)), (48, .slice A_j j c_j), (50, .int .u64 (x59.pv : Int)), (53, .string (strOf x59.lb))] (by kernel_rfl) (by kernel_rfl) rfl ?_
      refine GL.run (j := 8) 1 [2, 3, 41, 42, 43, 48, 54] [(2, pt p7 0), (3, pt p15 0), (41, .slice B outs.length cb), (42, .int .i64 (outs.length : Int)), (43, .int .i64 (j : Int)), (48, .slice A_j j c_j), (54, .agg #[.int .u64 (x59.pv : Int), .string (strOf x59.lb)])] (by kernel_rfl) rfl ?_
      obtain ⟨p69, w70, r71, H72⟩ := H68.made (P := Try.prog) (Instr.buildSlice 62 1 #[(0, .agg #[.int .u64 (x59.pv : Int), .string (strOf x59.lb)])]) (fun b_ => .slice (some ⟨b_, 0, none⟩) 1 1) [.int .u64 (x59.pv : Int), .string (strOf x59.lb)] 91 (by kernel_rfl)
      have H72 : Hp w [] [.blk p3 [.int .u32 (v : Int), .slice A ins.length ca, .slice B outs.length cb, .int .u32 (lt : Int)] 26, .blk p7 [.int .u64 0, .int .u64 0, .slice none 0 0, .slice none 0 0] 64, .blk p15 [.int .u64 (v : Int), .int .u64 (lt : Int), .slice A_i ins.length c_i, .slice A_j j c_j] 64, .row A_i ins.length c_i 89 35 (insR ins), .row A_j j c_j 91 2 (outsR (List.take j outs)), .blk p62 [.int .u64 (x59.pv : Int), .slice x59.B x59.lb.length x59.lc] 40, .blk p69 [.int .u64 (x59.pv : Int), .string (strOf x59.lb)] 91] w70 := H72
      refine GL.sem (j := 9) (r71) [2, 3, 41, 42, 43, 48, 55] [(2, pt p7 0), (3, pt p15 0), (41, .slice B outs.length cb), (42, .int .i64 (outs.length : Int)), (43, .int .i64 (j : Int)), (48, .slice A_j j c_j), (55, .slice (some ⟨p69, 0, none⟩) 1 1)] (by kernel_rfl) (by kernel_rfl) rfl ?_
      obtain ⟨A73, c74, w75, r76, H77⟩ := H72.append (P := Try.prog) (e := 91) (sz := 2) (by_ := 24) (n := j) (c := c_j) (m := 1) (d := 1) (t := 62) (ty := 62) (xs := outsR (List.take j outs)) (news := [.int .u64 (x59.pv : Int), .string (strOf x59.lb)]) 4 rfl (by kernel_rfl) (H72.rdBlk (o := 0) (xs := [.int .u64 (x59.pv : Int), .string (strOf x59.lb)]) 6 2 rfl rfl) (by simp) (by simp [Value.oneCell']) (by omega) (by simp only [maxLen]; omega)
      have H77 : Hp w [] [.blk p3 [.int .u32 (v : Int), .slice A ins.length ca, .slice B outs.length cb, .int .u32 (lt : Int)] 26, .blk p7 [.int .u64 0, .int .u64 0, .slice none 0 0, .slice none 0 0] 64, .blk p15 [.int .u64 (v : Int), .int .u64 (lt : Int), .slice A_i ins.length c_i, .slice A_j j c_j] 64, .row A_i ins.length c_i 89 35 (insR ins), .row A73 (j + 1) c74 91 2 (outsR (List.take j outs) ++ [.int .u64 (x59.pv : Int), .string (strOf x59.lb)]), .blk p62 [.int .u64 (x59.pv : Int), .slice x59.B x59.lb.length x59.lc] 40, .blk p69 [.int .u64 (x59.pv : Int), .string (strOf x59.lb)] 91] w75 := H77
      refine GL.sem (j := 10) (r76) [2, 3, 41, 42, 43, 56] [(2, pt p7 0), (3, pt p15 0), (41, .slice B outs.length cb), (42, .int .i64 (outs.length : Int)), (43, .int .i64 (j : Int)), (56, .slice A73 (j + 1) c74)] (by kernel_rfl) (by kernel_rfl) rfl ?_
      refine GL.run (j := 11) 1 [2, 3, 41, 42, 43, 56, 57] [(2, pt p7 0), (3, pt p15 0), (41, .slice B outs.length cb), (42, .int .i64 (outs.length : Int)), (43, .int .i64 (j : Int)), (56, .slice A73 (j + 1) c74), (57, pt p15 3)] (by kernel_rfl) rfl ?_
      obtain ⟨w78, r79, H80⟩ := H77.st (P := Try.prog) (o := 3) (ty := 62) (v := .slice A73 (j + 1) c74) 2 rfl (by kernel_rfl) (by simp) rfl
      have H80 : Hp w [] [.blk p3 [.int .u32 (v : Int), .slice A ins.length ca, .slice B outs.length cb, .int .u32 (lt : Int)] 26, .blk p7 [.int .u64 0, .int .u64 0, .slice none 0 0, .slice none 0 0] 64, .blk p15 [.int .u64 (v : Int), .int .u64 (lt : Int), .slice A_i ins.length c_i, .slice A73 (j + 1) c74] 64, .row A_i ins.length c_i 89 35 (insR ins), .row A73 (j + 1) c74 91 2 (outsR (List.take j outs) ++ [.int .u64 (x59.pv : Int), .string (strOf x59.lb)]), .blk p62 [.int .u64 (x59.pv : Int), .slice x59.B x59.lb.length x59.lc] 40, .blk p69 [.int .u64 (x59.pv : Int), .string (strOf x59.lb)] 91] w78 := H80
      refine GL.semU (j := 12) r79 [2, 3, 41, 42, 43] [(2, pt p7 0), (3, pt p15 0), (41, .slice B outs.length cb), (42, .int .i64 (outs.length : Int)), (43, .int .i64 (j : Int))] (by kernel_rfl) rfl rfl rfl ?_
      refine GL.k rfl hK56 (fun _ _ h => h) ?_
      refine G.region ?_
      refine GL.run (j := 2) 2 [2, 3, 41, 42, 43] [(2, pt p7 0), (3, pt p15 0), (41, .slice B outs.length cb), (42, .int .i64 (outs.length : Int)), (43, .int .i64 (IntKind.i64.wrap ((j : Int) + 1)))] (by kernel_rfl) rfl ?_
      have e81 : (IntKind.i64.wrap ((j : Int) + 1)) = ((j + 1 : Nat) : Int) := by rw [in_i64 (by omega)]; omega
      refine GL.eq (M' := [(2, pt p7 0), (3, pt p15 0), (41, .slice B outs.length cb), (42, .int .i64 (outs.length : Int)), (43, .int .i64 ((j + 1 : Nat) : Int))]) (by rw [e81]) ?_
      clear e81
      have H82 : Hp w [] [.blk p3 [.int .u32 (v : Int), .slice A ins.length ca, .slice B outs.length cb, .int .u32 (lt : Int)] 26, .blk p7 [.int .u64 0, .int .u64 0, .slice none 0 0, .slice none 0 0] 64, .blk p15 [.int .u64 (v : Int), .int .u64 (lt : Int), .slice A_i ins.length c_i, .slice A73 (j + 1) c74] 64, .row A_i ins.length c_i 89 35 (insR ins), .row A73 (j + 1) c74 91 2 (outsR (List.take j outs) ++ [.int .u64 (x59.pv : Int), .string (strOf x59.lb)])] w78 := H80.sub (List.Sublist.cons_cons _ (List.Sublist.cons_cons _ (List.Sublist.cons_cons _ (List.Sublist.cons_cons _ (List.Sublist.cons_cons _ (List.Sublist.cons _ (List.Sublist.cons _ (List.Sublist.slnil))))))))
      have H83 : Hp w [] [.blk p3 [.int .u32 (v : Int), .slice A ins.length ca, .slice B outs.length cb, .int .u32 (lt : Int)] 26, .blk p7 [.int .u64 0, .int .u64 0, .slice none 0 0, .slice none 0 0] 64, .blk p15 [.int .u64 (v : Int), .int .u64 (lt : Int), .slice A_i ins.length c_i, .slice A73 (j + 1) c74] 64, .row A_i ins.length c_i 89 35 (insR ins), .row A73 (j + 1) c74 91 2 (outsR (List.take (j + 1) outs))] w78 := by rw [outsR_snoc hx60]; exact H82
      refine GL.fit (ts := [2, 3, 41, 42, 43]) (M' := [(2, pt p7 0), (3, pt p15 0), (41, .slice B outs.length cb), (42, .int .i64 (outs.length : Int)), (43, .int .i64 ((j + 1 : Nat) : Int))]) (by kernel_rfl) ?_
      refine GL.eq (M' := [(2, pt p7 0), (3, pt p15 0), (41, .slice B outs.length cb), (42, .int .i64 (outs.length : Int)), (43, .int .i64 (((j + 1) : Nat) : Int))]) (by rfl) ?_
      exact GL.again ⟨(j + 1), A73, c74⟩ [2, 3, 41, 42, 43] rfl (by kernel_rfl) (by show outs.length - (j + 1) < outs.length - j; omega) ⟨by omega, H83⟩
  · skip
    have hb34f := of_decide_eq_true hb34
    refine G.yes rfl ?_
    refine G.skipK hK33 (fun _ _ h => h) ?_
    refine G.seqK fun K84 hK85 => ?_
    refine G.block ?_
    refine G.seqK fun K86 hK87 => ?_
    refine G.region ?_
    obtain ⟨x88, hx89⟩ : ∃ x, ins[i]? = some x := ⟨_, List.getElem?_eq_getElem (by omega)⟩
    have hok90 := hI x88 (List.mem_of_getElem? hx89)
    have hixx88 := hok90.2.1
    have hsqx88 := hok90.2.2.1
    refine GL.sem (j := 1) (run_idxRdN (P := Try.prog) (k := .i64) (t := 23) (sz := 35) (A := A) (len := ins.length) (cap := ca) (j := i) (by kernel_rfl) rfl (hIns.hp H29) (insC_length (fun x_ h_ => (hI x_ h_).1)) (by decide) (by omega)) [1, 2, 3, 16, 17, 18, 20] [(1, pt p3 0), (2, pt p7 0), (3, pt p15 0), (16, .slice A ins.length ca), (17, .int .i64 (ins.length : Int)), (18, .int .i64 (i : Int)), (20, .pointer (Option.map (fun x => Addr.add x (i * 35)) A))] (by kernel_rfl) (by kernel_rfl) rfl ?_
    refine GL.sem (j := 2) (run_ldRdA (P := Try.prog) (ty := 53) (A := A) (o := (i * 35)) (m := 35) (sub := x88.cells) (by kernel_rfl) (hIns.hp H29) (insC_cut (fun x_ h_ => (hI x_ h_).1) hx89) (TIn.cells_length hok90.1) (by decide)) [1, 2, 3, 16, 17, 18, 21] [(1, pt p3 0), (2, pt p7 0), (3, pt p15 0), (16, .slice A ins.length ca), (17, .int .i64 (ins.length : Int)), (18, .int .i64 (i : Int)), (21, .agg (x88.cells).toArray)] (by kernel_rfl) (by kernel_rfl) rfl ?_
    obtain ⟨p91, w92, r93, H94⟩ := H29.alloc (P := Try.prog) 53 (TIn.nil.cells) (by kernel_rfl)
    have H94 : Hp w [] [.blk p3 [.int .u32 (v : Int), .slice A ins.length ca, .slice B outs.length cb, .int .u32 (lt : Int)] 26, .blk p7 [.int .u64 0, .int .u64 0, .slice none 0 0, .slice none 0 0] 64, .blk p15 [.int .u64 (v : Int), .int .u64 (lt : Int), .slice A_i i c_i, .slice none 0 0] 64, .row A_i i c_i 89 35 (insR (List.take i ins)), .blk p91 (TIn.nil.cells) 53] w92 := H94
    refine GL.sem (j := 3) (r93) [1, 2, 3, 5, 16, 17, 18, 21] [(1, pt p3 0), (2, pt p7 0), (3, pt p15 0), (5, pt p91 0), (16, .slice A ins.length ca), (17, .int .i64 (ins.length : Int)), (18, .int .i64 (i : Int)), (21, .agg (x88.cells).toArray)] (by kernel_rfl) (by kernel_rfl) rfl ?_
    obtain ⟨w95, r96, H97⟩ := H94.stA (P := Try.prog) (o := 0) (vs := x88.cells) (ty := 53) (m := 35) 4 rfl (by kernel_rfl) (TIn.cells_length hok90.1) (by rw [Nat.zero_add, TIn.cells_length rfl]; exact Nat.le_refl _) TIn.cells_one
    rw [tx_whole (TIn.cells_length rfl)] at H97
    have H97 : Hp w [] [.blk p3 [.int .u32 (v : Int), .slice A ins.length ca, .slice B outs.length cb, .int .u32 (lt : Int)] 26, .blk p7 [.int .u64 0, .int .u64 0, .slice none 0 0, .slice none 0 0] 64, .blk p15 [.int .u64 (v : Int), .int .u64 (lt : Int), .slice A_i i c_i, .slice none 0 0] 64, .row A_i i c_i 89 35 (insR (List.take i ins)), .blk p91 (x88.cells) 53] w95 := H97
    refine GL.semU (j := 4) r96 [1, 2, 3, 5, 16, 17, 18] [(1, pt p3 0), (2, pt p7 0), (3, pt p15 0), (5, pt p91 0), (16, .slice A ins.length ca), (17, .int .i64 (ins.length : Int)), (18, .int .i64 (i : Int))] (by kernel_rfl) rfl rfl rfl ?_
    refine GL.k rfl hK87 (fun _ _ h => h) ?_
    refine G.region ?_
    refine GL.run (j := 1) 1 [1, 2, 3, 5, 16, 17, 18, 22] [(1, pt p3 0), (2, pt p7 0), (3, pt p15 0), (5, pt p91 0), (16, .slice A ins.length ca), (17, .int .i64 (ins.length : Int)), (18, .int .i64 (i : Int)), (22, pt p15 2)] (by kernel_rfl) rfl ?_
    refine GL.sem (j := 2) (H97.ld (o := 2) (ty := 61) (v := .slice A_i i c_i) 2 rfl (by kernel_rfl) rfl) [1, 2, 3, 5, 16, 17, 18, 23] [(1, pt p3 0), (2, pt p7 0), (3, pt p15 0), (5, pt p91 0), (16, .slice A ins.length ca), (17, .int .i64 (ins.length : Int)), (18, .int .i64 (i : Int)), (23, .slice A_i i c_i)] (by kernel_rfl) (by kernel_rfl) rfl ?_
    refine GL.run (j := 3) 1 [1, 2, 3, 5, 16, 17, 18, 23, 24] [(1, pt p3 0), (2, pt p7 0), (3, pt p15 0), (5, pt p91 0), (16, .slice A ins.length ca), (17, .int .i64 (ins.length : Int)), (18, .int .i64 (i : Int)), (23, .slice A_i i c_i), (24, pt p91 0)] (by kernel_rfl) rfl ?_
    refine GL.sem (j := 4) (H97.ldA (o := 0) (ty := 51) (m := 32) (sub := by8 x88.fr) 4 rfl (by kernel_rfl) (TIn.cells_fr hok90.1) (by rw [by8_length, hok90.1])) [1, 2, 3, 5, 16, 17, 18, 23, 25] [(1, pt p3 0), (2, pt p7 0), (3, pt p15 0), (5, pt p91 0), (16, .slice A ins.length ca), (17, .int .i64 (ins.length : Int)), (18, .int .i64 (i : Int)), (23, .slice A_i i c_i), (25, .agg (by8 x88.fr).toArray)] (by kernel_rfl) (by kernel_rfl) rfl ?_
    refine GL.run (j := 5) 1 [1, 2, 3, 5, 16, 17, 18, 23, 25, 26] [(1, pt p3 0), (2, pt p7 0), (3, pt p15 0), (5, pt p91 0), (16, .slice A ins.length ca), (17, .int .i64 (ins.length : Int)), (18, .int .i64 (i : Int)), (23, .slice A_i i c_i), (25, .agg (by8 x88.fr).toArray), (26, pt p91 32)] (by kernel_rfl) rfl ?_
    refine GL.sem (j := 6) (H97.ld (o := 32) (ty := 22) (v := .int .u32 (x88.ix : Int)) 4 rfl (by kernel_rfl) (TIn.cells_ix hok90.1)) [1, 2, 3, 5, 16, 17, 18, 23, 25, 27] [(1, pt p3 0), (2, pt p7 0), (3, pt p15 0), (5, pt p91 0), (16, .slice A ins.length ca), (17, .int .i64 (ins.length : Int)), (18, .int .i64 (i : Int)), (23, .slice A_i i c_i), (25, .agg (by8 x88.fr).toArray), (27, .int .u32 (x88.ix : Int))] (by kernel_rfl) (by kernel_rfl) rfl ?_
    refine GL.run (j := 8) 2 [1, 2, 3, 5, 16, 17, 18, 23, 25, 28, 29] [(1, pt p3 0), (2, pt p7 0), (3, pt p15 0), (5, pt p91 0), (16, .slice A ins.length ca), (17, .int .i64 (ins.length : Int)), (18, .int .i64 (i : Int)), (23, .slice A_i i c_i), (25, .agg (by8 x88.fr).toArray), (28, .int .u64 (IntKind.u64.wrap (x88.ix : Int))), (29, pt p91 34)] (by kernel_rfl) rfl ?_
    have e98 : (IntKind.u64.wrap (x88.ix : Int)) = (x88.ix : Int) := in_u64 (by omega)
    refine GL.eq (M' := [(1, pt p3 0), (2, pt p7 0), (3, pt p15 0), (5, pt p91 0), (16, .slice A ins.length ca), (17, .int .i64 (ins.length : Int)), (18, .int .i64 (i : Int)), (23, .slice A_i i c_i), (25, .agg (by8 x88.fr).toArray), (28, .int .u64 (x88.ix : Int)), (29, pt p91 34)]) (by rw [e98]) ?_
    clear e98
    refine GL.sem (j := 9) (H97.ld (o := 34) (ty := 22) (v := .int .u32 (x88.sq : Int)) 4 rfl (by kernel_rfl) (TIn.cells_sq hok90.1)) [1, 2, 3, 5, 16, 17, 18, 23, 25, 28, 30] [(1, pt p3 0), (2, pt p7 0), (3, pt p15 0), (5, pt p91 0), (16, .slice A ins.length ca), (17, .int .i64 (ins.length : Int)), (18, .int .i64 (i : Int)), (23, .slice A_i i c_i), (25, .agg (by8 x88.fr).toArray), (28, .int .u64 (x88.ix : Int)), (30, .int .u32 (x88.sq : Int))] (by kernel_rfl) (by kernel_rfl) rfl ?_
    refine GL.run (j := 11) 2 [1, 2, 3, 16, 17, 18, 23, 25, 28, 31, 32] [(1, pt p3 0), (2, pt p7 0), (3, pt p15 0), (16, .slice A ins.length ca), (17, .int .i64 (ins.length : Int)), (18, .int .i64 (i : Int)), (23, .slice A_i i c_i), (25, .agg (by8 x88.fr).toArray), (28, .int .u64 (x88.ix : Int)), (31, .int .u64 (IntKind.u64.wrap (x88.sq : Int))), (32, pt p91 33)] (by kernel_rfl) rfl ?_
    have e99 : (IntKind.u64.wrap (x88.sq : Int)) = (x88.sq : Int) := in_u64 (by omega)
    refine GL.eq (M' := [(1, pt p3 0), (2, pt p7 0), (3, pt p15 0), (16, .slice A ins.length ca), (17, .int .i64 (ins.length : Int)), (18, .int .i64 (i : Int)), (23, .slice A_i i c_i), (25, .agg (by8 x88.fr).toArray), (28, .int .u64 (x88.ix : Int)), (31, .int .u64 (x88.sq : Int)), (32, pt p91 33)]) (by rw [e99]) ?_
    clear e99
    refine GL.sem (j := 12) (H97.ld (o := 33) (ty := 38) (v := .slice x88.B x88.kb.length x88.kc) 4 rfl (by kernel_rfl) (TIn.cells_key hok90.1)) [1, 2, 3, 16, 17, 18, 23, 25, 28, 31, 33] [(1, pt p3 0), (2, pt p7 0), (3, pt p15 0), (16, .slice A ins.length ca), (17, .int .i64 (ins.length : Int)), (18, .int .i64 (i : Int)), (23, .slice A_i i c_i), (25, .agg (by8 x88.fr).toArray), (28, .int .u64 (x88.ix : Int)), (31, .int .u64 (x88.sq : Int)), (33, .slice x88.B x88.kb.length x88.kc)] (by kernel_rfl) (by kernel_rfl) rfl ?_
    refine GL.sem (j := 13) (run_toStr (P := Try.prog) (src := 38) (dst := 9) (A := x88.B) (bs := x88.kb) (n := x88.kb.length) (c := x88.kc) (by kernel_rfl) (by kernel_rfl) (hok90.2.2.2.1.hp H97) (rfl)) [1, 2, 3, 16, 17, 18, 23, 25, 28, 31, 34] [(1, pt p3 0), (2, pt p7 0), (3, pt p15 0), (16, .slice A ins.length ca), (17, .int .i64 (ins.length : Int)), (18, .int .i64 (i : Int)), (23, .slice A_i i c_i), (25, .agg (by8 x88.fr).toArray), (28, .int .u64 (x88.ix : Int)), (31, .int .u64 (x88.sq : Int)), (34, .string (strOf x88.kb))] (by kernel_rfl) (by kernel_rfl) rfl ?_
    refine GL.sem (j := 14) (run_inBuild x88 hok90.1 _) [1, 2, 3, 16, 17, 18, 23, 35] [(1, pt p3 0), (2, pt p7 0), (3, pt p15 0), (16, .slice A ins.length ca), (17, .int .i64 (ins.length : Int)), (18, .int .i64 (i : Int)), (23, .slice A_i i c_i), (35, .agg (x88.rcells).toArray)] (by kernel_rfl) (by kernel_rfl) rfl ?_
    obtain ⟨p100, w101, r102, H103⟩ := H97.madeIn x88 hok90.1
    have H103 : Hp w [] [.blk p3 [.int .u32 (v : Int), .slice A ins.length ca, .slice B outs.length cb, .int .u32 (lt : Int)] 26, .blk p7 [.int .u64 0, .int .u64 0, .slice none 0 0, .slice none 0 0] 64, .blk p15 [.int .u64 (v : Int), .int .u64 (lt : Int), .slice A_i i c_i, .slice none 0 0] 64, .row A_i i c_i 89 35 (insR (List.take i ins)), .blk p91 (x88.cells) 53, .blk p100 x88.rcells 89] w101 := H103
    refine GL.sem (j := 15) (r102) [1, 2, 3, 16, 17, 18, 23, 36] [(1, pt p3 0), (2, pt p7 0), (3, pt p15 0), (16, .slice A ins.length ca), (17, .int .i64 (ins.length : Int)), (18, .int .i64 (i : Int)), (23, .slice A_i i c_i), (36, .slice (some ⟨p100, 0, none⟩) 1 1)] (by kernel_rfl) (by kernel_rfl) rfl ?_
    obtain ⟨A104, c105, w106, r107, H108⟩ := H103.append (P := Try.prog) (e := 89) (sz := 35) (by_ := 64) (n := i) (c := c_i) (m := 1) (d := 1) (t := 61) (ty := 61) (xs := insR (List.take i ins)) (news := x88.rcells) 3 rfl (by kernel_rfl) (H103.rdBlk (o := 0) (xs := x88.rcells) 5 35 rfl (tx_sub (TIn.rcells_length hok90.1))) (by rw [TIn.rcells_length hok90.1]) (TIn.rcells_one) (by omega) (by simp only [maxLen]; omega)
    have H108 : Hp w [] [.blk p3 [.int .u32 (v : Int), .slice A ins.length ca, .slice B outs.length cb, .int .u32 (lt : Int)] 26, .blk p7 [.int .u64 0, .int .u64 0, .slice none 0 0, .slice none 0 0] 64, .blk p15 [.int .u64 (v : Int), .int .u64 (lt : Int), .slice A_i i c_i, .slice none 0 0] 64, .row A104 (i + 1) c105 89 35 (insR (List.take i ins) ++ x88.rcells), .blk p91 (x88.cells) 53, .blk p100 x88.rcells 89] w106 := H108
    refine GL.sem (j := 16) (r107) [1, 2, 3, 16, 17, 18, 37] [(1, pt p3 0), (2, pt p7 0), (3, pt p15 0), (16, .slice A ins.length ca), (17, .int .i64 (ins.length : Int)), (18, .int .i64 (i : Int)), (37, .slice A104 (i + 1) c105)] (by kernel_rfl) (by kernel_rfl) rfl ?_
    refine GL.run (j := 17) 1 [1, 2, 3, 16, 17, 18, 37, 38] [(1, pt p3 0), (2, pt p7 0), (3, pt p15 0), (16, .slice A ins.length ca), (17, .int .i64 (ins.length : Int)), (18, .int .i64 (i : Int)), (37, .slice A104 (i + 1) c105), (38, pt p15 2)] (by kernel_rfl) rfl ?_
    obtain ⟨w109, r110, H111⟩ := H108.st (P := Try.prog) (o := 2) (ty := 61) (v := .slice A104 (i + 1) c105) 2 rfl (by kernel_rfl) (by simp) rfl
    have H111 : Hp w [] [.blk p3 [.int .u32 (v : Int), .slice A ins.length ca, .slice B outs.length cb, .int .u32 (lt : Int)] 26, .blk p7 [.int .u64 0, .int .u64 0, .slice none 0 0, .slice none 0 0] 64, .blk p15 [.int .u64 (v : Int), .int .u64 (lt : Int), .slice A104 (i + 1) c105, .slice none 0 0] 64, .row A104 (i + 1) c105 89 35 (insR (List.take i ins) ++ x88.rcells), .blk p91 (x88.cells) 53, .blk p100 x88.rcells 89] w109 := H111
    refine GL.semU (j := 18) r110 [1, 2, 3, 16, 17, 18] [(1, pt p3 0), (2, pt p7 0), (3, pt p15 0), (16, .slice A ins.length ca), (17, .int .i64 (ins.length : Int)), (18, .int .i64 (i : Int))] (by kernel_rfl) rfl rfl rfl ?_
    refine GL.k rfl hK85 (fun _ _ h => h) ?_
    refine G.region ?_
    refine GL.run (j := 2) 2 [1, 2, 3, 16, 17, 18] [(1, pt p3 0), (2, pt p7 0), (3, pt p15 0), (16, .slice A ins.length ca), (17, .int .i64 (ins.length : Int)), (18, .int .i64 (IntKind.i64.wrap ((i : Int) + 1)))] (by kernel_rfl) rfl ?_
    have e112 : (IntKind.i64.wrap ((i : Int) + 1)) = ((i + 1 : Nat) : Int) := by rw [in_i64 (by omega)]; omega
    refine GL.eq (M' := [(1, pt p3 0), (2, pt p7 0), (3, pt p15 0), (16, .slice A ins.length ca), (17, .int .i64 (ins.length : Int)), (18, .int .i64 ((i + 1 : Nat) : Int))]) (by rw [e112]) ?_
    clear e112
    have H113 : Hp w [] [.blk p3 [.int .u32 (v : Int), .slice A ins.length ca, .slice B outs.length cb, .int .u32 (lt : Int)] 26, .blk p7 [.int .u64 0, .int .u64 0, .slice none 0 0, .slice none 0 0] 64, .blk p15 [.int .u64 (v : Int), .int .u64 (lt : Int), .slice A104 (i + 1) c105, .slice none 0 0] 64, .row A104 (i + 1) c105 89 35 (insR (List.take i ins) ++ x88.rcells)] w109 := H111.sub (List.Sublist.cons_cons _ (List.Sublist.cons_cons _ (List.Sublist.cons_cons _ (List.Sublist.cons_cons _ (List.Sublist.cons _ (List.Sublist.cons _ (List.Sublist.slnil)))))))
    have H114 : Hp w [] [.blk p3 [.int .u32 (v : Int), .slice A ins.length ca, .slice B outs.length cb, .int .u32 (lt : Int)] 26, .blk p7 [.int .u64 0, .int .u64 0, .slice none 0 0, .slice none 0 0] 64, .blk p15 [.int .u64 (v : Int), .int .u64 (lt : Int), .slice A104 (i + 1) c105, .slice none 0 0] 64, .row A104 (i + 1) c105 89 35 (insR (List.take (i + 1) ins))] w109 := by rw [insR_snoc hx89]; exact H113
    refine GL.fit (ts := [1, 2, 3, 16, 17, 18]) (M' := [(1, pt p3 0), (2, pt p7 0), (3, pt p15 0), (16, .slice A ins.length ca), (17, .int .i64 (ins.length : Int)), (18, .int .i64 ((i + 1 : Nat) : Int))]) (by kernel_rfl) ?_
    refine GL.eq (M' := [(1, pt p3 0), (2, pt p7 0), (3, pt p15 0), (16, .slice A ins.length ca), (17, .int .i64 (ins.length : Int)), (18, .int .i64 (((i + 1) : Nat) : Int))]) (by rfl) ?_
    exact GL.again ⟨(i + 1), A104, c105⟩ [1, 2, 3, 16, 17, 18] rfl (by kernel_rfl) (by show ins.length - (i + 1) < ins.length - i; omega) ⟨by omega, H114⟩
end Go.Proofs.Ytcedmbdahbdmaaa
set_option maxRecDepth 100000
namespace Go.Proofs.Ytcedmbdahbdmaaa
open Go.RowKit
theorem n_byte256 (x : Nat) : IntKind.u8.wrap ((x % 256 : Nat) : Int) = (((UInt8.ofNat x).toNat : Nat) : Int) := by rw [IntKind.wrap_u8, u8_ofNat]; omega
theorem RPut_calls (x n : Nat) (hx : x < K) (hn : n ≤ 1000) (w : World) : Calls Try.prog 42 #[.int .u64 (x : Int), .int .i64 (n : Int)] w fun e w' => ∃ A c, e = .returned (.slice A n c) ∧ Hp w [] [.row A n c 5 1 (by8 (putB x n))] w' := by
  refine calls_G (args := [.int .u64 (x : Int), .int .i64 (n : Int)]) Try.func42 rfl Try.ntmps42 rfl ?_
  intro Q0 hRet hNor hPan
  have H := Hp.start w
  have H : Hp w [] [] w := H
  refine G.seqK fun K1 hK2 => ?_
  refine G.region ?_
  refine GL.run (j := 1) 1 [0, 1] [(0, .int .u64 (x : Int)), (1, .int .i64 (n : Int))] (by kernel_rfl) rfl ?_
  refine GL.k rfl hK2 (fun _ _ h => h) ?_
  refine G.seqK fun K3 hK4 => ?_
  refine G.region ?_
  obtain ⟨p5, w6, r7, H8⟩ := H.madeRow (P := Try.prog) (Instr.buildSlice 38 0 #[]) (fun b_ => .slice (some ⟨b_, 0, none⟩) 0 0) [] 5 0 0 1 (by kernel_rfl) (by decide) (by decide) rfl
  have H8 : Hp w [] [.row (some ⟨p5, 0, none⟩) 0 0 5 1 (by8 ([] : List UInt8))] w6 := H8
  refine GL.sem (j := 1) (r7) [0, 1, 7] [(0, .int .u64 (x : Int)), (1, .int .i64 (n : Int)), (7, .slice (some ⟨p5, 0, none⟩) 0 0)] (by kernel_rfl) (by kernel_rfl) rfl ?_
  refine GL.run (j := 2) 1 [0, 1, 5] [(0, .int .u64 (x : Int)), (1, .int .i64 (n : Int)), (5, .slice (some ⟨p5, 0, none⟩) 0 0)] (by kernel_rfl) rfl ?_
  refine GL.k rfl hK4 (fun _ _ h => h) ?_
  refine G.seqK fun K9 hK10 => ?_
  refine G.seqK fun K11 hK12 => ?_
  refine G.region ?_
  refine GL.run (j := 1) 1 [0, 1, 5, 6] [(0, .int .u64 (x : Int)), (1, .int .i64 (n : Int)), (5, .slice (some ⟨p5, 0, none⟩) 0 0), (6, .int .i64 0)] (by kernel_rfl) rfl ?_
  refine GL.k rfl hK12 (fun _ _ h => h) ?_
  refine G.block ?_
  refine G.fit [0, 1, 5, 6] (M' := [(0, .int .u64 (x : Int)), (1, .int .i64 (n : Int)), (5, .slice (some ⟨p5, 0, none⟩) 0 0), (6, .int .i64 0)]) (by kernel_rfl) ?_
  refine G.eq (M' := [(0, .int .u64 ((x / 256 ^ 0 : Nat) : Int)), (1, .int .i64 (n : Int)), (5, .slice (some ⟨p5, 0, none⟩) 0 0), (6, .int .i64 0)]) (by simp only [Nat.pow_zero, Nat.div_one]) ?_
  refine G.loop (X := Nat × Option Addr × Nat) (fun ⟨i, B_, b_⟩ => [(0, .int .u64 ((x / 256 ^ i : Nat) : Int)), (1, .int .i64 (n : Int)), (5, .slice B_ i b_), (6, .int .i64 (i : Int))]) (fun ⟨i, B_, b_⟩ w_ => (i ≤ n) ∧ Hp w [] [.row B_ i b_ 5 1 (by8 (putB x i))] w_) (fun ⟨i, B_, b_⟩ => n - i) ⟨0, (some ⟨p5, 0, none⟩), 0⟩ [0, 1, 5, 6] (by kernel_rfl) ⟨Nat.zero_le _, H8⟩ ?_
  rintro ⟨i, B_, b_⟩ w13 ⟨hi14, H15⟩
  refine G.eq (M' := [(0, .int .u64 ((x / 256 ^ i : Nat) : Int)), (1, .int .i64 (n : Int)), (5, .slice B_ i b_), (6, .int .i64 (i : Int))]) rfl ?_
  have H15 : Hp w [] [.row B_ i b_ 5 1 (by8 (putB x i))] w13 := H15
  have hi9 := hi14
  refine G.seqK fun K16 hK17 => ?_
  refine G.seqK fun K18 hK19 => ?_
  refine G.region ?_
  refine GL.run (j := 3) 3 [0, 1, 5, 6, 10] [(0, .int .u64 ((x / 256 ^ i : Nat) : Int)), (1, .int .i64 (n : Int)), (5, .slice B_ i b_), (6, .int .i64 (i : Int)), (10, .bool (decide ((i : Int) < (n : Int))))] (by kernel_rfl) rfl ?_
  refine GL.k rfl hK19 (fun _ _ h => h) ?_
  cases hb20 : (decide ((i : Int) < (n : Int)))
  · skip
    have hb20f := of_decide_eq_false hb20
    refine G.no rfl ?_
    refine G.exitK hK10 (fun _ _ h => h) ?_
    refine G.seqK fun K21 hK22 => ?_
    refine G.region ?_
    refine GL.run (j := 2) 2 [4] [(4, .slice B_ i b_)] (by kernel_rfl) rfl ?_
    refine GL.k rfl hK22 (fun _ _ h => h) ?_
    refine G.ret ?_
    intro F_ hF_ hM_
    refine hRet _ _ (bodyPost_1 rfl (RV.tmp rfl) ?_ F_ hF_ hM_)
    have HF := H15
    rw [show i = n by omega] at HF
    rw [show i = n by omega]
    exact ⟨_, _, rfl, HF⟩
  · skip
    have hb20f := of_decide_eq_true hb20
    refine G.yes rfl ?_
    refine G.skipK hK17 (fun _ _ h => h) ?_
    refine G.seqK fun K23 hK24 => ?_
    refine G.block ?_
    refine G.seqK fun K25 hK26 => ?_
    refine G.region ?_
    refine GL.run (j := 4) 4 [0, 1, 6, 13, 16] [(0, .int .u64 ((x / 256 ^ i : Nat) : Int)), (1, .int .i64 (n : Int)), (6, .int .i64 (i : Int)), (13, .slice B_ i b_), (16, .int .u8 (IntKind.u8.wrap (Int.tmod ((x / 256 ^ i : Nat) : Int) 256)))] (by kernel_rfl) rfl ?_
    have e27 : (Int.tmod ((x / 256 ^ i : Nat) : Int) 256) = (((x / 256 ^ i) % 256 : Nat) : Int) := n_rem _ 256
    have e28 : (IntKind.u8.wrap (((x / 256 ^ i) % 256 : Nat) : Int)) = ((UInt8.ofNat (x / 256 ^ i)).toNat : Int) := n_byte256 _
    refine GL.eq (M' := [(0, .int .u64 ((x / 256 ^ i : Nat) : Int)), (1, .int .i64 (n : Int)), (6, .int .i64 (i : Int)), (13, .slice B_ i b_), (16, .int .u8 ((UInt8.ofNat (x / 256 ^ i)).toNat : Int))]) (by rw [e27, e28]) ?_
    clear e27 e28
    obtain ⟨p29, w30, r31, H32⟩ := H15.made (P := Try.prog) (Instr.buildSlice 38 1 #[(0, .int .u8 ((UInt8.ofNat (x / 256 ^ i)).toNat : Int))]) (fun b_ => .slice (some ⟨b_, 0, none⟩) 1 1) [.int .u8 ((UInt8.ofNat (x / 256 ^ i)).toNat : Int)] 5 (by kernel_rfl)
    have H32 : Hp w [] [.row B_ i b_ 5 1 (by8 (putB x i)), .blk p29 [.int .u8 ((UInt8.ofNat (x / 256 ^ i)).toNat : Int)] 5] w30 := H32
    refine GL.sem (j := 5) (r31) [0, 1, 6, 13, 17] [(0, .int .u64 ((x / 256 ^ i : Nat) : Int)), (1, .int .i64 (n : Int)), (6, .int .i64 (i : Int)), (13, .slice B_ i b_), (17, .slice (some ⟨p29, 0, none⟩) 1 1)] (by kernel_rfl) (by kernel_rfl) rfl ?_
    obtain ⟨A33, c34, w35, r36, H37⟩ := H32.append (P := Try.prog) (e := 5) (sz := 1) (by_ := 1) (n := i) (c := b_) (m := 1) (d := 1) (t := 38) (ty := 38) (xs := by8 (putB x i)) (news := by8 ([(UInt8.ofNat (x / 256 ^ i))] : List UInt8)) 0 rfl (by kernel_rfl) (H32.rdBlk (o := 0) (xs := by8 ([(UInt8.ofNat (x / 256 ^ i))] : List UInt8)) 1 1 rfl rfl) (by first | (simp [by8_length]; done) | (rw [by8_length]; omega) | (rw [by8_length, putB_length])) (by8_one _) (by omega) (by simp only [maxLen]; omega)
    rw [← by8_append] at H37
    have H37 : Hp w [] [.row A33 (i + 1) c34 5 1 (by8 ((putB x i) ++ ([(UInt8.ofNat (x / 256 ^ i))] : List UInt8))), .blk p29 [.int .u8 ((UInt8.ofNat (x / 256 ^ i)).toNat : Int)] 5] w35 := H37
    refine GL.sem (j := 6) (r36) [0, 1, 6, 18] [(0, .int .u64 ((x / 256 ^ i : Nat) : Int)), (1, .int .i64 (n : Int)), (6, .int .i64 (i : Int)), (18, .slice A33 (i + 1) c34)] (by kernel_rfl) (by kernel_rfl) rfl ?_
    refine GL.run (j := 7) 1 [0, 1, 5, 6] [(0, .int .u64 ((x / 256 ^ i : Nat) : Int)), (1, .int .i64 (n : Int)), (5, .slice A33 (i + 1) c34), (6, .int .i64 (i : Int))] (by kernel_rfl) rfl ?_
    refine GL.k rfl hK26 (fun _ _ h => h) ?_
    refine G.region ?_
    refine GL.run (j := 3) 3 [0, 1, 5, 6] [(0, .int .u64 (IntKind.u64.wrap (Int.tdiv ((x / 256 ^ i : Nat) : Int) 256))), (1, .int .i64 (n : Int)), (5, .slice A33 (i + 1) c34), (6, .int .i64 (i : Int))] (by kernel_rfl) rfl ?_
    have e38 : (IntKind.u64.wrap (Int.tdiv ((x / 256 ^ i : Nat) : Int) 256)) = (((x / 256 ^ i) / 256 : Nat) : Int) := n_quo 256 (Nat.lt_of_le_of_lt (Nat.div_le_self _ _) hx)
    refine GL.eq (M' := [(0, .int .u64 (((x / 256 ^ i) / 256 : Nat) : Int)), (1, .int .i64 (n : Int)), (5, .slice A33 (i + 1) c34), (6, .int .i64 (i : Int))]) (by rw [e38]) ?_
    clear e38
    refine GL.k rfl hK24 (fun _ _ h => h) ?_
    refine G.region ?_
    refine GL.run (j := 3) 3 [0, 1, 5, 6] [(0, .int .u64 (((x / 256 ^ i) / 256 : Nat) : Int)), (1, .int .i64 (n : Int)), (5, .slice A33 (i + 1) c34), (6, .int .i64 (IntKind.i64.wrap ((i : Int) + 1)))] (by kernel_rfl) rfl ?_
    have e39 : (IntKind.i64.wrap ((i : Int) + 1)) = ((i + 1 : Nat) : Int) := by rw [in_i64 (by omega)]; omega
    refine GL.eq (M' := [(0, .int .u64 (((x / 256 ^ i) / 256 : Nat) : Int)), (1, .int .i64 (n : Int)), (5, .slice A33 (i + 1) c34), (6, .int .i64 ((i + 1 : Nat) : Int))]) (by rw [e39]) ?_
    clear e39
    have H40 : Hp w [] [.row A33 (i + 1) c34 5 1 (by8 ((putB x i) ++ ([(UInt8.ofNat (x / 256 ^ i))] : List UInt8)))] w35 := H37.sub (List.Sublist.cons_cons _ (List.Sublist.cons _ (List.Sublist.slnil)))
    have H41 : Hp w [] [.row A33 (i + 1) c34 5 1 (by8 (putB x (i + 1)))] w35 := by rw [putB_snoc]; exact H40
    refine GL.fit (ts := [0, 1, 5, 6]) (M' := [(0, .int .u64 (((x / 256 ^ i) / 256 : Nat) : Int)), (1, .int .i64 (n : Int)), (5, .slice A33 (i + 1) c34), (6, .int .i64 ((i + 1 : Nat) : Int))]) (by kernel_rfl) ?_
    refine GL.eq (M' := [(0, .int .u64 ((x / 256 ^ (i + 1) : Nat) : Int)), (1, .int .i64 (n : Int)), (5, .slice A33 (i + 1) c34), (6, .int .i64 (((i + 1) : Nat) : Int))]) (by rw [Nat.pow_succ, ← Nat.div_div_eq_div_mul]) ?_
    exact GL.again ⟨(i + 1), A33, c34⟩ [0, 1, 5, 6] rfl (by kernel_rfl) (by show n - (i + 1) < n - i; omega) ⟨by omega, H41⟩
theorem RCnt_calls (x : Nat) (hx : x < K) (w : World) : Calls Try.prog 43 #[.int .u64 (x : Int)] w fun e w' => ∃ A c, e = .returned (.slice A (cntSz x) c) ∧ Hp w [] [.row A (cntSz x) c 5 1 (by8 (cnt x))] w' := by
  refine calls_G (args := [.int .u64 (x : Int)]) Try.func43 rfl Try.ntmps43 rfl ?_
  intro Q0 hRet hNor hPan
  have H := Hp.start w
  have H : Hp w [] [] w := H
  refine G.seqK fun K1 hK2 => ?_
  refine G.region ?_
  refine GL.run (j := 1) 1 [0] [(0, .int .u64 (x : Int))] (by kernel_rfl) rfl ?_
  refine GL.k rfl hK2 (fun _ _ h => h) ?_
  refine G.seqK fun K3 hK4 => ?_
  refine G.seqK fun K5 hK6 => ?_
  refine G.region ?_
  refine GL.run (j := 2) 2 [0, 4] [(0, .int .u64 (x : Int)), (4, .bool (decide ((x : Int) < 253)))] (by kernel_rfl) rfl ?_
  refine GL.k rfl hK6 (fun _ _ h => h) ?_
  cases hb7 : (decide ((x : Int) < 253))
  · skip
    have hb7f := of_decide_eq_false hb7
    refine G.no rfl ?_
    refine G.skipK hK4 (fun _ _ h => h) ?_
    refine G.seqK fun K8 hK9 => ?_
    refine G.seqK fun K10 hK11 => ?_
    refine G.region ?_
    refine GL.run (j := 2) 2 [0, 9] [(0, .int .u64 (x : Int)), (9, .bool (decide ((x : Int) < 65536)))] (by kernel_rfl) rfl ?_
    refine GL.k rfl hK11 (fun _ _ h => h) ?_
    cases hb12 : (decide ((x : Int) < 65536))
    · skip
      have hb12f := of_decide_eq_false hb12
      refine G.no rfl ?_
      refine G.skipK hK9 (fun _ _ h => h) ?_
      refine G.seqK fun K13 hK14 => ?_
      refine G.seqK fun K15 hK16 => ?_
      refine G.region ?_
      refine GL.run (j := 2) 2 [0, 15] [(0, .int .u64 (x : Int)), (15, .bool (decide ((x : Int) < 4294967296)))] (by kernel_rfl) rfl ?_
      refine GL.k rfl hK16 (fun _ _ h => h) ?_
      cases hb17 : (decide ((x : Int) < 4294967296))
      · skip
        have hb17f := of_decide_eq_false hb17
        refine G.no rfl ?_
        refine G.skipK hK14 (fun _ _ h => h) ?_
        refine G.seqK fun K18 hK19 => ?_
        refine G.region ?_
        obtain ⟨p20, w21, r22, H23⟩ := H.madeRow (P := Try.prog) (Instr.buildSlice 38 1 #[(0, .int .u8 255)]) (fun b_ => .slice (some ⟨b_, 0, none⟩) 1 1) [.int .u8 255] 5 1 1 1 (by kernel_rfl) (by decide) (by decide) rfl
        have H23 : Hp w [] [.row (some ⟨p20, 0, none⟩) 1 1 5 1 (by8 ([255] : List UInt8))] w21 := H23
        refine GL.sem (j := 1) (r22) [0, 20] [(0, .int .u64 (x : Int)), (20, .slice (some ⟨p20, 0, none⟩) 1 1)] (by kernel_rfl) (by kernel_rfl) rfl ?_
        refine GL.run (j := 2) 1 [20, 21] [(20, .slice (some ⟨p20, 0, none⟩) 1 1), (21, .int .u64 (x : Int))] (by kernel_rfl) rfl ?_
        refine GL.call (j := 3) (RPut_calls x 8 hx (by omega) w21) (by kernel_rfl) rfl (fun e_ w28 hR => ?_)
        obtain ⟨A24, c25, rfl, H27⟩ := hR
        have H26 : Hp w [] [.row (some ⟨p20, 0, none⟩) 1 1 5 1 (by8 ([255] : List UInt8)), .row A24 8 c25 5 1 (by8 (putB x 8))] w28 := H23.callNew H27
        refine ⟨_, rfl, [20, 22], [(20, .slice (some ⟨p20, 0, none⟩) 1 1), (22, .slice A24 8 c25)], by kernel_rfl, ?_⟩
        obtain ⟨A29, c30, w31, r32, H33⟩ := H26.append (P := Try.prog) (e := 5) (sz := 1) (by_ := 1) (n := 1) (c := 1) (m := 8) (d := c25) (t := 38) (ty := 38) (xs := by8 ([255] : List UInt8)) (news := by8 (putB x 8)) 0 rfl (by kernel_rfl) (H26.rdRow 1 rfl) (by first | (simp [by8_length]; done) | (rw [by8_length]; omega) | (rw [by8_length, putB_length])) (by8_one _) (by omega) (by simp only [maxLen]; omega)
        rw [← by8_append] at H33
        have H33 : Hp w [] [.row A29 9 c30 5 1 (by8 (([255] : List UInt8) ++ (putB x 8))), .row A24 8 c25 5 1 (by8 (putB x 8))] w31 := H33
        refine GL.sem (j := 4) (r32) [23] [(23, .slice A29 9 c30)] (by kernel_rfl) (by kernel_rfl) rfl ?_
        refine GL.run (j := 5) 1 [2] [(2, .slice A29 9 c30)] (by kernel_rfl) rfl ?_
        refine GL.k rfl hK19 (fun _ _ h => h) ?_
        refine G.ret ?_
        intro F_ hF_ hM_
        refine hRet _ _ (bodyPost_1 rfl (RV.tmp rfl) ?_ F_ hF_ hM_)
        have H34 : Hp w [] [.row A29 9 c30 5 1 (by8 (([255] : List UInt8) ++ (putB x 8)))] w31 := H33.sub (List.Sublist.cons_cons _ (List.Sublist.cons _ (List.Sublist.slnil)))
        have e0 : cntSz x = 9 ∧ cnt x = putB 255 1 ++ putB x 8 := by rcases cnt_cases x with ⟨_, a, b⟩ | ⟨_, _, a, b⟩ | ⟨_, _, a, b⟩ | ⟨_, a, b⟩ <;> first | exact ⟨a, b⟩ | (exfalso; omega)
        rw [e0.1, e0.2]
        exact ⟨_, _, rfl, H34⟩
      · skip
        have hb17f := of_decide_eq_true hb17
        refine G.yes rfl ?_
        refine G.seqK fun K35 hK36 => ?_
        refine G.region ?_
        obtain ⟨p37, w38, r39, H40⟩ := H.madeRow (P := Try.prog) (Instr.buildSlice 38 1 #[(0, .int .u8 254)]) (fun b_ => .slice (some ⟨b_, 0, none⟩) 1 1) [.int .u8 254] 5 1 1 1 (by kernel_rfl) (by decide) (by decide) rfl
        have H40 : Hp w [] [.row (some ⟨p37, 0, none⟩) 1 1 5 1 (by8 ([254] : List UInt8))] w38 := H40
        refine GL.sem (j := 1) (r39) [0, 16] [(0, .int .u64 (x : Int)), (16, .slice (some ⟨p37, 0, none⟩) 1 1)] (by kernel_rfl) (by kernel_rfl) rfl ?_
        refine GL.run (j := 2) 1 [16, 17] [(16, .slice (some ⟨p37, 0, none⟩) 1 1), (17, .int .u64 (x : Int))] (by kernel_rfl) rfl ?_
        refine GL.call (j := 3) (RPut_calls x 4 hx (by omega) w38) (by kernel_rfl) rfl (fun e_ w45 hR => ?_)
        obtain ⟨A41, c42, rfl, H44⟩ := hR
        have H43 : Hp w [] [.row (some ⟨p37, 0, none⟩) 1 1 5 1 (by8 ([254] : List UInt8)), .row A41 4 c42 5 1 (by8 (putB x 4))] w45 := H40.callNew H44
        refine ⟨_, rfl, [16, 18], [(16, .slice (some ⟨p37, 0, none⟩) 1 1), (18, .slice A41 4 c42)], by kernel_rfl, ?_⟩
        obtain ⟨A46, c47, w48, r49, H50⟩ := H43.append (P := Try.prog) (e := 5) (sz := 1) (by_ := 1) (n := 1) (c := 1) (m := 4) (d := c42) (t := 38) (ty := 38) (xs := by8 ([254] : List UInt8)) (news := by8 (putB x 4)) 0 rfl (by kernel_rfl) (H43.rdRow 1 rfl) (by first | (simp [by8_length]; done) | (rw [by8_length]; omega) | (rw [by8_length, putB_length])) (by8_one _) (by omega) (by simp only [maxLen]; omega)
        rw [← by8_append] at H50
        have H50 : Hp w [] [.row A46 5 c47 5 1 (by8 (([254] : List UInt8) ++ (putB x 4))), .row A41 4 c42 5 1 (by8 (putB x 4))] w48 := H50
        refine GL.sem (j := 4) (r49) [19] [(19, .slice A46 5 c47)] (by kernel_rfl) (by kernel_rfl) rfl ?_
        refine GL.run (j := 5) 1 [2] [(2, .slice A46 5 c47)] (by kernel_rfl) rfl ?_
        refine GL.k rfl hK36 (fun _ _ h => h) ?_
        refine G.ret ?_
        intro F_ hF_ hM_
        refine hRet _ _ (bodyPost_1 rfl (RV.tmp rfl) ?_ F_ hF_ hM_)
        have H51 : Hp w [] [.row A46 5 c47 5 1 (by8 (([254] : List UInt8) ++ (putB x 4)))] w48 := H50.sub (List.Sublist.cons_cons _ (List.Sublist.cons _ (List.Sublist.slnil)))
        have e0 : cntSz x = 5 ∧ cnt x = putB 254 1 ++ putB x 4 := by rcases cnt_cases x with ⟨_, a, b⟩ | ⟨_, _, a, b⟩ | ⟨_, _, a, b⟩ | ⟨_, a, b⟩ <;> first | exact ⟨a, b⟩ | (exfalso; omega)
        rw [e0.1, e0.2]
        exact ⟨_, _, rfl, H51⟩
    · skip
      have hb12f := of_decide_eq_true hb12
      refine G.yes rfl ?_
      refine G.seqK fun K52 hK53 => ?_
      refine G.region ?_
      obtain ⟨p54, w55, r56, H57⟩ := H.madeRow (P := Try.prog) (Instr.buildSlice 38 1 #[(0, .int .u8 253)]) (fun b_ => .slice (some ⟨b_, 0, none⟩) 1 1) [.int .u8 253] 5 1 1 1 (by kernel_rfl) (by decide) (by decide) rfl
      have H57 : Hp w [] [.row (some ⟨p54, 0, none⟩) 1 1 5 1 (by8 ([253] : List UInt8))] w55 := H57
      refine GL.sem (j := 1) (r56) [0, 10] [(0, .int .u64 (x : Int)), (10, .slice (some ⟨p54, 0, none⟩) 1 1)] (by kernel_rfl) (by kernel_rfl) rfl ?_
      refine GL.run (j := 2) 1 [10, 11] [(10, .slice (some ⟨p54, 0, none⟩) 1 1), (11, .int .u64 (x : Int))] (by kernel_rfl) rfl ?_
      refine GL.call (j := 3) (RPut_calls x 2 hx (by omega) w55) (by kernel_rfl) rfl (fun e_ w62 hR => ?_)
      obtain ⟨A58, c59, rfl, H61⟩ := hR
      have H60 : Hp w [] [.row (some ⟨p54, 0, none⟩) 1 1 5 1 (by8 ([253] : List UInt8)), .row A58 2 c59 5 1 (by8 (putB x 2))] w62 := H57.callNew H61
      refine ⟨_, rfl, [10, 12], [(10, .slice (some ⟨p54, 0, none⟩) 1 1), (12, .slice A58 2 c59)], by kernel_rfl, ?_⟩
      obtain ⟨A63, c64, w65, r66, H67⟩ := H60.append (P := Try.prog) (e := 5) (sz := 1) (by_ := 1) (n := 1) (c := 1) (m := 2) (d := c59) (t := 38) (ty := 38) (xs := by8 ([253] : List UInt8)) (news := by8 (putB x 2)) 0 rfl (by kernel_rfl) (H60.rdRow 1 rfl) (by first | (simp [by8_length]; done) | (rw [by8_length]; omega) | (rw [by8_length, putB_length])) (by8_one _) (by omega) (by simp only [maxLen]; omega)
      rw [← by8_append] at H67
      have H67 : Hp w [] [.row A63 3 c64 5 1 (by8 (([253] : List UInt8) ++ (putB x 2))), .row A58 2 c59 5 1 (by8 (putB x 2))] w65 := H67
      refine GL.sem (j := 4) (r66) [13] [(13, .slice A63 3 c64)] (by kernel_rfl) (by kernel_rfl) rfl ?_
      refine GL.run (j := 5) 1 [2] [(2, .slice A63 3 c64)] (by kernel_rfl) rfl ?_
      refine GL.k rfl hK53 (fun _ _ h => h) ?_
      refine G.ret ?_
      intro F_ hF_ hM_
      refine hRet _ _ (bodyPost_1 rfl (RV.tmp rfl) ?_ F_ hF_ hM_)
      have H68 : Hp w [] [.row A63 3 c64 5 1 (by8 (([253] : List UInt8) ++ (putB x 2)))] w65 := H67.sub (List.Sublist.cons_cons _ (List.Sublist.cons _ (List.Sublist.slnil)))
      have e0 : cntSz x = 3 ∧ cnt x = putB 253 1 ++ putB x 2 := by rcases cnt_cases x with ⟨_, a, b⟩ | ⟨_, _, a, b⟩ | ⟨_, _, a, b⟩ | ⟨_, a, b⟩ <;> first | exact ⟨a, b⟩ | (exfalso; omega)
      rw [e0.1, e0.2]
      exact ⟨_, _, rfl, H68⟩
  · skip
    have hb7f := of_decide_eq_true hb7
    refine G.yes rfl ?_
    refine G.seqK fun K69 hK70 => ?_
    refine G.region ?_
    refine GL.run (j := 2) 2 [6] [(6, .int .u8 (IntKind.u8.wrap (x : Int)))] (by kernel_rfl) rfl ?_
    have e71 : (IntKind.u8.wrap (x : Int)) = ((UInt8.ofNat x).toNat : Int) := n_byte _
    refine GL.eq (M' := [(6, .int .u8 ((UInt8.ofNat x).toNat : Int))]) (by rw [e71]) ?_
    clear e71
    obtain ⟨p72, w73, r74, H75⟩ := H.madeRow (P := Try.prog) (Instr.buildSlice 38 1 #[(0, .int .u8 ((UInt8.ofNat x).toNat : Int))]) (fun b_ => .slice (some ⟨b_, 0, none⟩) 1 1) [.int .u8 ((UInt8.ofNat x).toNat : Int)] 5 1 1 1 (by kernel_rfl) (by decide) (by decide) rfl
    have H75 : Hp w [] [.row (some ⟨p72, 0, none⟩) 1 1 5 1 (by8 ([(UInt8.ofNat x)] : List UInt8))] w73 := H75
    refine GL.sem (j := 3) (r74) [7] [(7, .slice (some ⟨p72, 0, none⟩) 1 1)] (by kernel_rfl) (by kernel_rfl) rfl ?_
    refine GL.run (j := 4) 1 [2] [(2, .slice (some ⟨p72, 0, none⟩) 1 1)] (by kernel_rfl) rfl ?_
    refine GL.k rfl hK70 (fun _ _ h => h) ?_
    refine G.ret ?_
    intro F_ hF_ hM_
    refine hRet _ _ (bodyPost_1 rfl (RV.tmp rfl) ?_ F_ hF_ hM_)
    have e0 : cntSz x = 1 ∧ cnt x = putB x 1 := by rcases cnt_cases x with ⟨_, a, b⟩ | ⟨_, _, a, b⟩ | ⟨_, _, a, b⟩ | ⟨_, a, b⟩ <;> first | exact ⟨a, b⟩ | (exfalso; omega)
    rw [e0.1, e0.2]
    exact ⟨_, _, rfl, H75⟩
end Go.Proofs.Ytcedmbdahbdmaaa
namespace Go.Proofs.Ytcedmbdahbdmaaa
open Go.RowKit
theorem strCells_of (bs : List UInt8) : Lib.strCells (strOf bs) = by8 bs := by
  unfold Lib.strCells by8
  rfl
def u8Row (P : Program) (t : TypeId) : Option TypeId :=
  match P.underlying t with
  | some (.slice e) => match P.info? e with
    | some i => match i.zero with
      | some (.int .u8 n) => if n = 0 ∧ i.size = 1 ∧ i.bytes = 1 then some e else none
      | _ => none
    | none => none
  | _ => none
theorem u8Row_spec {P : Program} {t e : TypeId} (h : u8Row P t = some e) : ∃ i, P.underlying t = some (.slice e) ∧ P.info? e = some i ∧ i.zero = some (.int .u8 0) ∧ i.size = 1 ∧ i.bytes = 1 := by
  unfold u8Row at h
  split at h
  · rename_i e' he
    split at h
    · rename_i i hi
      split at h
      · rename_i n hz
        split at h
        · rename_i hc
          injection h with h
          subst h
          obtain ⟨rfl, h1, h2⟩ := hc
          exact ⟨i, he, hi, hz, h1, h2⟩
        · cases h
      · cases h
    · cases h
  · cases h
section
variable {P : Program} {w0 w : World} {S : List Nat} {L : List Ent}
theorem Hp.appendStr (H : Hp w0 S L w) (i : Nat) {A : Option Addr} {n c t u ty e : Nat} {xs : List Value} (bs : List UInt8) (hL : L[i]? = some (.row A n c e 1 xs)) (ht : u8Row P t = some e) (hu : isStr P u = true) (hb : n + bs.length ≤ 140737488355328) :
    ∃ A' c' w', (Builtin.append_ #[t, u] ty #[.slice A n c, .string (strOf bs)]).run P w = .ok (.slice A' (n + bs.length) c') w' ∧ Hp w0 S (L.set i (.row A' (n + bs.length) c' e 1 (xs ++ by8 bs))) w' := by
  obtain ⟨inf, hut, hi, hz, hsz, hby⟩ := u8Row_spec ht
  have hown := H.rowAt i hL
  have h63 : n + bs.length ≤ maxLen := by simp only [maxLen]; omega
  have hus := isStr_spec hu
  obtain ⟨v', w', hrun, hown', hg, hnil⟩ := Lib.run_append_own_string (P := P) w 0 t u ty e inf hut hus hi hz hsz hby (.slice A n c) n xs hown (strOf bs) (by rw [strOf_size]; exact h63) (by rw [strOf_size]; exact hb) (Nat.zero_le _)
  have hat : v'.ownBlock = (Value.slice A n c).ownBlock ∨ v'.ownBlock = some w.heap.size := by
    rcases hown.2 with ⟨h0, hn⟩ | ⟨g, cap, cur, hv, _, hh, hnc, hcm, hcs, hx⟩
    · by_cases h : (strOf bs).size = 0
      · left
        rw [hnil.2 ⟨h0, h⟩, h0]
      · right
        have hr := run_append_nil_string (P := P) w t u ty e inf (.int .u8 0) hut hus hi hz (strOf bs) (by omega) (by rw [strOf_size]; omega) (by rw [strOf_size, hby]; omega)
        rw [h0, hr] at hrun
        injection hrun with h1
        rw [← h1]
        rfl
    · by_cases hroom : n + (strOf bs).size ≤ cap
      · left
        have hcs' : cur.size = cap := by simpa using hcs
        have hr := Lib.run_append_room_string (P := P) w t u ty e inf hut hus hi hsz g n cap cur hh (strOf bs) hroom (by omega)
        rw [hv, hr] at hrun
        injection hrun with h1
        rw [← h1, hv]
        rfl
      · right
        have hxl : xs.length = n := by simpa using hown.1
        have holds : ∀ j u, xs[j]? = some u → w.cell? ((⟨g, 0, none⟩ : Addr).add j) = some u := by
          have ho := hown
          rw [hv] at ho
          exact ho.cells (g := g) rfl
        have hr := Lib.run_append_grow_string (P := P) w t u ty e inf (.int .u8 0) hut hus hi hz ⟨g, 0, none⟩ n cap xs (by rw [hsz]; simpa using hxl) holds (strOf bs) (by omega) (by rw [strOf_size]; omega) (by rw [hby]; exact growslice_fits (by omega) (by rw [strOf_size]; omega))
        rw [hv, hr] at hrun
        injection hrun with h1
        rw [← h1]
        rfl
  rw [strOf_size, strCells_of] at hown'
  obtain ⟨A', c', rfl⟩ := row_shape hown'
  refine ⟨A', c', w', hrun, H.turnNew i hL ?_ own_ids hown' hg.os hg.tape hg.output hg.size ?_⟩
  · intro k hk
    have hk' : (Value.slice A' (n + bs.length) c').ownBlock = some k := by
      cases A' with
      | none => simp [Ent.ids] at hk
      | some a' => simp [Ent.ids] at hk; simp [Value.ownBlock, hk]
    rcases hat with hat | hat
    · rw [hat] at hk'
      left
      cases A with
      | none => simp [Value.ownBlock] at hk'
      | some a0 => simp [Value.ownBlock] at hk'; simp [Ent.ids, hk']
    · rw [hat] at hk'
      injection hk' with hk'
      right
      omega
  · intro k hk hke
    refine hg.block k hk (fun h => hke ?_)
    cases A with
    | none => simp [Value.ownBlock] at h
    | some a0 => simp [Value.ownBlock] at h; simp [Ent.ids, h]
end
end Go.Proofs.Ytcedmbdahbdmaaa
set_option maxRecDepth 100000
namespace Go.Proofs.Ytcedmbdahbdmaaa
open Go.RowKit
theorem RWrite_calls (v : Nat) (ins : List TIn) (A : Option Addr) (ca : Nat) (outs : List TOut) (B : Option Addr) (cb : Nat) (lt : Nat) (w : World) (hv : v < 4294967296) (hlt : lt < 4294967296) (hIns : RdS w A (insR ins)) (hI : ∀ x ∈ ins, x.fr.length = 32 ∧ x.ix < 4294967296 ∧ x.sq < 4294967296 ∧ x.kb.length ≤ 600) (hOuts : RdS w B (outsR outs)) (hO : ∀ x ∈ outs, x.pv < 18446744073709551616 ∧ x.lb.length ≤ 600) (hni : ins.length ≤ 70) (hno : outs.length ≤ 70) : Calls Try.prog 19 #[.agg #[.int .u64 (v : Int), .int .u64 (lt : Int), .slice A ins.length ca, .slice B outs.length cb]] w fun e w' => ∃ A' n' c', e = .returned (.slice A' n' c') ∧ Hp w [] [.row A' n' c' 5 1 (by8 (txB v ins outs lt))] w' := by
  have hK0 : K = 18446744073709551616 := rfl
  refine calls_G (args := [.agg #[.int .u64 (v : Int), .int .u64 (lt : Int), .slice A ins.length ca, .slice B outs.length cb]]) Try.func19 rfl Try.ntmps19 rfl ?_
  intro Q0 hRet hNor hPan
  have H := Hp.start w
  have H : Hp w [] [] w := H
  refine G.seqK fun K1 hK2 => ?_
  refine G.region ?_
  obtain ⟨p3, w4, r5, H6⟩ := H.box (P := Try.prog) 64 [.int .u64 (v : Int), .int .u64 (lt : Int), .slice A ins.length ca, .slice B outs.length cb] (.agg #[.int .u64 (v : Int), .int .u64 (lt : Int), .slice A ins.length ca, .slice B outs.length cb]) rfl
  have H6 : Hp w [] [.blk p3 [.int .u64 (v : Int), .int .u64 (lt : Int), .slice A ins.length ca, .slice B outs.length cb] 64] w4 := H6
  refine GL.sem (j := 1) (r5) [1] [(1, pt p3 0)] (by kernel_rfl) (by kernel_rfl) rfl ?_
  refine GL.run (j := 2) 1 [1] [(1, pt p3 0)] (by kernel_rfl) rfl ?_
  refine GL.k rfl hK2 (fun _ _ h => h) ?_
  refine G.seqK fun K7 hK8 => ?_
  refine G.region ?_
  refine GL.run (j := 1) 1 [1, 9] [(1, pt p3 0), (9, pt p3 0)] (by kernel_rfl) rfl ?_
  refine GL.sem (j := 2) (H6.ld (o := 0) (ty := 31) (v := .int .u64 (v : Int)) 0 rfl (by kernel_rfl) rfl) [1, 10] [(1, pt p3 0), (10, .int .u64 (v : Int))] (by kernel_rfl) (by kernel_rfl) rfl ?_
  refine GL.call (j := 3) (RPut_calls v 4 (Nat.lt_trans hv (by decide)) (by omega) w4) (by kernel_rfl) rfl (fun e_ w13 hR => ?_)
  obtain ⟨A9, c10, rfl, H12⟩ := hR
  have H11 : Hp w [] [.blk p3 [.int .u64 (v : Int), .int .u64 (lt : Int), .slice A ins.length ca, .slice B outs.length cb] 64, .row A9 4 c10 5 1 (by8 (putB v 4))] w13 := H6.callNew H12
  refine ⟨_, rfl, [1, 11], [(1, pt p3 0), (11, .slice A9 4 c10)], by kernel_rfl, ?_⟩
  refine GL.run (j := 4) 1 [1, 3] [(1, pt p3 0), (3, .slice A9 4 c10)] (by kernel_rfl) rfl ?_
  refine GL.k rfl hK8 (fun _ _ h => h) ?_
  refine G.seqK fun K14 hK15 => ?_
  refine G.region ?_
  refine GL.run (j := 2) 2 [1, 12, 13] [(1, pt p3 0), (12, .slice A9 4 c10), (13, pt p3 2)] (by kernel_rfl) rfl ?_
  refine GL.sem (j := 3) (H11.ld (o := 2) (ty := 61) (v := .slice A ins.length ca) 0 rfl (by kernel_rfl) rfl) [1, 12, 14] [(1, pt p3 0), (12, .slice A9 4 c10), (14, .slice A ins.length ca)] (by kernel_rfl) (by kernel_rfl) rfl ?_
  refine GL.run (j := 5) 2 [1, 12, 16] [(1, pt p3 0), (12, .slice A9 4 c10), (16, .int .u64 (IntKind.u64.wrap (ins.length : Int)))] (by kernel_rfl) rfl ?_
  have e16 : (IntKind.u64.wrap (ins.length : Int)) = (ins.length : Int) := in_u64 (by omega)
  refine GL.eq (M' := [(1, pt p3 0), (12, .slice A9 4 c10), (16, .int .u64 (ins.length : Int))]) (by rw [e16]) ?_
  clear e16
  have hcA17 := cntSz_le ins.length
  refine GL.call (j := 6) (RCnt_calls ins.length (by omega) w13) (by kernel_rfl) rfl (fun e_ w21 hR => ?_)
  obtain ⟨A17, c18, rfl, H20⟩ := hR
  have H19 : Hp w [] [.blk p3 [.int .u64 (v : Int), .int .u64 (lt : Int), .slice A ins.length ca, .slice B outs.length cb] 64, .row A9 4 c10 5 1 (by8 (putB v 4)), .row A17 (cntSz ins.length) c18 5 1 (by8 (cnt ins.length))] w21 := H11.callNew H20
  refine ⟨_, rfl, [1, 12, 17], [(1, pt p3 0), (12, .slice A9 4 c10), (17, .slice A17 (cntSz ins.length) c18)], by kernel_rfl, ?_⟩
  obtain ⟨A22, c23, w24, r25, H26⟩ := H19.append (P := Try.prog) (e := 5) (sz := 1) (by_ := 1) (n := 4) (c := c10) (m := (cntSz ins.length)) (d := c18) (t := 38) (ty := 38) (xs := by8 (putB v 4)) (news := by8 (cnt ins.length)) 1 rfl (by kernel_rfl) (H19.rdRow 2 rfl) (by rw [by8_length, cnt_length, Nat.mul_one]) (by8_one _) (by omega) (by simp only [maxLen]; omega)
  rw [← by8_append] at H26
  have H26 : Hp w [] [.blk p3 [.int .u64 (v : Int), .int .u64 (lt : Int), .slice A ins.length ca, .slice B outs.length cb] 64, .row A22 (4 + (cntSz ins.length)) c23 5 1 (by8 ((putB v 4) ++ (cnt ins.length))), .row A17 (cntSz ins.length) c18 5 1 (by8 (cnt ins.length))] w24 := H26
  refine GL.sem (j := 7) (r25) [1, 18] [(1, pt p3 0), (18, .slice A22 (4 + (cntSz ins.length)) c23)] (by kernel_rfl) (by kernel_rfl) rfl ?_
  refine GL.run (j := 8) 1 [1, 3] [(1, pt p3 0), (3, .slice A22 (4 + (cntSz ins.length)) c23)] (by kernel_rfl) rfl ?_
  refine GL.k rfl hK15 (fun _ _ h => h) ?_
  refine G.seqK fun K27 hK28 => ?_
  refine G.seqK fun K29 hK30 => ?_
  refine G.region ?_
  refine GL.run (j := 1) 1 [1, 3, 19] [(1, pt p3 0), (3, .slice A22 (4 + (cntSz ins.length)) c23), (19, pt p3 2)] (by kernel_rfl) rfl ?_
  refine GL.sem (j := 2) (H26.ld (o := 2) (ty := 61) (v := .slice A ins.length ca) 0 rfl (by kernel_rfl) rfl) [1, 3, 20] [(1, pt p3 0), (3, .slice A22 (4 + (cntSz ins.length)) c23), (20, .slice A ins.length ca)] (by kernel_rfl) (by kernel_rfl) rfl ?_
  refine GL.run (j := 4) 2 [1, 3, 20, 21, 22] [(1, pt p3 0), (3, .slice A22 (4 + (cntSz ins.length)) c23), (20, .slice A ins.length ca), (21, .int .i64 (ins.length : Int)), (22, .int .i64 0)] (by kernel_rfl) rfl ?_
  refine GL.k rfl hK30 (fun _ _ h => h) ?_
  refine G.block ?_
  have H31 : Hp w [] [.blk p3 [.int .u64 (v : Int), .int .u64 (lt : Int), .slice A ins.length ca, .slice B outs.length cb] 64, .row A22 (4 + (cntSz ins.length)) c23 5 1 (by8 ((putB v 4) ++ (cnt ins.length)))] w24 := H26.sub (List.Sublist.cons_cons _ (List.Sublist.cons_cons _ (List.Sublist.cons _ (List.Sublist.slnil))))
  refine G.fit [1, 3, 20, 21, 22] (M' := [(1, pt p3 0), (3, .slice A22 (4 + (cntSz ins.length)) c23), (20, .slice A ins.length ca), (21, .int .i64 (ins.length : Int)), (22, .int .i64 0)]) (by kernel_rfl) ?_
  refine G.loop (X := Nat × Option Addr × Nat × Nat × List UInt8) (fun ⟨i, A_i, c_i, m_i, b_i⟩ => [(1, pt p3 0), (3, .slice A_i m_i c_i), (20, .slice A ins.length ca), (21, .int .i64 (ins.length : Int)), (22, .int .i64 (i : Int))]) (fun ⟨i, A_i, c_i, m_i, b_i⟩ w_ => (i ≤ ins.length ∧ b_i = ((putB v 4) ++ (cnt ins.length)) ++ insB (ins.take i) ∧ m_i ≤ (4 + (cntSz ins.length)) + 700 * i) ∧ Hp w [] [.blk p3 [.int .u64 (v : Int), .int .u64 (lt : Int), .slice A ins.length ca, .slice B outs.length cb] 64, .row A_i m_i c_i 5 1 (by8 b_i)] w_) (fun ⟨i, A_i, c_i, m_i, b_i⟩ => ins.length - i) ⟨0, A22, c23, (4 + (cntSz ins.length)), ((putB v 4) ++ (cnt ins.length))⟩ [1, 3, 20, 21, 22] (by kernel_rfl) ⟨⟨Nat.zero_le _, by rw [List.take_zero]; exact (List.append_nil _).symm, by omega⟩, H31⟩ ?_
  rintro ⟨i, A_i, c_i, m_i, b_i⟩ w32 ⟨hi33, H34⟩
  refine G.eq (M' := [(1, pt p3 0), (3, .slice A_i m_i c_i), (20, .slice A ins.length ca), (21, .int .i64 (ins.length : Int)), (22, .int .i64 (i : Int))]) rfl ?_
  have H34 : Hp w [] [.blk p3 [.int .u64 (v : Int), .int .u64 (lt : Int), .slice A ins.length ca, .slice B outs.length cb] 64, .row A_i m_i c_i 5 1 (by8 b_i)] w32 := H34
  obtain ⟨hil, hbi, hmi⟩ := hi33
  refine G.seqK fun K35 hK36 => ?_
  refine G.region ?_
  refine GL.run (j := 1) 1 [1, 3, 20, 21, 22, 23] [(1, pt p3 0), (3, .slice A_i m_i c_i), (20, .slice A ins.length ca), (21, .int .i64 (ins.length : Int)), (22, .int .i64 (i : Int)), (23, .bool (decide ((i : Int) < (ins.length : Int))))] (by kernel_rfl) rfl ?_
  refine GL.k rfl hK36 (fun _ _ h => h) ?_
  refine G.seqK fun K37 hK38 => ?_
  cases hb39 : (decide ((i : Int) < (ins.length : Int)))
  · skip
    have hb39f := of_decide_eq_false hb39
    refine G.no rfl ?_
    refine G.exitK hK28 (fun _ _ h => h) ?_
    refine G.seqK fun K40 hK41 => ?_
    refine G.region ?_
    refine GL.run (j := 2) 2 [1, 59, 60] [(1, pt p3 0), (59, .slice A_i m_i c_i), (60, pt p3 3)] (by kernel_rfl) rfl ?_
    refine GL.sem (j := 3) (H34.ld (o := 3) (ty := 62) (v := .slice B outs.length cb) 0 rfl (by kernel_rfl) rfl) [1, 59, 61] [(1, pt p3 0), (59, .slice A_i m_i c_i), (61, .slice B outs.length cb)] (by kernel_rfl) (by kernel_rfl) rfl ?_
    refine GL.run (j := 5) 2 [1, 59, 63] [(1, pt p3 0), (59, .slice A_i m_i c_i), (63, .int .u64 (IntKind.u64.wrap (outs.length : Int)))] (by kernel_rfl) rfl ?_
    have e42 : (IntKind.u64.wrap (outs.length : Int)) = (outs.length : Int) := in_u64 (by omega)
    refine GL.eq (M' := [(1, pt p3 0), (59, .slice A_i m_i c_i), (63, .int .u64 (outs.length : Int))]) (by rw [e42]) ?_
    clear e42
    have hcA43 := cntSz_le outs.length
    refine GL.call (j := 6) (RCnt_calls outs.length (by omega) w32) (by kernel_rfl) rfl (fun e_ w47 hR => ?_)
    obtain ⟨A43, c44, rfl, H46⟩ := hR
    have H45 : Hp w [] [.blk p3 [.int .u64 (v : Int), .int .u64 (lt : Int), .slice A ins.length ca, .slice B outs.length cb] 64, .row A_i m_i c_i 5 1 (by8 b_i), .row A43 (cntSz outs.length) c44 5 1 (by8 (cnt outs.length))] w47 := H34.callNew H46
    refine ⟨_, rfl, [1, 59, 64], [(1, pt p3 0), (59, .slice A_i m_i c_i), (64, .slice A43 (cntSz outs.length) c44)], by kernel_rfl, ?_⟩
    obtain ⟨A48, c49, w50, r51, H52⟩ := H45.append (P := Try.prog) (e := 5) (sz := 1) (by_ := 1) (n := m_i) (c := c_i) (m := (cntSz outs.length)) (d := c44) (t := 38) (ty := 38) (xs := by8 b_i) (news := by8 (cnt outs.length)) 1 rfl (by kernel_rfl) (H45.rdRow 2 rfl) (by rw [by8_length, cnt_length, Nat.mul_one]) (by8_one _) (by omega) (by simp only [maxLen]; omega)
    rw [← by8_append] at H52
    have H52 : Hp w [] [.blk p3 [.int .u64 (v : Int), .int .u64 (lt : Int), .slice A ins.length ca, .slice B outs.length cb] 64, .row A48 (m_i + (cntSz outs.length)) c49 5 1 (by8 (b_i ++ (cnt outs.length))), .row A43 (cntSz outs.length) c44 5 1 (by8 (cnt outs.length))] w50 := H52
    refine GL.sem (j := 7) (r51) [1, 65] [(1, pt p3 0), (65, .slice A48 (m_i + (cntSz outs.length)) c49)] (by kernel_rfl) (by kernel_rfl) rfl ?_
    refine GL.run (j := 8) 1 [1, 3] [(1, pt p3 0), (3, .slice A48 (m_i + (cntSz outs.length)) c49)] (by kernel_rfl) rfl ?_
    refine GL.k rfl hK41 (fun _ _ h => h) ?_
    refine G.seqK fun K53 hK54 => ?_
    refine G.seqK fun K55 hK56 => ?_
    refine G.region ?_
    refine GL.run (j := 1) 1 [1, 3, 66] [(1, pt p3 0), (3, .slice A48 (m_i + (cntSz outs.length)) c49), (66, pt p3 3)] (by kernel_rfl) rfl ?_
    refine GL.sem (j := 2) (H52.ld (o := 3) (ty := 62) (v := .slice B outs.length cb) 0 rfl (by kernel_rfl) rfl) [1, 3, 67] [(1, pt p3 0), (3, .slice A48 (m_i + (cntSz outs.length)) c49), (67, .slice B outs.length cb)] (by kernel_rfl) (by kernel_rfl) rfl ?_
    refine GL.run (j := 4) 2 [1, 3, 67, 68, 69] [(1, pt p3 0), (3, .slice A48 (m_i + (cntSz outs.length)) c49), (67, .slice B outs.length cb), (68, .int .i64 (outs.length : Int)), (69, .int .i64 0)] (by kernel_rfl) rfl ?_
    refine GL.k rfl hK56 (fun _ _ h => h) ?_
    refine G.block ?_
    have H57 : Hp w [] [.blk p3 [.int .u64 (v : Int), .int .u64 (lt : Int), .slice A ins.length ca, .slice B outs.length cb] 64, .row A48 (m_i + (cntSz outs.length)) c49 5 1 (by8 (b_i ++ (cnt outs.length)))] w50 := H52.sub (List.Sublist.cons_cons _ (List.Sublist.cons_cons _ (List.Sublist.cons _ (List.Sublist.slnil))))
    refine G.fit [1, 3, 67, 68, 69] (M' := [(1, pt p3 0), (3, .slice A48 (m_i + (cntSz outs.length)) c49), (67, .slice B outs.length cb), (68, .int .i64 (outs.length : Int)), (69, .int .i64 0)]) (by kernel_rfl) ?_
    refine G.loop (X := Nat × Option Addr × Nat × Nat × List UInt8) (fun ⟨j, A_j, c_j, m_j, b_j⟩ => [(1, pt p3 0), (3, .slice A_j m_j c_j), (67, .slice B outs.length cb), (68, .int .i64 (outs.length : Int)), (69, .int .i64 (j : Int))]) (fun ⟨j, A_j, c_j, m_j, b_j⟩ w_ => (j ≤ outs.length ∧ b_j = (b_i ++ (cnt outs.length)) ++ outsB (outs.take j) ∧ m_j ≤ (m_i + (cntSz outs.length)) + 700 * j) ∧ Hp w [] [.blk p3 [.int .u64 (v : Int), .int .u64 (lt : Int), .slice A ins.length ca, .slice B outs.length cb] 64, .row A_j m_j c_j 5 1 (by8 b_j)] w_) (fun ⟨j, A_j, c_j, m_j, b_j⟩ => outs.length - j) ⟨0, A48, c49, (m_i + (cntSz outs.length)), (b_i ++ (cnt outs.length))⟩ [1, 3, 67, 68, 69] (by kernel_rfl) ⟨⟨Nat.zero_le _, by rw [List.take_zero]; exact (List.append_nil _).symm, by omega⟩, H57⟩ ?_
    rintro ⟨j, A_j, c_j, m_j, b_j⟩ w58 ⟨hi59, H60⟩
    refine G.eq (M' := [(1, pt p3 0), (3, .slice A_j m_j c_j), (67, .slice B outs.length cb), (68, .int .i64 (outs.length : Int)), (69, .int .i64 (j : Int))]) rfl ?_
    have H60 : Hp w [] [.blk p3 [.int .u64 (v : Int), .int .u64 (lt : Int), .slice A ins.length ca, .slice B outs.length cb] 64, .row A_j m_j c_j 5 1 (by8 b_j)] w58 := H60
    obtain ⟨hjl, hbj, hmj⟩ := hi59
    refine G.seqK fun K61 hK62 => ?_
    refine G.region ?_
    refine GL.run (j := 1) 1 [1, 3, 67, 68, 69, 70] [(1, pt p3 0), (3, .slice A_j m_j c_j), (67, .slice B outs.length cb), (68, .int .i64 (outs.length : Int)), (69, .int .i64 (j : Int)), (70, .bool (decide ((j : Int) < (outs.length : Int))))] (by kernel_rfl) rfl ?_
    refine GL.k rfl hK62 (fun _ _ h => h) ?_
    refine G.seqK fun K63 hK64 => ?_
    cases hb65 : (decide ((j : Int) < (outs.length : Int)))
    · skip
      have hb65f := of_decide_eq_false hb65
      refine G.no rfl ?_
      refine G.exitK hK54 (fun _ _ h => h) ?_
      refine G.seqK fun K66 hK67 => ?_
      refine G.region ?_
      refine GL.run (j := 2) 2 [90, 91] [(90, .slice A_j m_j c_j), (91, pt p3 1)] (by kernel_rfl) rfl ?_
      refine GL.sem (j := 3) (H60.ld (o := 1) (ty := 31) (v := .int .u64 (lt : Int)) 0 rfl (by kernel_rfl) rfl) [90, 92] [(90, .slice A_j m_j c_j), (92, .int .u64 (lt : Int))] (by kernel_rfl) (by kernel_rfl) rfl ?_
      refine GL.call (j := 4) (RPut_calls lt 4 (Nat.lt_trans hlt (by decide)) (by omega) w58) (by kernel_rfl) rfl (fun e_ w72 hR => ?_)
      obtain ⟨A68, c69, rfl, H71⟩ := hR
      have H70 : Hp w [] [.blk p3 [.int .u64 (v : Int), .int .u64 (lt : Int), .slice A ins.length ca, .slice B outs.length cb] 64, .row A_j m_j c_j 5 1 (by8 b_j), .row A68 4 c69 5 1 (by8 (putB lt 4))] w72 := H60.callNew H71
      refine ⟨_, rfl, [90, 93], [(90, .slice A_j m_j c_j), (93, .slice A68 4 c69)], by kernel_rfl, ?_⟩
      obtain ⟨A73, c74, w75, r76, H77⟩ := H70.append (P := Try.prog) (e := 5) (sz := 1) (by_ := 1) (n := m_j) (c := c_j) (m := 4) (d := c69) (t := 38) (ty := 38) (xs := by8 b_j) (news := by8 (putB lt 4)) 1 rfl (by kernel_rfl) (H70.rdRow 2 rfl) (by first | (simp [by8_length]; done) | (rw [by8_length]; omega) | (rw [by8_length, putB_length])) (by8_one _) (by omega) (by simp only [maxLen]; omega)
      rw [← by8_append] at H77
      have H77 : Hp w [] [.blk p3 [.int .u64 (v : Int), .int .u64 (lt : Int), .slice A ins.length ca, .slice B outs.length cb] 64, .row A73 (m_j + 4) c74 5 1 (by8 (b_j ++ (putB lt 4))), .row A68 4 c69 5 1 (by8 (putB lt 4))] w75 := H77
      refine GL.sem (j := 5) (r76) [94] [(94, .slice A73 (m_j + 4) c74)] (by kernel_rfl) (by kernel_rfl) rfl ?_
      refine GL.run (j := 6) 1 [2] [(2, .slice A73 (m_j + 4) c74)] (by kernel_rfl) rfl ?_
      refine GL.k rfl hK67 (fun _ _ h => h) ?_
      refine G.ret ?_
      intro F_ hF_ hM_
      refine hRet _ _ (bodyPost_1 rfl (RV.tmp rfl) ?_ F_ hF_ hM_)
      have H78 : Hp w [] [.row A73 (m_j + 4) c74 5 1 (by8 (b_j ++ (putB lt 4)))] w75 := H77.sub (List.Sublist.cons _ (List.Sublist.cons_cons _ (List.Sublist.cons _ (List.Sublist.slnil))))
      have HF := H78
      have eB : (b_j ++ (putB lt 4)) = txB v ins outs lt := by rw [hbj, hbi, List.take_of_length_le (show ins.length ≤ i by omega), List.take_of_length_le (show outs.length ≤ j by omega)]; simp only [txB, List.append_assoc, List.nil_append]
      rw [eB] at HF
      exact ⟨_, _, _, rfl, HF⟩
    · skip
      have hb65f := of_decide_eq_true hb65
      refine G.yes rfl ?_
      refine G.skipK hK64 (fun _ _ h => h) ?_
      refine G.seqK fun K79 hK80 => ?_
      refine G.block ?_
      refine G.seqK fun K81 hK82 => ?_
      refine G.region ?_
      obtain ⟨x83, hx84⟩ : ∃ x, outs[j]? = some x := ⟨_, List.getElem?_eq_getElem (by omega)⟩
      have hok85 := hO x83 (List.mem_of_getElem? hx84)
      have hpvx83 : x83.pv < K := hok85.1
      have hllx83 := hok85.2
      have hczx83 := cntSz_le x83.lb.length
      refine GL.sem (j := 1) (run_idxRdN (P := Try.prog) (k := .i64) (t := 62) (sz := 2) (A := B) (len := outs.length) (cap := cb) (j := j) (by kernel_rfl) rfl (hOuts.hp H60) (outsR_length _) (by decide) (by omega)) [1, 3, 67, 68, 69, 71] [(1, pt p3 0), (3, .slice A_j m_j c_j), (67, .slice B outs.length cb), (68, .int .i64 (outs.length : Int)), (69, .int .i64 (j : Int)), (71, .pointer (Option.map (fun x => Addr.add x (j * 2)) B))] (by kernel_rfl) (by kernel_rfl) rfl ?_
      refine GL.sem (j := 2) (run_ldRdA (P := Try.prog) (ty := 91) (A := B) (o := (j * 2)) (m := 2) (sub := [.int .u64 (x83.pv : Int), .string (strOf x83.lb)]) (by kernel_rfl) (hOuts.hp H60) (outsR_cut hx84) (rfl) (by decide)) [1, 3, 67, 68, 69, 72] [(1, pt p3 0), (3, .slice A_j m_j c_j), (67, .slice B outs.length cb), (68, .int .i64 (outs.length : Int)), (69, .int .i64 (j : Int)), (72, .agg #[.int .u64 (x83.pv : Int), .string (strOf x83.lb)])] (by kernel_rfl) (by kernel_rfl) rfl ?_
      obtain ⟨p86, w87, r88, H89⟩ := H60.alloc (P := Try.prog) 91 [.int .u64 0, .string ⟨#[]⟩] (by kernel_rfl)
      have H89 : Hp w [] [.blk p3 [.int .u64 (v : Int), .int .u64 (lt : Int), .slice A ins.length ca, .slice B outs.length cb] 64, .row A_j m_j c_j 5 1 (by8 b_j), .blk p86 [.int .u64 0, .string ⟨#[]⟩] 91] w87 := H89
      refine GL.sem (j := 3) (r88) [1, 3, 8, 67, 68, 69, 72] [(1, pt p3 0), (3, .slice A_j m_j c_j), (8, pt p86 0), (67, .slice B outs.length cb), (68, .int .i64 (outs.length : Int)), (69, .int .i64 (j : Int)), (72, .agg #[.int .u64 (x83.pv : Int), .string (strOf x83.lb)])] (by kernel_rfl) (by kernel_rfl) rfl ?_
      obtain ⟨w90, r91, H92⟩ := H89.stA (P := Try.prog) (o := 0) (vs := [.int .u64 (x83.pv : Int), .string (strOf x83.lb)]) (ty := 91) (m := 2) 2 rfl (by kernel_rfl) rfl (by simp) (by simp [Value.oneCell'])
      have H92 : Hp w [] [.blk p3 [.int .u64 (v : Int), .int .u64 (lt : Int), .slice A ins.length ca, .slice B outs.length cb] 64, .row A_j m_j c_j 5 1 (by8 b_j), .blk p86 [.int .u64 (x83.pv : Int), .string (strOf x83.lb)] 91] w90 := H92
      refine GL.semU (j := 4) r91 [1, 3, 8, 67, 68, 69] [(1, pt p3 0), (3, .slice A_j m_j c_j), (8, pt p86 0), (67, .slice B outs.length cb), (68, .int .i64 (outs.length : Int)), (69, .int .i64 (j : Int))] (by kernel_rfl) rfl rfl rfl ?_
      refine GL.k rfl hK82 (fun _ _ h => h) ?_
      refine G.seqK fun K93 hK94 => ?_
      refine G.region ?_
      refine GL.run (j := 2) 2 [1, 8, 67, 68, 69, 73, 74] [(1, pt p3 0), (8, pt p86 0), (67, .slice B outs.length cb), (68, .int .i64 (outs.length : Int)), (69, .int .i64 (j : Int)), (73, .slice A_j m_j c_j), (74, pt p86 0)] (by kernel_rfl) rfl ?_
      refine GL.sem (j := 3) (H92.ld (o := 0) (ty := 31) (v := .int .u64 (x83.pv : Int)) 2 rfl (by kernel_rfl) rfl) [1, 8, 67, 68, 69, 73, 75] [(1, pt p3 0), (8, pt p86 0), (67, .slice B outs.length cb), (68, .int .i64 (outs.length : Int)), (69, .int .i64 (j : Int)), (73, .slice A_j m_j c_j), (75, .int .u64 (x83.pv : Int))] (by kernel_rfl) (by kernel_rfl) rfl ?_
      refine GL.call (j := 4) (RPut_calls x83.pv 8 hpvx83 (by omega) w90) (by kernel_rfl) rfl (fun e_ w99 hR => ?_)
      obtain ⟨A95, c96, rfl, H98⟩ := hR
      have H97 : Hp w [] [.blk p3 [.int .u64 (v : Int), .int .u64 (lt : Int), .slice A ins.length ca, .slice B outs.length cb] 64, .row A_j m_j c_j 5 1 (by8 b_j), .blk p86 [.int .u64 (x83.pv : Int), .string (strOf x83.lb)] 91, .row A95 8 c96 5 1 (by8 (putB x83.pv 8))] w99 := H92.callNew H98
      refine ⟨_, rfl, [1, 8, 67, 68, 69, 73, 76], [(1, pt p3 0), (8, pt p86 0), (67, .slice B outs.length cb), (68, .int .i64 (outs.length : Int)), (69, .int .i64 (j : Int)), (73, .slice A_j m_j c_j), (76, .slice A95 8 c96)], by kernel_rfl, ?_⟩
      obtain ⟨A100, c101, w102, r103, H104⟩ := H97.append (P := Try.prog) (e := 5) (sz := 1) (by_ := 1) (n := m_j) (c := c_j) (m := 8) (d := c96) (t := 38) (ty := 38) (xs := by8 b_j) (news := by8 (putB x83.pv 8)) 1 rfl (by kernel_rfl) (H97.rdRow 3 rfl) (by first | (simp [by8_length]; done) | (rw [by8_length]; omega) | (rw [by8_length, putB_length])) (by8_one _) (by omega) (by simp only [maxLen]; omega)
      rw [← by8_append] at H104
      have H104 : Hp w [] [.blk p3 [.int .u64 (v : Int), .int .u64 (lt : Int), .slice A ins.length ca, .slice B outs.length cb] 64, .row A100 (m_j + 8) c101 5 1 (by8 (b_j ++ (putB x83.pv 8))), .blk p86 [.int .u64 (x83.pv : Int), .string (strOf x83.lb)] 91, .row A95 8 c96 5 1 (by8 (putB x83.pv 8))] w102 := H104
      refine GL.sem (j := 5) (r103) [1, 8, 67, 68, 69, 77] [(1, pt p3 0), (8, pt p86 0), (67, .slice B outs.length cb), (68, .int .i64 (outs.length : Int)), (69, .int .i64 (j : Int)), (77, .slice A100 (m_j + 8) c101)] (by kernel_rfl) (by kernel_rfl) rfl ?_
      refine GL.run (j := 6) 1 [1, 3, 8, 67, 68, 69] [(1, pt p3 0), (3, .slice A100 (m_j + 8) c101), (8, pt p86 0), (67, .slice B outs.length cb), (68, .int .i64 (outs.length : Int)), (69, .int .i64 (j : Int))] (by kernel_rfl) rfl ?_
      refine GL.k rfl hK94 (fun _ _ h => h) ?_
      refine G.seqK fun K105 hK106 => ?_
      refine G.region ?_
      refine GL.run (j := 2) 2 [1, 8, 67, 68, 69, 78, 79] [(1, pt p3 0), (8, pt p86 0), (67, .slice B outs.length cb), (68, .int .i64 (outs.length : Int)), (69, .int .i64 (j : Int)), (78, .slice A100 (m_j + 8) c101), (79, pt p86 1)] (by kernel_rfl) rfl ?_
      refine GL.sem (j := 3) (H104.ld (o := 1) (ty := 9) (v := .string (strOf x83.lb)) 2 rfl (by kernel_rfl) rfl) [1, 8, 67, 68, 69, 78, 80] [(1, pt p3 0), (8, pt p86 0), (67, .slice B outs.length cb), (68, .int .i64 (outs.length : Int)), (69, .int .i64 (j : Int)), (78, .slice A100 (m_j + 8) c101), (80, .string (strOf x83.lb))] (by kernel_rfl) (by kernel_rfl) rfl ?_
      refine GL.run (j := 5) 2 [1, 8, 67, 68, 69, 78, 82] [(1, pt p3 0), (8, pt p86 0), (67, .slice B outs.length cb), (68, .int .i64 (outs.length : Int)), (69, .int .i64 (j : Int)), (78, .slice A100 (m_j + 8) c101), (82, .int .u64 (IntKind.u64.wrap ((strOf x83.lb).size : Int)))] (by kernel_rfl) rfl ?_
      have e107 : (IntKind.u64.wrap ((strOf x83.lb).size : Int)) = ((x83.lb.length : Nat) : Int) := by rw [strOf_size]; exact in_u64 (by omega)
      refine GL.eq (M' := [(1, pt p3 0), (8, pt p86 0), (67, .slice B outs.length cb), (68, .int .i64 (outs.length : Int)), (69, .int .i64 (j : Int)), (78, .slice A100 (m_j + 8) c101), (82, .int .u64 ((x83.lb.length : Nat) : Int))]) (by rw [e107]) ?_
      clear e107
      have hcA108 := cntSz_le x83.lb.length
      refine GL.call (j := 6) (RCnt_calls x83.lb.length (by omega) w102) (by kernel_rfl) rfl (fun e_ w112 hR => ?_)
      obtain ⟨A108, c109, rfl, H111⟩ := hR
      have H110 : Hp w [] [.blk p3 [.int .u64 (v : Int), .int .u64 (lt : Int), .slice A ins.length ca, .slice B outs.length cb] 64, .row A100 (m_j + 8) c101 5 1 (by8 (b_j ++ (putB x83.pv 8))), .blk p86 [.int .u64 (x83.pv : Int), .string (strOf x83.lb)] 91, .row A95 8 c96 5 1 (by8 (putB x83.pv 8)), .row A108 (cntSz x83.lb.length) c109 5 1 (by8 (cnt x83.lb.length))] w112 := H104.callNew H111
      refine ⟨_, rfl, [1, 8, 67, 68, 69, 78, 83], [(1, pt p3 0), (8, pt p86 0), (67, .slice B outs.length cb), (68, .int .i64 (outs.length : Int)), (69, .int .i64 (j : Int)), (78, .slice A100 (m_j + 8) c101), (83, .slice A108 (cntSz x83.lb.length) c109)], by kernel_rfl, ?_⟩
      obtain ⟨A113, c114, w115, r116, H117⟩ := H110.append (P := Try.prog) (e := 5) (sz := 1) (by_ := 1) (n := (m_j + 8)) (c := c101) (m := (cntSz x83.lb.length)) (d := c109) (t := 38) (ty := 38) (xs := by8 (b_j ++ (putB x83.pv 8))) (news := by8 (cnt x83.lb.length)) 1 rfl (by kernel_rfl) (H110.rdRow 4 rfl) (by rw [by8_length, cnt_length, Nat.mul_one]) (by8_one _) (by omega) (by simp only [maxLen]; omega)
      rw [← by8_append] at H117
      have H117 : Hp w [] [.blk p3 [.int .u64 (v : Int), .int .u64 (lt : Int), .slice A ins.length ca, .slice B outs.length cb] 64, .row A113 ((m_j + 8) + (cntSz x83.lb.length)) c114 5 1 (by8 ((b_j ++ (putB x83.pv 8)) ++ (cnt x83.lb.length))), .blk p86 [.int .u64 (x83.pv : Int), .string (strOf x83.lb)] 91, .row A95 8 c96 5 1 (by8 (putB x83.pv 8)), .row A108 (cntSz x83.lb.length) c109 5 1 (by8 (cnt x83.lb.length))] w115 := H117
      refine GL.sem (j := 7) (r116) [1, 8, 67, 68, 69, 84] [(1, pt p3 0), (8, pt p86 0), (67, .slice B outs.length cb), (68, .int .i64 (outs.length : Int)), (69, .int .i64 (j : Int)), (84, .slice A113 ((m_j + 8) + (cntSz x83.lb.length)) c114)] (by kernel_rfl) (by kernel_rfl) rfl ?_
      refine GL.run (j := 8) 1 [1, 3, 8, 67, 68, 69] [(1, pt p3 0), (3, .slice A113 ((m_j + 8) + (cntSz x83.lb.length)) c114), (8, pt p86 0), (67, .slice B outs.length cb), (68, .int .i64 (outs.length : Int)), (69, .int .i64 (j : Int))] (by kernel_rfl) rfl ?_
      refine GL.k rfl hK106 (fun _ _ h => h) ?_
      refine G.region ?_
      refine GL.run (j := 2) 2 [1, 67, 68, 69, 85, 86] [(1, pt p3 0), (67, .slice B outs.length cb), (68, .int .i64 (outs.length : Int)), (69, .int .i64 (j : Int)), (85, .slice A113 ((m_j + 8) + (cntSz x83.lb.length)) c114), (86, pt p86 1)] (by kernel_rfl) rfl ?_
      refine GL.sem (j := 3) (H117.ld (o := 1) (ty := 9) (v := .string (strOf x83.lb)) 2 rfl (by kernel_rfl) rfl) [1, 67, 68, 69, 85, 87] [(1, pt p3 0), (67, .slice B outs.length cb), (68, .int .i64 (outs.length : Int)), (69, .int .i64 (j : Int)), (85, .slice A113 ((m_j + 8) + (cntSz x83.lb.length)) c114), (87, .string (strOf x83.lb))] (by kernel_rfl) (by kernel_rfl) rfl ?_
      obtain ⟨A118, c119, w120, r121, H122⟩ := H117.appendStr (P := Try.prog) (t := 38) (u := 9) (ty := 38) 1 x83.lb rfl (by kernel_rfl) (by kernel_rfl) (by omega)
      rw [← by8_append] at H122
      have H122 : Hp w [] [.blk p3 [.int .u64 (v : Int), .int .u64 (lt : Int), .slice A ins.length ca, .slice B outs.length cb] 64, .row A118 (((m_j + 8) + (cntSz x83.lb.length)) + x83.lb.length) c119 5 1 (by8 (((b_j ++ (putB x83.pv 8)) ++ (cnt x83.lb.length)) ++ x83.lb)), .blk p86 [.int .u64 (x83.pv : Int), .string (strOf x83.lb)] 91, .row A95 8 c96 5 1 (by8 (putB x83.pv 8)), .row A108 (cntSz x83.lb.length) c109 5 1 (by8 (cnt x83.lb.length))] w120 := H122
      refine GL.sem (j := 4) (r121) [1, 67, 68, 69, 88] [(1, pt p3 0), (67, .slice B outs.length cb), (68, .int .i64 (outs.length : Int)), (69, .int .i64 (j : Int)), (88, .slice A118 (((m_j + 8) + (cntSz x83.lb.length)) + x83.lb.length) c119)] (by kernel_rfl) (by kernel_rfl) rfl ?_
      refine GL.run (j := 5) 1 [1, 3, 67, 68, 69] [(1, pt p3 0), (3, .slice A118 (((m_j + 8) + (cntSz x83.lb.length)) + x83.lb.length) c119), (67, .slice B outs.length cb), (68, .int .i64 (outs.length : Int)), (69, .int .i64 (j : Int))] (by kernel_rfl) rfl ?_
      refine GL.k rfl hK80 (fun _ _ h => h) ?_
      refine G.region ?_
      refine GL.run (j := 2) 2 [1, 3, 67, 68, 69] [(1, pt p3 0), (3, .slice A118 (((m_j + 8) + (cntSz x83.lb.length)) + x83.lb.length) c119), (67, .slice B outs.length cb), (68, .int .i64 (outs.length : Int)), (69, .int .i64 (IntKind.i64.wrap ((j : Int) + 1)))] (by kernel_rfl) rfl ?_
      have e123 : (IntKind.i64.wrap ((j : Int) + 1)) = ((j + 1 : Nat) : Int) := by rw [in_i64 (by omega)]; omega
      refine GL.eq (M' := [(1, pt p3 0), (3, .slice A118 (((m_j + 8) + (cntSz x83.lb.length)) + x83.lb.length) c119), (67, .slice B outs.length cb), (68, .int .i64 (outs.length : Int)), (69, .int .i64 ((j + 1 : Nat) : Int))]) (by rw [e123]) ?_
      clear e123
      have H124 : Hp w [] [.blk p3 [.int .u64 (v : Int), .int .u64 (lt : Int), .slice A ins.length ca, .slice B outs.length cb] 64, .row A118 (((m_j + 8) + (cntSz x83.lb.length)) + x83.lb.length) c119 5 1 (by8 (((b_j ++ (putB x83.pv 8)) ++ (cnt x83.lb.length)) ++ x83.lb))] w120 := H122.sub (List.Sublist.cons_cons _ (List.Sublist.cons_cons _ (List.Sublist.cons _ (List.Sublist.cons _ (List.Sublist.cons _ (List.Sublist.slnil))))))
      refine GL.fit (ts := [1, 3, 67, 68, 69]) (M' := [(1, pt p3 0), (3, .slice A118 (((m_j + 8) + (cntSz x83.lb.length)) + x83.lb.length) c119), (67, .slice B outs.length cb), (68, .int .i64 (outs.length : Int)), (69, .int .i64 ((j + 1 : Nat) : Int))]) (by kernel_rfl) ?_
      refine GL.eq (M' := [(1, pt p3 0), (3, .slice A118 (((m_j + 8) + (cntSz x83.lb.length)) + x83.lb.length) c119), (67, .slice B outs.length cb), (68, .int .i64 (outs.length : Int)), (69, .int .i64 (((j + 1) : Nat) : Int))]) (by rfl) ?_
      exact GL.again ⟨(j + 1), A118, c119, (((m_j + 8) + (cntSz x83.lb.length)) + x83.lb.length), (((b_j ++ (putB x83.pv 8)) ++ (cnt x83.lb.length)) ++ x83.lb)⟩ [1, 3, 67, 68, 69] rfl (by kernel_rfl) (by show outs.length - (j + 1) < outs.length - j; omega) ⟨⟨by omega, by rw [hbj, outsB, outsB, flat_snoc hx84]; simp only [TOut.bytes, List.append_assoc], by omega⟩, H124⟩
  · skip
    have hb39f := of_decide_eq_true hb39
    refine G.yes rfl ?_
    refine G.skipK hK38 (fun _ _ h => h) ?_
    refine G.seqK fun K125 hK126 => ?_
    refine G.block ?_
    refine G.seqK fun K127 hK128 => ?_
    refine G.region ?_
    obtain ⟨x129, hx130⟩ : ∃ x, ins[i]? = some x := ⟨_, List.getElem?_eq_getElem (by omega)⟩
    have hok131 := hI x129 (List.mem_of_getElem? hx130)
    have hfrx129 := hok131.1
    have hixx129 : x129.ix < K := Nat.lt_trans hok131.2.1 (by decide)
    have hsqx129 : x129.sq < K := Nat.lt_trans hok131.2.2.1 (by decide)
    have hklx129 := hok131.2.2.2
    have hczx129 := cntSz_le x129.kb.length
    refine GL.sem (j := 1) (run_idxRdN (P := Try.prog) (k := .i64) (t := 61) (sz := 35) (A := A) (len := ins.length) (cap := ca) (j := i) (by kernel_rfl) rfl (hIns.hp H34) (insR_length (fun x_ h_ => (hI x_ h_).1)) (by decide) (by omega)) [1, 3, 20, 21, 22, 24] [(1, pt p3 0), (3, .slice A_i m_i c_i), (20, .slice A ins.length ca), (21, .int .i64 (ins.length : Int)), (22, .int .i64 (i : Int)), (24, .pointer (Option.map (fun x => Addr.add x (i * 35)) A))] (by kernel_rfl) (by kernel_rfl) rfl ?_
    refine GL.sem (j := 2) (run_ldRdA (P := Try.prog) (ty := 89) (A := A) (o := (i * 35)) (m := 35) (sub := x129.rcells) (by kernel_rfl) (hIns.hp H34) (insR_cut (fun x_ h_ => (hI x_ h_).1) hx130) (TIn.rcells_length hok131.1) (by decide)) [1, 3, 20, 21, 22, 25] [(1, pt p3 0), (3, .slice A_i m_i c_i), (20, .slice A ins.length ca), (21, .int .i64 (ins.length : Int)), (22, .int .i64 (i : Int)), (25, .agg (x129.rcells).toArray)] (by kernel_rfl) (by kernel_rfl) rfl ?_
    obtain ⟨p132, w133, r134, H135⟩ := H34.alloc (P := Try.prog) 89 (TIn.nil.rcells) (by kernel_rfl)
    have H135 : Hp w [] [.blk p3 [.int .u64 (v : Int), .int .u64 (lt : Int), .slice A ins.length ca, .slice B outs.length cb] 64, .row A_i m_i c_i 5 1 (by8 b_i), .blk p132 (TIn.nil.rcells) 89] w133 := H135
    refine GL.sem (j := 3) (r134) [1, 3, 5, 20, 21, 22, 25] [(1, pt p3 0), (3, .slice A_i m_i c_i), (5, pt p132 0), (20, .slice A ins.length ca), (21, .int .i64 (ins.length : Int)), (22, .int .i64 (i : Int)), (25, .agg (x129.rcells).toArray)] (by kernel_rfl) (by kernel_rfl) rfl ?_
    obtain ⟨w136, r137, H138⟩ := H135.stA (P := Try.prog) (o := 0) (vs := x129.rcells) (ty := 89) (m := 35) 2 rfl (by kernel_rfl) (TIn.rcells_length hok131.1) (by rw [Nat.zero_add, TIn.rcells_length rfl]; exact Nat.le_refl _) TIn.rcells_one
    rw [tx_whole (TIn.rcells_length rfl)] at H138
    have H138 : Hp w [] [.blk p3 [.int .u64 (v : Int), .int .u64 (lt : Int), .slice A ins.length ca, .slice B outs.length cb] 64, .row A_i m_i c_i 5 1 (by8 b_i), .blk p132 (x129.rcells) 89] w136 := H138
    refine GL.semU (j := 4) r137 [1, 3, 5, 20, 21, 22] [(1, pt p3 0), (3, .slice A_i m_i c_i), (5, pt p132 0), (20, .slice A ins.length ca), (21, .int .i64 (ins.length : Int)), (22, .int .i64 (i : Int))] (by kernel_rfl) rfl rfl rfl ?_
    refine GL.k rfl hK128 (fun _ _ h => h) ?_
    refine G.seqK fun K139 hK140 => ?_
    refine G.seqK fun K141 hK142 => ?_
    refine G.region ?_
    refine GL.run (j := 1) 1 [1, 3, 5, 20, 21, 22, 26] [(1, pt p3 0), (3, .slice A_i m_i c_i), (5, pt p132 0), (20, .slice A ins.length ca), (21, .int .i64 (ins.length : Int)), (22, .int .i64 (i : Int)), (26, .int .i64 0)] (by kernel_rfl) rfl ?_
    refine GL.k rfl hK142 (fun _ _ h => h) ?_
    refine G.block ?_
    have H143 : Hp w [] [.blk p3 [.int .u64 (v : Int), .int .u64 (lt : Int), .slice A ins.length ca, .slice B outs.length cb] 64, .row A_i (m_i + 0) c_i 5 1 (by8 (b_i ++ List.take 0 x129.fr)), .blk p132 (x129.rcells) 89] w136 := (by have h_ := H138; rw [List.take_zero, List.append_nil]; exact h_)
    refine G.eq (M' := [(1, pt p3 0), (3, .slice A_i (m_i + 0) c_i), (5, pt p132 0), (20, .slice A ins.length ca), (21, .int .i64 (ins.length : Int)), (22, .int .i64 (i : Int)), (26, .int .i64 0)]) rfl ?_
    refine G.fit [1, 3, 5, 20, 21, 22, 26] (M' := [(1, pt p3 0), (3, .slice A_i (m_i + 0) c_i), (5, pt p132 0), (20, .slice A ins.length ca), (21, .int .i64 (ins.length : Int)), (22, .int .i64 (i : Int)), (26, .int .i64 0)]) (by kernel_rfl) ?_
    refine G.loop (X := Nat × Option Addr × Nat) (fun ⟨k143, Ak143, ck143⟩ => [(1, pt p3 0), (3, .slice Ak143 (m_i + k143) ck143), (5, pt p132 0), (20, .slice A ins.length ca), (21, .int .i64 (ins.length : Int)), (22, .int .i64 (i : Int)), (26, .int .i64 (k143 : Int))]) (fun ⟨k143, Ak143, ck143⟩ w_ => (k143 ≤ 32) ∧ Hp w [] [.blk p3 [.int .u64 (v : Int), .int .u64 (lt : Int), .slice A ins.length ca, .slice B outs.length cb] 64, .row Ak143 (m_i + k143) ck143 5 1 (by8 (b_i ++ List.take k143 x129.fr)), .blk p132 (x129.rcells) 89] w_) (fun ⟨k143, Ak143, ck143⟩ => 32 - k143) ⟨0, A_i, c_i⟩ [1, 3, 5, 20, 21, 22, 26] (by kernel_rfl) ⟨by omega, H143⟩ ?_
    rintro ⟨k143, Ak143, ck143⟩ w145 ⟨hi146, H147⟩
    refine G.eq (M' := [(1, pt p3 0), (3, .slice Ak143 (m_i + k143) ck143), (5, pt p132 0), (20, .slice A ins.length ca), (21, .int .i64 (ins.length : Int)), (22, .int .i64 (i : Int)), (26, .int .i64 (k143 : Int))]) rfl ?_
    have H147 : Hp w [] [.blk p3 [.int .u64 (v : Int), .int .u64 (lt : Int), .slice A ins.length ca, .slice B outs.length cb] 64, .row Ak143 (m_i + k143) ck143 5 1 (by8 (b_i ++ List.take k143 x129.fr)), .blk p132 (x129.rcells) 89] w145 := H147
    have hk143 := hi146
    refine G.seqK fun K148 hK149 => ?_
    refine G.region ?_
    refine GL.run (j := 1) 1 [1, 3, 5, 20, 21, 22, 26, 27] [(1, pt p3 0), (3, .slice Ak143 (m_i + k143) ck143), (5, pt p132 0), (20, .slice A ins.length ca), (21, .int .i64 (ins.length : Int)), (22, .int .i64 (i : Int)), (26, .int .i64 (k143 : Int)), (27, .bool (decide ((k143 : Int) < 32)))] (by kernel_rfl) rfl ?_
    refine GL.k rfl hK149 (fun _ _ h => h) ?_
    refine G.seqK fun K150 hK151 => ?_
    cases hb152 : (decide ((k143 : Int) < 32))
    · skip
      have hb152f := of_decide_eq_false hb152
      obtain rfl : k143 = 32 := by omega
      have H153 : Hp w [] [.blk p3 [.int .u64 (v : Int), .int .u64 (lt : Int), .slice A ins.length ca, .slice B outs.length cb] 64, .row Ak143 (m_i + 32) ck143 5 1 (by8 (b_i ++ x129.fr)), .blk p132 (x129.rcells) 89] w145 := (by have h_ := H147; rw [List.take_of_length_le (l := x129.fr) (by omega)] at h_; exact h_)
      refine G.no rfl ?_
      refine G.exitK hK140 (fun _ _ h => h) ?_
      refine G.seqK fun K154 hK155 => ?_
      refine G.region ?_
      refine GL.run (j := 2) 2 [1, 5, 20, 21, 22, 37, 38] [(1, pt p3 0), (5, pt p132 0), (20, .slice A ins.length ca), (21, .int .i64 (ins.length : Int)), (22, .int .i64 (i : Int)), (37, .slice Ak143 (m_i + 32) ck143), (38, pt p132 32)] (by kernel_rfl) rfl ?_
      refine GL.sem (j := 3) (H153.ld (o := 32) (ty := 31) (v := .int .u64 (x129.ix : Int)) 2 rfl (by kernel_rfl) (TIn.rcells_ix hok131.1)) [1, 5, 20, 21, 22, 37, 39] [(1, pt p3 0), (5, pt p132 0), (20, .slice A ins.length ca), (21, .int .i64 (ins.length : Int)), (22, .int .i64 (i : Int)), (37, .slice Ak143 (m_i + 32) ck143), (39, .int .u64 (x129.ix : Int))] (by kernel_rfl) (by kernel_rfl) rfl ?_
      refine GL.call (j := 4) (RPut_calls x129.ix 4 hixx129 (by omega) w145) (by kernel_rfl) rfl (fun e_ w160 hR => ?_)
      obtain ⟨A156, c157, rfl, H159⟩ := hR
      have H158 : Hp w [] [.blk p3 [.int .u64 (v : Int), .int .u64 (lt : Int), .slice A ins.length ca, .slice B outs.length cb] 64, .row Ak143 (m_i + 32) ck143 5 1 (by8 (b_i ++ x129.fr)), .blk p132 (x129.rcells) 89, .row A156 4 c157 5 1 (by8 (putB x129.ix 4))] w160 := H153.callNew H159
      refine ⟨_, rfl, [1, 5, 20, 21, 22, 37, 40], [(1, pt p3 0), (5, pt p132 0), (20, .slice A ins.length ca), (21, .int .i64 (ins.length : Int)), (22, .int .i64 (i : Int)), (37, .slice Ak143 (m_i + 32) ck143), (40, .slice A156 4 c157)], by kernel_rfl, ?_⟩
      obtain ⟨A161, c162, w163, r164, H165⟩ := H158.append (P := Try.prog) (e := 5) (sz := 1) (by_ := 1) (n := (m_i + 32)) (c := ck143) (m := 4) (d := c157) (t := 38) (ty := 38) (xs := by8 (b_i ++ x129.fr)) (news := by8 (putB x129.ix 4)) 1 rfl (by kernel_rfl) (H158.rdRow 3 rfl) (by first | (simp [by8_length]; done) | (rw [by8_length]; omega) | (rw [by8_length, putB_length])) (by8_one _) (by omega) (by simp only [maxLen]; omega)
      rw [← by8_append] at H165
      have H165 : Hp w [] [.blk p3 [.int .u64 (v : Int), .int .u64 (lt : Int), .slice A ins.length ca, .slice B outs.length cb] 64, .row A161 ((m_i + 32) + 4) c162 5 1 (by8 ((b_i ++ x129.fr) ++ (putB x129.ix 4))), .blk p132 (x129.rcells) 89, .row A156 4 c157 5 1 (by8 (putB x129.ix 4))] w163 := H165
      refine GL.sem (j := 5) (r164) [1, 5, 20, 21, 22, 41] [(1, pt p3 0), (5, pt p132 0), (20, .slice A ins.length ca), (21, .int .i64 (ins.length : Int)), (22, .int .i64 (i : Int)), (41, .slice A161 ((m_i + 32) + 4) c162)] (by kernel_rfl) (by kernel_rfl) rfl ?_
      refine GL.run (j := 6) 1 [1, 3, 5, 20, 21, 22] [(1, pt p3 0), (3, .slice A161 ((m_i + 32) + 4) c162), (5, pt p132 0), (20, .slice A ins.length ca), (21, .int .i64 (ins.length : Int)), (22, .int .i64 (i : Int))] (by kernel_rfl) rfl ?_
      refine GL.k rfl hK155 (fun _ _ h => h) ?_
      refine G.seqK fun K166 hK167 => ?_
      refine G.region ?_
      refine GL.run (j := 2) 2 [1, 5, 20, 21, 22, 42, 43] [(1, pt p3 0), (5, pt p132 0), (20, .slice A ins.length ca), (21, .int .i64 (ins.length : Int)), (22, .int .i64 (i : Int)), (42, .slice A161 ((m_i + 32) + 4) c162), (43, pt p132 34)] (by kernel_rfl) rfl ?_
      refine GL.sem (j := 3) (H165.ld (o := 34) (ty := 9) (v := .string (strOf x129.kb)) 2 rfl (by kernel_rfl) (TIn.rcells_key hok131.1)) [1, 5, 20, 21, 22, 42, 44] [(1, pt p3 0), (5, pt p132 0), (20, .slice A ins.length ca), (21, .int .i64 (ins.length : Int)), (22, .int .i64 (i : Int)), (42, .slice A161 ((m_i + 32) + 4) c162), (44, .string (strOf x129.kb))] (by kernel_rfl) (by kernel_rfl) rfl ?_
      refine GL.run (j := 5) 2 [1, 5, 20, 21, 22, 42, 46] [(1, pt p3 0), (5, pt p132 0), (20, .slice A ins.length ca), (21, .int .i64 (ins.length : Int)), (22, .int .i64 (i : Int)), (42, .slice A161 ((m_i + 32) + 4) c162), (46, .int .u64 (IntKind.u64.wrap ((strOf x129.kb).size : Int)))] (by kernel_rfl) rfl ?_
      have e168 : (IntKind.u64.wrap ((strOf x129.kb).size : Int)) = ((x129.kb.length : Nat) : Int) := by rw [strOf_size]; exact in_u64 (by omega)
      refine GL.eq (M' := [(1, pt p3 0), (5, pt p132 0), (20, .slice A ins.length ca), (21, .int .i64 (ins.length : Int)), (22, .int .i64 (i : Int)), (42, .slice A161 ((m_i + 32) + 4) c162), (46, .int .u64 ((x129.kb.length : Nat) : Int))]) (by rw [e168]) ?_
      clear e168
      have hcA169 := cntSz_le x129.kb.length
      refine GL.call (j := 6) (RCnt_calls x129.kb.length (by omega) w163) (by kernel_rfl) rfl (fun e_ w173 hR => ?_)
      obtain ⟨A169, c170, rfl, H172⟩ := hR
      have H171 : Hp w [] [.blk p3 [.int .u64 (v : Int), .int .u64 (lt : Int), .slice A ins.length ca, .slice B outs.length cb] 64, .row A161 ((m_i + 32) + 4) c162 5 1 (by8 ((b_i ++ x129.fr) ++ (putB x129.ix 4))), .blk p132 (x129.rcells) 89, .row A156 4 c157 5 1 (by8 (putB x129.ix 4)), .row A169 (cntSz x129.kb.length) c170 5 1 (by8 (cnt x129.kb.length))] w173 := H165.callNew H172
      refine ⟨_, rfl, [1, 5, 20, 21, 22, 42, 47], [(1, pt p3 0), (5, pt p132 0), (20, .slice A ins.length ca), (21, .int .i64 (ins.length : Int)), (22, .int .i64 (i : Int)), (42, .slice A161 ((m_i + 32) + 4) c162), (47, .slice A169 (cntSz x129.kb.length) c170)], by kernel_rfl, ?_⟩
      obtain ⟨A174, c175, w176, r177, H178⟩ := H171.append (P := Try.prog) (e := 5) (sz := 1) (by_ := 1) (n := ((m_i + 32) + 4)) (c := c162) (m := (cntSz x129.kb.length)) (d := c170) (t := 38) (ty := 38) (xs := by8 ((b_i ++ x129.fr) ++ (putB x129.ix 4))) (news := by8 (cnt x129.kb.length)) 1 rfl (by kernel_rfl) (H171.rdRow 4 rfl) (by rw [by8_length, cnt_length, Nat.mul_one]) (by8_one _) (by omega) (by simp only [maxLen]; omega)
      rw [← by8_append] at H178
      have H178 : Hp w [] [.blk p3 [.int .u64 (v : Int), .int .u64 (lt : Int), .slice A ins.length ca, .slice B outs.length cb] 64, .row A174 (((m_i + 32) + 4) + (cntSz x129.kb.length)) c175 5 1 (by8 (((b_i ++ x129.fr) ++ (putB x129.ix 4)) ++ (cnt x129.kb.length))), .blk p132 (x129.rcells) 89, .row A156 4 c157 5 1 (by8 (putB x129.ix 4)), .row A169 (cntSz x129.kb.length) c170 5 1 (by8 (cnt x129.kb.length))] w176 := H178
      refine GL.sem (j := 7) (r177) [1, 5, 20, 21, 22, 48] [(1, pt p3 0), (5, pt p132 0), (20, .slice A ins.length ca), (21, .int .i64 (ins.length : Int)), (22, .int .i64 (i : Int)), (48, .slice A174 (((m_i + 32) + 4) + (cntSz x129.kb.length)) c175)] (by kernel_rfl) (by kernel_rfl) rfl ?_
      refine GL.run (j := 8) 1 [1, 3, 5, 20, 21, 22] [(1, pt p3 0), (3, .slice A174 (((m_i + 32) + 4) + (cntSz x129.kb.length)) c175), (5, pt p132 0), (20, .slice A ins.length ca), (21, .int .i64 (ins.length : Int)), (22, .int .i64 (i : Int))] (by kernel_rfl) rfl ?_
      refine GL.k rfl hK167 (fun _ _ h => h) ?_
      refine G.seqK fun K179 hK180 => ?_
      refine G.region ?_
      refine GL.run (j := 2) 2 [1, 5, 20, 21, 22, 49, 50] [(1, pt p3 0), (5, pt p132 0), (20, .slice A ins.length ca), (21, .int .i64 (ins.length : Int)), (22, .int .i64 (i : Int)), (49, .slice A174 (((m_i + 32) + 4) + (cntSz x129.kb.length)) c175), (50, pt p132 34)] (by kernel_rfl) rfl ?_
      refine GL.sem (j := 3) (H178.ld (o := 34) (ty := 9) (v := .string (strOf x129.kb)) 2 rfl (by kernel_rfl) (TIn.rcells_key hok131.1)) [1, 5, 20, 21, 22, 49, 51] [(1, pt p3 0), (5, pt p132 0), (20, .slice A ins.length ca), (21, .int .i64 (ins.length : Int)), (22, .int .i64 (i : Int)), (49, .slice A174 (((m_i + 32) + 4) + (cntSz x129.kb.length)) c175), (51, .string (strOf x129.kb))] (by kernel_rfl) (by kernel_rfl) rfl ?_
      obtain ⟨A181, c182, w183, r184, H185⟩ := H178.appendStr (P := Try.prog) (t := 38) (u := 9) (ty := 38) 1 x129.kb rfl (by kernel_rfl) (by kernel_rfl) (by omega)
      rw [← by8_append] at H185
      have H185 : Hp w [] [.blk p3 [.int .u64 (v : Int), .int .u64 (lt : Int), .slice A ins.length ca, .slice B outs.length cb] 64, .row A181 ((((m_i + 32) + 4) + (cntSz x129.kb.length)) + x129.kb.length) c182 5 1 (by8 ((((b_i ++ x129.fr) ++ (putB x129.ix 4)) ++ (cnt x129.kb.length)) ++ x129.kb)), .blk p132 (x129.rcells) 89, .row A156 4 c157 5 1 (by8 (putB x129.ix 4)), .row A169 (cntSz x129.kb.length) c170 5 1 (by8 (cnt x129.kb.length))] w183 := H185
      refine GL.sem (j := 4) (r184) [1, 5, 20, 21, 22, 52] [(1, pt p3 0), (5, pt p132 0), (20, .slice A ins.length ca), (21, .int .i64 (ins.length : Int)), (22, .int .i64 (i : Int)), (52, .slice A181 ((((m_i + 32) + 4) + (cntSz x129.kb.length)) + x129.kb.length) c182)] (by kernel_rfl) (by kernel_rfl) rfl ?_
      refine GL.run (j := 5) 1 [1, 3, 5, 20, 21, 22] [(1, pt p3 0), (3, .slice A181 ((((m_i + 32) + 4) + (cntSz x129.kb.length)) + x129.kb.length) c182), (5, pt p132 0), (20, .slice A ins.length ca), (21, .int .i64 (ins.length : Int)), (22, .int .i64 (i : Int))] (by kernel_rfl) rfl ?_
      refine GL.k rfl hK180 (fun _ _ h => h) ?_
      refine G.region ?_
      refine GL.run (j := 2) 2 [1, 20, 21, 22, 53, 54] [(1, pt p3 0), (20, .slice A ins.length ca), (21, .int .i64 (ins.length : Int)), (22, .int .i64 (i : Int)), (53, .slice A181 ((((m_i + 32) + 4) + (cntSz x129.kb.length)) + x129.kb.length) c182), (54, pt p132 33)] (by kernel_rfl) rfl ?_
      refine GL.sem (j := 3) (H185.ld (o := 33) (ty := 31) (v := .int .u64 (x129.sq : Int)) 2 rfl (by kernel_rfl) (TIn.rcells_sq hok131.1)) [1, 20, 21, 22, 53, 55] [(1, pt p3 0), (20, .slice A ins.length ca), (21, .int .i64 (ins.length : Int)), (22, .int .i64 (i : Int)), (53, .slice A181 ((((m_i + 32) + 4) + (cntSz x129.kb.length)) + x129.kb.length) c182), (55, .int .u64 (x129.sq : Int))] (by kernel_rfl) (by kernel_rfl) rfl ?_
      refine GL.call (j := 4) (RPut_calls x129.sq 4 hsqx129 (by omega) w183) (by kernel_rfl) rfl (fun e_ w190 hR => ?_)
      obtain ⟨A186, c187, rfl, H189⟩ := hR
      have H188 : Hp w [] [.blk p3 [.int .u64 (v : Int), .int .u64 (lt : Int), .slice A ins.length ca, .slice B outs.length cb] 64, .row A181 ((((m_i + 32) + 4) + (cntSz x129.kb.length)) + x129.kb.length) c182 5 1 (by8 ((((b_i ++ x129.fr) ++ (putB x129.ix 4)) ++ (cnt x129.kb.length)) ++ x129.kb)), .blk p132 (x129.rcells) 89, .row A156 4 c157 5 1 (by8 (putB x129.ix 4)), .row A169 (cntSz x129.kb.length) c170 5 1 (by8 (cnt x129.kb.length)), .row A186 4 c187 5 1 (by8 (putB x129.sq 4))] w190 := H185.callNew H189
      refine ⟨_, rfl, [1, 20, 21, 22, 53, 56], [(1, pt p3 0), (20, .slice A ins.length ca), (21, .int .i64 (ins.length : Int)), (22, .int .i64 (i : Int)), (53, .slice A181 ((((m_i + 32) + 4) + (cntSz x129.kb.length)) + x129.kb.length) c182), (56, .slice A186 4 c187)], by kernel_rfl, ?_⟩
      obtain ⟨A191, c192, w193, r194, H195⟩ := H188.append (P := Try.prog) (e := 5) (sz := 1) (by_ := 1) (n := ((((m_i + 32) + 4) + (cntSz x129.kb.length)) + x129.kb.length)) (c := c182) (m := 4) (d := c187) (t := 38) (ty := 38) (xs := by8 ((((b_i ++ x129.fr) ++ (putB x129.ix 4)) ++ (cnt x129.kb.length)) ++ x129.kb)) (news := by8 (putB x129.sq 4)) 1 rfl (by kernel_rfl) (H188.rdRow 5 rfl) (by first | (simp [by8_length]; done) | (rw [by8_length]; omega) | (rw [by8_length, putB_length])) (by8_one _) (by omega) (by simp only [maxLen]; omega)
      rw [← by8_append] at H195
      have H195 : Hp w [] [.blk p3 [.int .u64 (v : Int), .int .u64 (lt : Int), .slice A ins.length ca, .slice B outs.length cb] 64, .row A191 (((((m_i + 32) + 4) + (cntSz x129.kb.length)) + x129.kb.length) + 4) c192 5 1 (by8 (((((b_i ++ x129.fr) ++ (putB x129.ix 4)) ++ (cnt x129.kb.length)) ++ x129.kb) ++ (putB x129.sq 4))), .blk p132 (x129.rcells) 89, .row A156 4 c157 5 1 (by8 (putB x129.ix 4)), .row A169 (cntSz x129.kb.length) c170 5 1 (by8 (cnt x129.kb.length)), .row A186 4 c187 5 1 (by8 (putB x129.sq 4))] w193 := H195
      refine GL.sem (j := 5) (r194) [1, 20, 21, 22, 57] [(1, pt p3 0), (20, .slice A ins.length ca), (21, .int .i64 (ins.length : Int)), (22, .int .i64 (i : Int)), (57, .slice A191 (((((m_i + 32) + 4) + (cntSz x129.kb.length)) + x129.kb.length) + 4) c192)] (by kernel_rfl) (by kernel_rfl) rfl ?_
      refine GL.run (j := 6) 1 [1, 3, 20, 21, 22] [(1, pt p3 0), (3, .slice A191 (((((m_i + 32) + 4) + (cntSz x129.kb.length)) + x129.kb.length) + 4) c192), (20, .slice A ins.length ca), (21, .int .i64 (ins.length : Int)), (22, .int .i64 (i : Int))] (by kernel_rfl) rfl ?_
      refine GL.k rfl hK126 (fun _ _ h => h) ?_
      refine G.region ?_
      refine GL.run (j := 2) 2 [1, 3, 20, 21, 22] [(1, pt p3 0), (3, .slice A191 (((((m_i + 32) + 4) + (cntSz x129.kb.length)) + x129.kb.length) + 4) c192), (20, .slice A ins.length ca), (21, .int .i64 (ins.length : Int)), (22, .int .i64 (IntKind.i64.wrap ((i : Int) + 1)))] (by kernel_rfl) rfl ?_
      have e196 : (IntKind.i64.wrap ((i : Int) + 1)) = ((i + 1 : Nat) : Int) := by rw [in_i64 (by omega)]; omega
      refine GL.eq (M' := [(1, pt p3 0), (3, .slice A191 (((((m_i + 32) + 4) + (cntSz x129.kb.length)) + x129.kb.length) + 4) c192), (20, .slice A ins.length ca), (21, .int .i64 (ins.length : Int)), (22, .int .i64 ((i + 1 : Nat) : Int))]) (by rw [e196]) ?_
      clear e196
      have H197 : Hp w [] [.blk p3 [.int .u64 (v : Int), .int .u64 (lt : Int), .slice A ins.length ca, .slice B outs.length cb] 64, .row A191 (((((m_i + 32) + 4) + (cntSz x129.kb.length)) + x129.kb.length) + 4) c192 5 1 (by8 (((((b_i ++ x129.fr) ++ (putB x129.ix 4)) ++ (cnt x129.kb.length)) ++ x129.kb) ++ (putB x129.sq 4)))] w193 := H195.sub (List.Sublist.cons_cons _ (List.Sublist.cons_cons _ (List.Sublist.cons _ (List.Sublist.cons _ (List.Sublist.cons _ (List.Sublist.cons _ (List.Sublist.slnil)))))))
      refine GL.fit (ts := [1, 3, 20, 21, 22]) (M' := [(1, pt p3 0), (3, .slice A191 (((((m_i + 32) + 4) + (cntSz x129.kb.length)) + x129.kb.length) + 4) c192), (20, .slice A ins.length ca), (21, .int .i64 (ins.length : Int)), (22, .int .i64 ((i + 1 : Nat) : Int))]) (by kernel_rfl) ?_
      refine GL.eq (M' := [(1, pt p3 0), (3, .slice A191 (((((m_i + 32) + 4) + (cntSz x129.kb.length)) + x129.kb.length) + 4) c192), (20, .slice A ins.length ca), (21, .int .i64 (ins.length : Int)), (22, .int .i64 (((i + 1) : Nat) : Int))]) (by rfl) ?_
      exact GL.again ⟨(i + 1), A191, c192, (((((m_i + 32) + 4) + (cntSz x129.kb.length)) + x129.kb.length) + 4), (((((b_i ++ x129.fr) ++ (putB x129.ix 4)) ++ (cnt x129.kb.length)) ++ x129.kb) ++ (putB x129.sq 4))⟩ [1, 3, 20, 21, 22] rfl (by kernel_rfl) (by show ins.length - (i + 1) < ins.length - i; omega) ⟨⟨by omega, by rw [hbi, insB, insB, flat_snoc hx130]; simp only [TIn.bytes, List.append_assoc], by omega⟩, H197⟩
    · skip
      have hb152f := of_decide_eq_true hb152
      refine G.yes rfl ?_
      refine G.skipK hK151 (fun _ _ h => h) ?_
      refine G.seqK fun K198 hK199 => ?_
      refine G.block ?_
      refine G.seqK fun K200 hK201 => ?_
      refine G.region ?_
      refine GL.run (j := 2) 2 [1, 3, 5, 6, 20, 21, 22, 26] [(1, pt p3 0), (3, .slice Ak143 (m_i + k143) ck143), (5, pt p132 0), (6, .int .i64 (k143 : Int)), (20, .slice A ins.length ca), (21, .int .i64 (ins.length : Int)), (22, .int .i64 (i : Int)), (26, .int .i64 (k143 : Int))] (by kernel_rfl) rfl ?_
      refine GL.k rfl hK201 (fun _ _ h => h) ?_
      refine G.region ?_
      refine GL.run (j := 3) 3 [1, 5, 20, 21, 22, 26, 29, 30, 31] [(1, pt p3 0), (5, pt p132 0), (20, .slice A ins.length ca), (21, .int .i64 (ins.length : Int)), (22, .int .i64 (i : Int)), (26, .int .i64 (k143 : Int)), (29, .slice Ak143 (m_i + k143) ck143), (30, .int .i64 (k143 : Int)), (31, pt p132 0)] (by kernel_rfl) rfl ?_
      refine GL.sem (j := 4) (run_idxArr (P := Try.prog) (k := .i64) (t := 50) (len := 32) (sz := 1) (b := p132) (o := 0) (j := k143) (by kernel_rfl) rfl (by omega)) [1, 5, 20, 21, 22, 26, 29, 32] [(1, pt p3 0), (5, pt p132 0), (20, .slice A ins.length ca), (21, .int .i64 (ins.length : Int)), (22, .int .i64 (i : Int)), (26, .int .i64 (k143 : Int)), (29, .slice Ak143 (m_i + k143) ck143), (32, pt p132 (0 + k143 * 1))] (by kernel_rfl) (by kernel_rfl) rfl ?_
      refine GL.sem (j := 5) (H147.ld (o := (0 + k143 * 1)) (ty := 5) (v := .int .u8 (((x129.fr.getD k143 0)).toNat : Int)) 2 rfl (by kernel_rfl) (TIn.rcells_byte hok131.1 (by omega))) [1, 5, 20, 21, 22, 26, 29, 33] [(1, pt p3 0), (5, pt p132 0), (20, .slice A ins.length ca), (21, .int .i64 (ins.length : Int)), (22, .int .i64 (i : Int)), (26, .int .i64 (k143 : Int)), (29, .slice Ak143 (m_i + k143) ck143), (33, .int .u8 (((x129.fr.getD k143 0)).toNat : Int))] (by kernel_rfl) (by kernel_rfl) rfl ?_
      obtain ⟨p202, w203, r204, H205⟩ := H147.madeRow (P := Try.prog) (Instr.buildSlice 38 1 #[(0, .int .u8 (((x129.fr.getD k143 0)).toNat : Int))]) (fun b_ => .slice (some ⟨b_, 0, none⟩) 1 1) [.int .u8 (((x129.fr.getD k143 0)).toNat : Int)] 5 1 1 1 (by kernel_rfl) (by decide) (by decide) rfl
      have H205 : Hp w [] [.blk p3 [.int .u64 (v : Int), .int .u64 (lt : Int), .slice A ins.length ca, .slice B outs.length cb] 64, .row Ak143 (m_i + k143) ck143 5 1 (by8 (b_i ++ List.take k143 x129.fr)), .blk p132 (x129.rcells) 89, .row (some ⟨p202, 0, none⟩) 1 1 5 1 (by8 ([((x129.fr.getD k143 0))] : List UInt8))] w203 := H205
      refine GL.sem (j := 6) (r204) [1, 5, 20, 21, 22, 26, 29, 34] [(1, pt p3 0), (5, pt p132 0), (20, .slice A ins.length ca), (21, .int .i64 (ins.length : Int)), (22, .int .i64 (i : Int)), (26, .int .i64 (k143 : Int)), (29, .slice Ak143 (m_i + k143) ck143), (34, .slice (some ⟨p202, 0, none⟩) 1 1)] (by kernel_rfl) (by kernel_rfl) rfl ?_
      obtain ⟨A206, c207, w208, r209, H210⟩ := H205.append (P := Try.prog) (e := 5) (sz := 1) (by_ := 1) (n := (m_i + k143)) (c := ck143) (m := 1) (d := 1) (t := 38) (ty := 38) (xs := by8 (b_i ++ List.take k143 x129.fr)) (news := by8 ([((x129.fr.getD k143 0))] : List UInt8)) 1 rfl (by kernel_rfl) (H205.rdRow 3 rfl) (by first | (simp [by8_length]; done) | (rw [by8_length]; omega) | (rw [by8_length, putB_length])) (by8_one _) (by omega) (by simp only [maxLen]; omega)
      rw [← by8_append] at H210
      have H210 : Hp w [] [.blk p3 [.int .u64 (v : Int), .int .u64 (lt : Int), .slice A ins.length ca, .slice B outs.length cb] 64, .row A206 ((m_i + k143) + 1) c207 5 1 (by8 ((b_i ++ List.take k143 x129.fr) ++ ([((x129.fr.getD k143 0))] : List UInt8))), .blk p132 (x129.rcells) 89, .row (some ⟨p202, 0, none⟩) 1 1 5 1 (by8 ([((x129.fr.getD k143 0))] : List UInt8))] w208 := H210
      refine GL.sem (j := 7) (r209) [1, 5, 20, 21, 22, 26, 35] [(1, pt p3 0), (5, pt p132 0), (20, .slice A ins.length ca), (21, .int .i64 (ins.length : Int)), (22, .int .i64 (i : Int)), (26, .int .i64 (k143 : Int)), (35, .slice A206 ((m_i + k143) + 1) c207)] (by kernel_rfl) (by kernel_rfl) rfl ?_
      refine GL.run (j := 8) 1 [1, 3, 5, 20, 21, 22, 26] [(1, pt p3 0), (3, .slice A206 ((m_i + k143) + 1) c207), (5, pt p132 0), (20, .slice A ins.length ca), (21, .int .i64 (ins.length : Int)), (22, .int .i64 (i : Int)), (26, .int .i64 (k143 : Int))] (by kernel_rfl) rfl ?_
      refine GL.k rfl hK199 (fun _ _ h => h) ?_
      refine G.region ?_
      refine GL.run (j := 2) 2 [1, 3, 5, 20, 21, 22, 26] [(1, pt p3 0), (3, .slice A206 ((m_i + k143) + 1) c207), (5, pt p132 0), (20, .slice A ins.length ca), (21, .int .i64 (ins.length : Int)), (22, .int .i64 (i : Int)), (26, .int .i64 (IntKind.i64.wrap ((k143 : Int) + 1)))] (by kernel_rfl) rfl ?_
      have e211 : (IntKind.i64.wrap ((k143 : Int) + 1)) = ((k143 + 1 : Nat) : Int) := by rw [in_i64 (by omega)]; omega
      refine GL.eq (M' := [(1, pt p3 0), (3, .slice A206 ((m_i + k143) + 1) c207), (5, pt p132 0), (20, .slice A ins.length ca), (21, .int .i64 (ins.length : Int)), (22, .int .i64 (i : Int)), (26, .int .i64 ((k143 + 1 : Nat) : Int))]) (by rw [e211]) ?_
      clear e211
      have H212 : Hp w [] [.blk p3 [.int .u64 (v : Int), .int .u64 (lt : Int), .slice A ins.length ca, .slice B outs.length cb] 64, .row A206 ((m_i + k143) + 1) c207 5 1 (by8 ((b_i ++ List.take k143 x129.fr) ++ ([((x129.fr.getD k143 0))] : List UInt8))), .blk p132 (x129.rcells) 89] w208 := H210.sub (List.Sublist.cons_cons _ (List.Sublist.cons_cons _ (List.Sublist.cons_cons _ (List.Sublist.cons _ (List.Sublist.slnil)))))
      have H213 : Hp w [] [.blk p3 [.int .u64 (v : Int), .int .u64 (lt : Int), .slice A ins.length ca, .slice B outs.length cb] 64, .row A206 (m_i + (k143 + 1)) c207 5 1 (by8 (b_i ++ List.take (k143 + 1) x129.fr)), .blk p132 (x129.rcells) 89] w208 := by rw [take_byte (by omega), ← List.append_assoc]; exact H212
      refine GL.fit (ts := [1, 3, 5, 20, 21, 22, 26]) (M' := [(1, pt p3 0), (3, .slice A206 ((m_i + k143) + 1) c207), (5, pt p132 0), (20, .slice A ins.length ca), (21, .int .i64 (ins.length : Int)), (22, .int .i64 (i : Int)), (26, .int .i64 ((k143 + 1 : Nat) : Int))]) (by kernel_rfl) ?_
      refine GL.eq (M' := [(1, pt p3 0), (3, .slice A206 (m_i + (k143 + 1)) c207), (5, pt p132 0), (20, .slice A ins.length ca), (21, .int .i64 (ins.length : Int)), (22, .int .i64 (i : Int)), (26, .int .i64 (((k143 + 1) : Nat) : Int))]) (by rfl) ?_
      exact GL.again ⟨(k143 + 1), A206, c207⟩ [1, 3, 5, 20, 21, 22, 26] rfl (by kernel_rfl) (by show 32 - (k143 + 1) < 32 - k143; omega) ⟨by omega, H213⟩
end Go.Proofs.Ytcedmbdahbdmaaa
set_option maxRecDepth 100000
namespace Go.Proofs.Ytcedmbdahbdmaaa
open Go.RowKit
theorem write_calls (v : Nat) (ins : List TIn) (A : Option Addr) (ca : Nat) (outs : List TOut) (B : Option Addr) (cb : Nat) (lt : Nat) (w : World) (hv : v < 4294967296) (hlt : lt < 4294967296) (hIns : RdS w A (insC ins)) (hI : ∀ x ∈ ins, x.Ok w []) (hOuts : RdS w B (outsC outs)) (hO : ∀ x ∈ outs, x.Ok w []) (hni : ins.length ≤ maxLen) (hno : outs.length ≤ maxLen) (hK : txK ins outs = 0) : Calls Try.prog 48 #[.agg #[.int .u32 (v : Int), .slice A ins.length ca, .slice B outs.length cb, .int .u32 (lt : Int)]] w fun e w' => ∃ A' n' c', e = .returned (.slice A' n' c') ∧ Hp w [] [.row A' n' c' 5 1 (by8 (txB v ins outs lt))] w' := by
  have hni_ : ins.length ≤ 9223372036854775807 := hni
  have hno_ : outs.length ≤ 9223372036854775807 := hno
  obtain ⟨_, h2, h3, h4, h5⟩ := txK_zero.1 hK
  refine calls_G (args := [.agg #[.int .u32 (v : Int), .slice A ins.length ca, .slice B outs.length cb, .int .u32 (lt : Int)]]) Try.func48 rfl Try.ntmps48 rfl ?_
  intro Q0 hRet hNor hPan
  have H := Hp.start w
  have H : Hp w [] [] w := H
  refine G.seqK fun K1 hK2 => ?_
  refine G.region ?_
  obtain ⟨p3, w4, r5, H6⟩ := H.box (P := Try.prog) 26 [.int .u32 (v : Int), .slice A ins.length ca, .slice B outs.length cb, .int .u32 (lt : Int)] (.agg #[.int .u32 (v : Int), .slice A ins.length ca, .slice B outs.length cb, .int .u32 (lt : Int)]) rfl
  have H6 : Hp w [] [.blk p3 [.int .u32 (v : Int), .slice A ins.length ca, .slice B outs.length cb, .int .u32 (lt : Int)] 26] w4 := H6
  refine GL.sem (j := 1) (r5) [1] [(1, pt p3 0)] (by kernel_rfl) (by kernel_rfl) rfl ?_
  refine GL.run (j := 2) 1 [1] [(1, pt p3 0)] (by kernel_rfl) rfl ?_
  refine GL.k rfl hK2 (fun _ _ h => h) ?_
  refine G.seqK fun K7 hK8 => ?_
  refine G.region ?_
  obtain ⟨p9, w10, r11, H12⟩ := H6.alloc (P := Try.prog) 114 [.slice none 0 0] (by kernel_rfl)
  have H12 : Hp w [] [.blk p3 [.int .u32 (v : Int), .slice A ins.length ca, .slice B outs.length cb, .int .u32 (lt : Int)] 26, .blk p9 [.slice none 0 0] 114] w10 := H12
  refine GL.sem (j := 1) (r11) [1, 3] [(1, pt p3 0), (3, pt p9 0)] (by kernel_rfl) (by kernel_rfl) rfl ?_
  refine GL.k rfl hK8 (fun _ _ h => h) ?_
  refine G.seqK fun K13 hK14 => ?_
  refine G.region ?_
  refine GL.run (j := 1) 1 [1, 3, 8] [(1, pt p3 0), (3, pt p9 0), (8, pt p3 0)] (by kernel_rfl) rfl ?_
  refine GL.sem (j := 2) (H12.ld (o := 0) (ty := 22) (v := .int .u32 (v : Int)) 0 rfl (by kernel_rfl) rfl) [1, 3, 9] [(1, pt p3 0), (3, pt p9 0), (9, .int .u32 (v : Int))] (by kernel_rfl) (by kernel_rfl) rfl ?_
  refine GL.run (j := 3) 1 [1, 3, 10] [(1, pt p3 0), (3, pt p9 0), (10, .int .u64 (IntKind.u64.wrap (v : Int)))] (by kernel_rfl) rfl ?_
  have e15 : (IntKind.u64.wrap (v : Int)) = (v : Int) := in_u64 (by omega)
  refine GL.eq (M' := [(1, pt p3 0), (3, pt p9 0), (10, .int .u64 (v : Int))]) (by rw [e15]) ?_
  clear e15
  have H16 := H12.rowNil 5 1
  have H16 : Hp w [] [.blk p3 [.int .u32 (v : Int), .slice A ins.length ca, .slice B outs.length cb, .int .u32 (lt : Int)] 26, .blk p9 [.slice none 0 0] 114, .row none 0 0 5 1 (by8 ([] : List UInt8))] w10 := H16
  have H19 := (Hp.reorder (L' := [.blk p9 [.slice none 0 0] 114, .row none 0 0 5 1 (by8 ([] : List UInt8)), .blk p3 [.int .u32 (v : Int), .slice A ins.length ca, .slice B outs.length cb, .int .u32 (lt : Int)] 26]) H16 (List.Perm.trans (List.Perm.swap _ _ _) (List.Perm.cons _ (List.Perm.trans (List.Perm.swap _ _ _) (List.Perm.refl _)))))
  refine GL.call (j := 4) (Put4_calls (ids [.blk p9 [.slice none 0 0] 114, .row none 0 0 5 1 (by8 ([] : List UInt8))]) p9 none 0 0 ([] : List UInt8) v w10 (Hp.startL (A := [.blk p9 [.slice none 0 0] 114, .row none 0 0 5 1 (by8 ([] : List UInt8))]) (B := [.blk p3 [.int .u32 (v : Int), .slice A ins.length ca, .slice B outs.length cb, .int .u32 (lt : Int)] 26]) H19) (by omega)) (by kernel_rfl) rfl (fun e_ w20 hR => ?_)
  obtain ⟨A17, c18, rfl, H22⟩ := hR
  have H21 : Hp w [] [.blk p9 [.slice A17 4 c18] 114, .row A17 4 c18 5 1 (by8 (putB v 4)), .blk p3 [.int .u32 (v : Int), .slice A ins.length ca, .slice B outs.length cb, .int .u32 (lt : Int)] 26] w20 := Hp.callL (A := [.blk p9 [.slice none 0 0] 114, .row none 0 0 5 1 (by8 ([] : List UInt8))]) (B := [.blk p3 [.int .u32 (v : Int), .slice A ins.length ca, .slice B outs.length cb, .int .u32 (lt : Int)] 26]) H19 H22
  refine ⟨_, rfl, [1, 3], [(1, pt p3 0), (3, pt p9 0)], by kernel_rfl, ?_⟩
  refine GL.k rfl hK14 (fun _ _ h => h) ?_
  refine G.seqK fun K23 hK24 => ?_
  refine G.region ?_
  refine GL.run (j := 1) 1 [1, 3, 12] [(1, pt p3 0), (3, pt p9 0), (12, pt p3 1)] (by kernel_rfl) rfl ?_
  refine GL.sem (j := 2) (H21.ld (o := 1) (ty := 23) (v := .slice A ins.length ca) 2 rfl (by kernel_rfl) rfl) [1, 3, 13] [(1, pt p3 0), (3, pt p9 0), (13, .slice A ins.length ca)] (by kernel_rfl) (by kernel_rfl) rfl ?_
  refine GL.run (j := 4) 2 [1, 3, 15] [(1, pt p3 0), (3, pt p9 0), (15, .int .u64 (IntKind.u64.wrap (ins.length : Int)))] (by kernel_rfl) rfl ?_
  have e25 : (IntKind.u64.wrap (ins.length : Int)) = (ins.length : Int) := in_u64 (by omega)
  refine GL.eq (M' := [(1, pt p3 0), (3, pt p9 0), (15, .int .u64 (ins.length : Int))]) (by rw [e25]) ?_
  clear e25
  have hcA26 := cntSz_le ins.length
  refine GL.call (j := 5) (WCount_calls (ids [.blk p9 [.slice A17 4 c18] 114, .row A17 4 c18 5 1 (by8 (putB v 4))]) p9 A17 4 c18 (putB v 4) ins.length w20 (Hp.startL (A := [.blk p9 [.slice A17 4 c18] 114, .row A17 4 c18 5 1 (by8 (putB v 4))]) (B := [.blk p3 [.int .u32 (v : Int), .slice A ins.length ca, .slice B outs.length cb, .int .u32 (lt : Int)] 26]) H21) (by omega)) (by kernel_rfl) rfl (fun e_ w28 hR => ?_)
  obtain ⟨A26, c27, rfl, H30⟩ := hR
  have H29 : Hp w [] [.blk p9 [.slice A26 (4 + cntSz ins.length) c27] 114, .row A26 (4 + cntSz ins.length) c27 5 1 (by8 ((putB v 4) ++ cnt ins.length)), .blk p3 [.int .u32 (v : Int), .slice A ins.length ca, .slice B outs.length cb, .int .u32 (lt : Int)] 26] w28 := Hp.callL (A := [.blk p9 [.slice A17 4 c18] 114, .row A17 4 c18 5 1 (by8 (putB v 4))]) (B := [.blk p3 [.int .u32 (v : Int), .slice A ins.length ca, .slice B outs.length cb, .int .u32 (lt : Int)] 26]) H21 H30
  refine ⟨_, rfl, [1, 3], [(1, pt p3 0), (3, pt p9 0)], by kernel_rfl, ?_⟩
  refine GL.k rfl hK24 (fun _ _ h => h) ?_
  refine G.seqK fun K31 hK32 => ?_
  refine G.seqK fun K33 hK34 => ?_
  refine G.region ?_
  refine GL.run (j := 1) 1 [1, 3, 17] [(1, pt p3 0), (3, pt p9 0), (17, pt p3 1)] (by kernel_rfl) rfl ?_
  refine GL.sem (j := 2) (H29.ld (o := 1) (ty := 23) (v := .slice A ins.length ca) 2 rfl (by kernel_rfl) rfl) [1, 3, 18] [(1, pt p3 0), (3, pt p9 0), (18, .slice A ins.length ca)] (by kernel_rfl) (by kernel_rfl) rfl ?_
  refine GL.run (j := 4) 2 [1, 3, 18, 19, 20] [(1, pt p3 0), (3, pt p9 0), (18, .slice A ins.length ca), (19, .int .i64 (ins.length : Int)), (20, .int .i64 0)] (by kernel_rfl) rfl ?_
  refine GL.k rfl hK34 (fun _ _ h => h) ?_
  refine G.block ?_
  refine G.fit [1, 3, 18, 19, 20] (M' := [(1, pt p3 0), (3, pt p9 0), (18, .slice A ins.length ca), (19, .int .i64 (ins.length : Int)), (20, .int .i64 0)]) (by kernel_rfl) ?_
  refine G.loop (X := Nat × Option Addr × Nat × Nat × List UInt8) (fun ⟨i, A_i, c_i, m_i, b_i⟩ => [(1, pt p3 0), (3, pt p9 0), (18, .slice A ins.length ca), (19, .int .i64 (ins.length : Int)), (20, .int .i64 (i : Int))]) (fun ⟨i, A_i, c_i, m_i, b_i⟩ w_ => (i ≤ ins.length ∧ b_i = ((putB v 4) ++ cnt ins.length) ++ insB (ins.take i) ∧ m_i ≤ (4 + cntSz ins.length) + 600 * i) ∧ Hp w [] [.blk p9 [.slice A_i m_i c_i] 114, .row A_i m_i c_i 5 1 (by8 b_i), .blk p3 [.int .u32 (v : Int), .slice A ins.length ca, .slice B outs.length cb, .int .u32 (lt : Int)] 26] w_) (fun ⟨i, A_i, c_i, m_i, b_i⟩ => ins.length - i) ⟨0, A26, c27, (4 + cntSz ins.length), ((putB v 4) ++ cnt ins.length)⟩ [1, 3, 18, 19, 20] (by kernel_rfl) ⟨⟨Nat.zero_le _, by rw [List.take_zero]; exact (List.append_nil _).symm, by omega⟩, H29⟩ ?_
  rintro ⟨i, A_i, c_i, m_i, b_i⟩ w36 ⟨hi37, H38⟩
  refine G.eq (M' := [(1, pt p3 0), (3, pt p9 0), (18, .slice A ins.length ca), (19, .int .i64 (ins.length : Int)), (20, .int .i64 (i : Int))]) rfl ?_
  have H38 : Hp w [] [.blk p9 [.slice A_i m_i c_i] 114, .row A_i m_i c_i 5 1 (by8 b_i), .blk p3 [.int .u32 (v : Int), .slice A ins.length ca, .slice B outs.length cb, .int .u32 (lt : Int)] 26] w36 := H38
  obtain ⟨hil, hbi, hmi⟩ := hi37
  refine G.seqK fun K39 hK40 => ?_
  refine G.region ?_
  refine GL.run (j := 1) 1 [1, 3, 18, 19, 20, 21] [(1, pt p3 0), (3, pt p9 0), (18, .slice A ins.length ca), (19, .int .i64 (ins.length : Int)), (20, .int .i64 (i : Int)), (21, .bool (decide ((i : Int) < (ins.length : Int))))] (by kernel_rfl) rfl ?_
  refine GL.k rfl hK40 (fun _ _ h => h) ?_
  refine G.seqK fun K41 hK42 => ?_
  cases hb43 : (decide ((i : Int) < (ins.length : Int)))
  · skip
    have hb43f := of_decide_eq_false hb43
    refine G.no rfl ?_
    refine G.exitK hK32 (fun _ _ h => h) ?_
    refine G.seqK fun K44 hK45 => ?_
    refine G.region ?_
    refine GL.run (j := 1) 1 [1, 3, 39] [(1, pt p3 0), (3, pt p9 0), (39, pt p3 2)] (by kernel_rfl) rfl ?_
    refine GL.sem (j := 2) (H38.ld (o := 2) (ty := 24) (v := .slice B outs.length cb) 2 rfl (by kernel_rfl) rfl) [1, 3, 40] [(1, pt p3 0), (3, pt p9 0), (40, .slice B outs.length cb)] (by kernel_rfl) (by kernel_rfl) rfl ?_
    refine GL.run (j := 4) 2 [1, 3, 42] [(1, pt p3 0), (3, pt p9 0), (42, .int .u64 (IntKind.u64.wrap (outs.length : Int)))] (by kernel_rfl) rfl ?_
    have e46 : (IntKind.u64.wrap (outs.length : Int)) = (outs.length : Int) := in_u64 (by omega)
    refine GL.eq (M' := [(1, pt p3 0), (3, pt p9 0), (42, .int .u64 (outs.length : Int))]) (by rw [e46]) ?_
    clear e46
    have hcA47 := cntSz_le outs.length
    refine GL.call (j := 5) (WCount_calls (ids [.blk p9 [.slice A_i m_i c_i] 114, .row A_i m_i c_i 5 1 (by8 b_i)]) p9 A_i m_i c_i b_i outs.length w36 (Hp.startL (A := [.blk p9 [.slice A_i m_i c_i] 114, .row A_i m_i c_i 5 1 (by8 b_i)]) (B := [.blk p3 [.int .u32 (v : Int), .slice A ins.length ca, .slice B outs.length cb, .int .u32 (lt : Int)] 26]) H38) (by omega)) (by kernel_rfl) rfl (fun e_ w49 hR => ?_)
    obtain ⟨A47, c48, rfl, H51⟩ := hR
    have H50 : Hp w [] [.blk p9 [.slice A47 (m_i + cntSz outs.length) c48] 114, .row A47 (m_i + cntSz outs.length) c48 5 1 (by8 (b_i ++ cnt outs.length)), .blk p3 [.int .u32 (v : Int), .slice A ins.length ca, .slice B outs.length cb, .int .u32 (lt : Int)] 26] w49 := Hp.callL (A := [.blk p9 [.slice A_i m_i c_i] 114, .row A_i m_i c_i 5 1 (by8 b_i)]) (B := [.blk p3 [.int .u32 (v : Int), .slice A ins.length ca, .slice B outs.length cb, .int .u32 (lt : Int)] 26]) H38 H51
    refine ⟨_, rfl, [1, 3], [(1, pt p3 0), (3, pt p9 0)], by kernel_rfl, ?_⟩
    refine GL.k rfl hK45 (fun _ _ h => h) ?_
    refine G.seqK fun K52 hK53 => ?_
    refine G.seqK fun K54 hK55 => ?_
    refine G.region ?_
    refine GL.run (j := 1) 1 [1, 3, 44] [(1, pt p3 0), (3, pt p9 0), (44, pt p3 2)] (by kernel_rfl) rfl ?_
    refine GL.sem (j := 2) (H50.ld (o := 2) (ty := 24) (v := .slice B outs.length cb) 2 rfl (by kernel_rfl) rfl) [1, 3, 45] [(1, pt p3 0), (3, pt p9 0), (45, .slice B outs.length cb)] (by kernel_rfl) (by kernel_rfl) rfl ?_
    refine GL.run (j := 4) 2 [1, 3, 45, 46, 47] [(1, pt p3 0), (3, pt p9 0), (45, .slice B outs.length cb), (46, .int .i64 (outs.length : Int)), (47, .int .i64 0)] (by kernel_rfl) rfl ?_
    refine GL.k rfl hK55 (fun _ _ h => h) ?_
    refine G.block ?_
    refine G.fit [1, 3, 45, 46, 47] (M' := [(1, pt p3 0), (3, pt p9 0), (45, .slice B outs.length cb), (46, .int .i64 (outs.length : Int)), (47, .int .i64 0)]) (by kernel_rfl) ?_
    refine G.loop (X := Nat × Option Addr × Nat × Nat × List UInt8) (fun ⟨j, A_j, c_j, m_j, b_j⟩ => [(1, pt p3 0), (3, pt p9 0), (45, .slice B outs.length cb), (46, .int .i64 (outs.length : Int)), (47, .int .i64 (j : Int))]) (fun ⟨j, A_j, c_j, m_j, b_j⟩ w_ => (j ≤ outs.length ∧ b_j = (b_i ++ cnt outs.length) ++ outsB (outs.take j) ∧ m_j ≤ (m_i + cntSz outs.length) + 600 * j) ∧ Hp w [] [.blk p9 [.slice A_j m_j c_j] 114, .row A_j m_j c_j 5 1 (by8 b_j), .blk p3 [.int .u32 (v : Int), .slice A ins.length ca, .slice B outs.length cb, .int .u32 (lt : Int)] 26] w_) (fun ⟨j, A_j, c_j, m_j, b_j⟩ => outs.length - j) ⟨0, A47, c48, (m_i + cntSz outs.length), (b_i ++ cnt outs.length)⟩ [1, 3, 45, 46, 47] (by kernel_rfl) ⟨⟨Nat.zero_le _, by rw [List.take_zero]; exact (List.append_nil _).symm, by omega⟩, H50⟩ ?_
    rintro ⟨j, A_j, c_j, m_j, b_j⟩ w57 ⟨hi58, H59⟩
    refine G.eq (M' := [(1, pt p3 0), (3, pt p9 0), (45, .slice B outs.length cb), (46, .int .i64 (outs.length : Int)), (47, .int .i64 (j : Int))]) rfl ?_
    have H59 : Hp w [] [.blk p9 [.slice A_j m_j c_j] 114, .row A_j m_j c_j 5 1 (by8 b_j), .blk p3 [.int .u32 (v : Int), .slice A ins.length ca, .slice B outs.length cb, .int .u32 (lt : Int)] 26] w57 := H59
    obtain ⟨hjl, hbj, hmj⟩ := hi58
    refine G.seqK fun K60 hK61 => ?_
    refine G.region ?_
    refine GL.run (j := 1) 1 [1, 3, 45, 46, 47, 48] [(1, pt p3 0), (3, pt p9 0), (45, .slice B outs.length cb), (46, .int .i64 (outs.length : Int)), (47, .int .i64 (j : Int)), (48, .bool (decide ((j : Int) < (outs.length : Int))))] (by kernel_rfl) rfl ?_
    refine GL.k rfl hK61 (fun _ _ h => h) ?_
    refine G.seqK fun K62 hK63 => ?_
    cases hb64 : (decide ((j : Int) < (outs.length : Int)))
    · skip
      have hb64f := of_decide_eq_false hb64
      refine G.no rfl ?_
      refine G.exitK hK53 (fun _ _ h => h) ?_
      refine G.seqK fun K65 hK66 => ?_
      refine G.region ?_
      refine GL.run (j := 1) 1 [3, 58] [(3, pt p9 0), (58, pt p3 3)] (by kernel_rfl) rfl ?_
      refine GL.sem (j := 2) (H59.ld (o := 3) (ty := 22) (v := .int .u32 (lt : Int)) 2 rfl (by kernel_rfl) rfl) [3, 59] [(3, pt p9 0), (59, .int .u32 (lt : Int))] (by kernel_rfl) (by kernel_rfl) rfl ?_
      refine GL.run (j := 3) 1 [3, 60] [(3, pt p9 0), (60, .int .u64 (IntKind.u64.wrap (lt : Int)))] (by kernel_rfl) rfl ?_
      have e67 : (IntKind.u64.wrap (lt : Int)) = (lt : Int) := in_u64 (by omega)
      refine GL.eq (M' := [(3, pt p9 0), (60, .int .u64 (lt : Int))]) (by rw [e67]) ?_
      clear e67
      refine GL.call (j := 4) (Put4_calls (ids [.blk p9 [.slice A_j m_j c_j] 114, .row A_j m_j c_j 5 1 (by8 b_j)]) p9 A_j m_j c_j b_j lt w57 (Hp.startL (A := [.blk p9 [.slice A_j m_j c_j] 114, .row A_j m_j c_j 5 1 (by8 b_j)]) (B := [.blk p3 [.int .u32 (v : Int), .slice A ins.length ca, .slice B outs.length cb, .int .u32 (lt : Int)] 26]) H59) (by omega)) (by kernel_rfl) rfl (fun e_ w70 hR => ?_)
      obtain ⟨A68, c69, rfl, H72⟩ := hR
      have H71 : Hp w [] [.blk p9 [.slice A68 (m_j + 4) c69] 114, .row A68 (m_j + 4) c69 5 1 (by8 (b_j ++ (putB lt 4))), .blk p3 [.int .u32 (v : Int), .slice A ins.length ca, .slice B outs.length cb, .int .u32 (lt : Int)] 26] w70 := Hp.callL (A := [.blk p9 [.slice A_j m_j c_j] 114, .row A_j m_j c_j 5 1 (by8 b_j)]) (B := [.blk p3 [.int .u32 (v : Int), .slice A ins.length ca, .slice B outs.length cb, .int .u32 (lt : Int)] 26]) H59 H72
      refine ⟨_, rfl, [3], [(3, pt p9 0)], by kernel_rfl, ?_⟩
      refine GL.k rfl hK66 (fun _ _ h => h) ?_
      refine G.seqK fun K73 hK74 => ?_
      refine G.region ?_
      refine GL.call (j := 1) (WBytes_calls (ids [.blk p9 [.slice A68 (m_j + 4) c69] 114, .row A68 (m_j + 4) c69 5 1 (by8 (b_j ++ (putB lt 4)))]) p9 A68 (m_j + 4) c69 (b_j ++ (putB lt 4)) w70 (Hp.startL (A := [.blk p9 [.slice A68 (m_j + 4) c69] 114, .row A68 (m_j + 4) c69 5 1 (by8 (b_j ++ (putB lt 4)))]) (B := [.blk p3 [.int .u32 (v : Int), .slice A ins.length ca, .slice B outs.length cb, .int .u32 (lt : Int)] 26]) H71) (by omega)) (by kernel_rfl) rfl (fun e_ w77 hR => ?_)
      obtain ⟨A75, c76, rfl, H79⟩ := hR
      have H78 : Hp w [] [.blk p9 [.slice A68 (m_j + 4) c69] 114, .row A68 (m_j + 4) c69 5 1 (by8 (b_j ++ (putB lt 4))), .row A75 (m_j + 4) c76 5 1 (by8 (b_j ++ (putB lt 4))), .blk p3 [.int .u32 (v : Int), .slice A ins.length ca, .slice B outs.length cb, .int .u32 (lt : Int)] 26] w77 := Hp.callL (A := [.blk p9 [.slice A68 (m_j + 4) c69] 114, .row A68 (m_j + 4) c69 5 1 (by8 (b_j ++ (putB lt 4)))]) (B := [.blk p3 [.int .u32 (v : Int), .slice A ins.length ca, .slice B outs.length cb, .int .u32 (lt : Int)] 26]) H71 H79
      refine ⟨_, rfl, [62], [(62, .slice A75 (m_j + 4) c76)], by kernel_rfl, ?_⟩
      refine GL.run (j := 2) 1 [2] [(2, .slice A75 (m_j + 4) c76)] (by kernel_rfl) rfl ?_
      refine GL.k rfl hK74 (fun _ _ h => h) ?_
      refine G.ret ?_
      intro F_ hF_ hM_
      refine hRet _ _ (bodyPost_1 rfl (RV.tmp rfl) ?_ F_ hF_ hM_)
      have H80 : Hp w [] [.row A75 (m_j + 4) c76 5 1 (by8 (b_j ++ (putB lt 4)))] w77 := H78.sub (List.Sublist.cons _ (List.Sublist.cons _ (List.Sublist.cons_cons _ (List.Sublist.cons _ (List.Sublist.slnil)))))
      have HF := H80
      have eB : (b_j ++ (putB lt 4)) = txB v ins outs lt := by rw [hbj, hbi, List.take_of_length_le (show ins.length ≤ i by omega), List.take_of_length_le (show outs.length ≤ j by omega)]; simp only [txB, List.append_assoc, List.nil_append]
      rw [eB] at HF
      exact ⟨_, _, _, rfl, HF⟩
    · skip
      have hb64f := of_decide_eq_true hb64
      refine G.yes rfl ?_
      refine G.skipK hK63 (fun _ _ h => h) ?_
      refine G.seqK fun K81 hK82 => ?_
      refine G.block ?_
      refine G.seqK fun K83 hK84 => ?_
      refine G.region ?_
      obtain ⟨x85, hx86⟩ : ∃ x, outs[j]? = some x := ⟨_, List.getElem?_eq_getElem (by omega)⟩
      have hok87 := hO x85 (List.mem_of_getElem? hx86)
      have hpvx85 := hok87.1
      have hllx85 := h5 x85 (List.mem_of_getElem? hx86)
      refine GL.sem (j := 1) (run_idxRdN (P := Try.prog) (k := .i64) (t := 24) (sz := 2) (A := B) (len := outs.length) (cap := cb) (j := j) (by kernel_rfl) rfl (hOuts.hp H59) (outsC_length _) (by decide) (by omega)) [1, 3, 45, 46, 47, 49] [(1, pt p3 0), (3, pt p9 0), (45, .slice B outs.length cb), (46, .int .i64 (outs.length : Int)), (47, .int .i64 (j : Int)), (49, .pointer (Option.map (fun x => Addr.add x (j * 2)) B))] (by kernel_rfl) (by kernel_rfl) rfl ?_
      refine GL.sem (j := 2) (run_ldRdA (P := Try.prog) (ty := 40) (A := B) (o := (j * 2)) (m := 2) (sub := [.int .u64 (x85.pv : Int), .slice x85.B x85.lb.length x85.lc]) (by kernel_rfl) (hOuts.hp H59) (outsC_cut hx86) (rfl) (by decide)) [1, 3, 45, 46, 47, 50] [(1, pt p3 0), (3, pt p9 0), (45, .slice B outs.length cb), (46, .int .i64 (outs.length : Int)), (47, .int .i64 (j : Int)), (50, .agg #[.int .u64 (x85.pv : Int), .slice x85.B x85.lb.length x85.lc])] (by kernel_rfl) (by kernel_rfl) rfl ?_
      obtain ⟨p88, w89, r90, H91⟩ := H59.alloc (P := Try.prog) 40 [.int .u64 0, .slice none 0 0] (by kernel_rfl)
      have H91 : Hp w [] [.blk p9 [.slice A_j m_j c_j] 114, .row A_j m_j c_j 5 1 (by8 b_j), .blk p3 [.int .u32 (v : Int), .slice A ins.length ca, .slice B outs.length cb, .int .u32 (lt : Int)] 26, .blk p88 [.int .u64 0, .slice none 0 0] 40] w89 := H91
      refine GL.sem (j := 3) (r90) [1, 3, 7, 45, 46, 47, 50] [(1, pt p3 0), (3, pt p9 0), (7, pt p88 0), (45, .slice B outs.length cb), (46, .int .i64 (outs.length : Int)), (47, .int .i64 (j : Int)), (50, .agg #[.int .u64 (x85.pv : Int), .slice x85.B x85.lb.length x85.lc])] (by kernel_rfl) (by kernel_rfl) rfl ?_
      obtain ⟨w92, r93, H94⟩ := H91.stA (P := Try.prog) (o := 0) (vs := [.int .u64 (x85.pv : Int), .slice x85.B x85.lb.length x85.lc]) (ty := 40) (m := 2) 3 rfl (by kernel_rfl) rfl (by simp) (by simp [Value.oneCell'])
      have H94 : Hp w [] [.blk p9 [.slice A_j m_j c_j] 114, .row A_j m_j c_j 5 1 (by8 b_j), .blk p3 [.int .u32 (v : Int), .slice A ins.length ca, .slice B outs.length cb, .int .u32 (lt : Int)] 26, .blk p88 [.int .u64 (x85.pv : Int), .slice x85.B x85.lb.length x85.lc] 40] w92 := H94
      refine GL.semU (j := 4) r93 [1, 3, 7, 45, 46, 47] [(1, pt p3 0), (3, pt p9 0), (7, pt p88 0), (45, .slice B outs.length cb), (46, .int .i64 (outs.length : Int)), (47, .int .i64 (j : Int))] (by kernel_rfl) rfl rfl rfl ?_
      refine GL.k rfl hK84 (fun _ _ h => h) ?_
      refine G.seqK fun K95 hK96 => ?_
      refine G.region ?_
      refine GL.run (j := 1) 1 [1, 3, 7, 45, 46, 47, 51] [(1, pt p3 0), (3, pt p9 0), (7, pt p88 0), (45, .slice B outs.length cb), (46, .int .i64 (outs.length : Int)), (47, .int .i64 (j : Int)), (51, pt p88 0)] (by kernel_rfl) rfl ?_
      refine GL.sem (j := 2) (H94.ld (o := 0) (ty := 32) (v := .int .u64 (x85.pv : Int)) 3 rfl (by kernel_rfl) rfl) [1, 3, 7, 45, 46, 47, 52] [(1, pt p3 0), (3, pt p9 0), (7, pt p88 0), (45, .slice B outs.length cb), (46, .int .i64 (outs.length : Int)), (47, .int .i64 (j : Int)), (52, .int .u64 (x85.pv : Int))] (by kernel_rfl) (by kernel_rfl) rfl ?_
      refine GL.call (j := 3) (Put8_calls (ids [.blk p9 [.slice A_j m_j c_j] 114, .row A_j m_j c_j 5 1 (by8 b_j)]) p9 A_j m_j c_j b_j x85.pv w92 (Hp.startL (A := [.blk p9 [.slice A_j m_j c_j] 114, .row A_j m_j c_j 5 1 (by8 b_j)]) (B := [.blk p3 [.int .u32 (v : Int), .slice A ins.length ca, .slice B outs.length cb, .int .u32 (lt : Int)] 26, .blk p88 [.int .u64 (x85.pv : Int), .slice x85.B x85.lb.length x85.lc] 40]) H94) (by omega)) (by kernel_rfl) rfl (fun e_ w99 hR => ?_)
      obtain ⟨A97, c98, rfl, H101⟩ := hR
      have H100 : Hp w [] [.blk p9 [.slice A97 (m_j + 8) c98] 114, .row A97 (m_j + 8) c98 5 1 (by8 (b_j ++ (putB x85.pv 8))), .blk p3 [.int .u32 (v : Int), .slice A ins.length ca, .slice B outs.length cb, .int .u32 (lt : Int)] 26, .blk p88 [.int .u64 (x85.pv : Int), .slice x85.B x85.lb.length x85.lc] 40] w99 := Hp.callL (A := [.blk p9 [.slice A_j m_j c_j] 114, .row A_j m_j c_j 5 1 (by8 b_j)]) (B := [.blk p3 [.int .u32 (v : Int), .slice A ins.length ca, .slice B outs.length cb, .int .u32 (lt : Int)] 26, .blk p88 [.int .u64 (x85.pv : Int), .slice x85.B x85.lb.length x85.lc] 40]) H94 H101
      refine ⟨_, rfl, [1, 3, 7, 45, 46, 47], [(1, pt p3 0), (3, pt p9 0), (7, pt p88 0), (45, .slice B outs.length cb), (46, .int .i64 (outs.length : Int)), (47, .int .i64 (j : Int))], by kernel_rfl, ?_⟩
      refine GL.k rfl hK96 (fun _ _ h => h) ?_
      refine G.region ?_
      refine GL.run (j := 1) 1 [1, 3, 45, 46, 47, 54] [(1, pt p3 0), (3, pt p9 0), (45, .slice B outs.length cb), (46, .int .i64 (outs.length : Int)), (47, .int .i64 (j : Int)), (54, pt p88 1)] (by kernel_rfl) rfl ?_
      refine GL.sem (j := 2) (H100.ld (o := 1) (ty := 38) (v := .slice x85.B x85.lb.length x85.lc) 3 rfl (by kernel_rfl) rfl) [1, 3, 45, 46, 47, 55] [(1, pt p3 0), (3, pt p9 0), (45, .slice B outs.length cb), (46, .int .i64 (outs.length : Int)), (47, .int .i64 (j : Int)), (55, .slice x85.B x85.lb.length x85.lc)] (by kernel_rfl) (by kernel_rfl) rfl ?_
      have hcA102 := cntSz_le x85.lb.length
      refine GL.call (j := 3) (WCounted_calls (ids [.blk p9 [.slice A97 (m_j + 8) c98] 114, .row A97 (m_j + 8) c98 5 1 (by8 (b_j ++ (putB x85.pv 8)))]) p9 A97 (m_j + 8) c98 (b_j ++ (putB x85.pv 8)) x85.B x85.lb.length x85.lc x85.lb w99 (Hp.startL (A := [.blk p9 [.slice A97 (m_j + 8) c98] 114, .row A97 (m_j + 8) c98 5 1 (by8 (b_j ++ (putB x85.pv 8)))]) (B := [.blk p3 [.int .u32 (v : Int), .slice A ins.length ca, .slice B outs.length cb, .int .u32 (lt : Int)] 26, .blk p88 [.int .u64 (x85.pv : Int), .slice x85.B x85.lb.length x85.lc] 40]) H100) (by omega) (RdO.mid (A' := [.blk p9 [.slice A97 (m_j + 8) c98] 114, .row A97 (m_j + 8) c98 5 1 (by8 (b_j ++ (putB x85.pv 8)))]) (B' := [.blk p3 [.int .u32 (v : Int), .slice A ins.length ca, .slice B outs.length cb, .int .u32 (lt : Int)] 26, .blk p88 [.int .u64 (x85.pv : Int), .slice x85.B x85.lb.length x85.lc] 40]) hok87.2.1 H100) (rfl) (by omega)) (by kernel_rfl) rfl (fun e_ w104 hR => ?_)
      obtain ⟨A102, c103, rfl, H106⟩ := hR
      have H105 : Hp w [] [.blk p9 [.slice A102 ((m_j + 8) + (cntSz x85.lb.length + x85.lb.length)) c103] 114, .row A102 ((m_j + 8) + (cntSz x85.lb.length + x85.lb.length)) c103 5 1 (by8 ((b_j ++ (putB x85.pv 8)) ++ (cnt x85.lb.length ++ x85.lb))), .blk p3 [.int .u32 (v : Int), .slice A ins.length ca, .slice B outs.length cb, .int .u32 (lt : Int)] 26, .blk p88 [.int .u64 (x85.pv : Int), .slice x85.B x85.lb.length x85.lc] 40] w104 := Hp.callL (A := [.blk p9 [.slice A97 (m_j + 8) c98] 114, .row A97 (m_j + 8) c98 5 1 (by8 (b_j ++ (putB x85.pv 8)))]) (B := [.blk p3 [.int .u32 (v : Int), .slice A ins.length ca, .slice B outs.length cb, .int .u32 (lt : Int)] 26, .blk p88 [.int .u64 (x85.pv : Int), .slice x85.B x85.lb.length x85.lc] 40]) H100 H106
      refine ⟨_, rfl, [1, 3, 45, 46, 47], [(1, pt p3 0), (3, pt p9 0), (45, .slice B outs.length cb), (46, .int .i64 (outs.length : Int)), (47, .int .i64 (j : Int))], by kernel_rfl, ?_⟩
      refine GL.k rfl hK82 (fun _ _ h => h) ?_
      refine G.region ?_
      refine GL.run (j := 2) 2 [1, 3, 45, 46, 47] [(1, pt p3 0), (3, pt p9 0), (45, .slice B outs.length cb), (46, .int .i64 (outs.length : Int)), (47, .int .i64 (IntKind.i64.wrap ((j : Int) + 1)))] (by kernel_rfl) rfl ?_
      have e107 : (IntKind.i64.wrap ((j : Int) + 1)) = ((j + 1 : Nat) : Int) := by rw [in_i64 (by omega)]; omega
      refine GL.eq (M' := [(1, pt p3 0), (3, pt p9 0), (45, .slice B outs.length cb), (46, .int .i64 (outs.length : Int)), (47, .int .i64 ((j + 1 : Nat) : Int))]) (by rw [e107]) ?_
      clear e107
      have H108 : Hp w [] [.blk p9 [.slice A102 ((m_j + 8) + (cntSz x85.lb.length + x85.lb.length)) c103] 114, .row A102 ((m_j + 8) + (cntSz x85.lb.length + x85.lb.length)) c103 5 1 (by8 ((b_j ++ (putB x85.pv 8)) ++ (cnt x85.lb.length ++ x85.lb))), .blk p3 [.int .u32 (v : Int), .slice A ins.length ca, .slice B outs.length cb, .int .u32 (lt : Int)] 26] w104 := H105.sub (List.Sublist.cons_cons _ (List.Sublist.cons_cons _ (List.Sublist.cons_cons _ (List.Sublist.cons _ (List.Sublist.slnil)))))
      refine GL.fit (ts := [1, 3, 45, 46, 47]) (M' := [(1, pt p3 0), (3, pt p9 0), (45, .slice B outs.length cb), (46, .int .i64 (outs.length : Int)), (47, .int .i64 ((j + 1 : Nat) : Int))]) (by kernel_rfl) ?_
      refine GL.eq (M' := [(1, pt p3 0), (3, pt p9 0), (45, .slice B outs.length cb), (46, .int .i64 (outs.length : Int)), (47, .int .i64 (((j + 1) : Nat) : Int))]) (by rfl) ?_
      exact GL.again ⟨(j + 1), A102, c103, ((m_j + 8) + (cntSz x85.lb.length + x85.lb.length)), ((b_j ++ (putB x85.pv 8)) ++ (cnt x85.lb.length ++ x85.lb))⟩ [1, 3, 45, 46, 47] rfl (by kernel_rfl) (by show outs.length - (j + 1) < outs.length - j; omega) ⟨⟨by omega, by rw [hbj, outsB, outsB, flat_snoc hx86]; simp only [TOut.bytes, List.append_assoc], by omega⟩, H108⟩
  · skip
    have hb43f := of_decide_eq_true hb43
    refine G.yes rfl ?_
    refine G.skipK hK42 (fun _ _ h => h) ?_
    refine G.seqK fun K109 hK110 => ?_
    refine G.block ?_
    refine G.seqK fun K111 hK112 => ?_
    refine G.region ?_
    obtain ⟨x113, hx114⟩ : ∃ x, ins[i]? = some x := ⟨_, List.getElem?_eq_getElem (by omega)⟩
    have hok115 := hI x113 (List.mem_of_getElem? hx114)
    have hfrx113 := hok115.1
    have hixx113 := hok115.2.1
    have hsqx113 := hok115.2.2.1
    have hklx113 := h4 x113 (List.mem_of_getElem? hx114)
    refine GL.sem (j := 1) (run_idxRdN (P := Try.prog) (k := .i64) (t := 23) (sz := 35) (A := A) (len := ins.length) (cap := ca) (j := i) (by kernel_rfl) rfl (hIns.hp H38) (insC_length (fun x_ h_ => (hI x_ h_).1)) (by decide) (by omega)) [1, 3, 18, 19, 20, 22] [(1, pt p3 0), (3, pt p9 0), (18, .slice A ins.length ca), (19, .int .i64 (ins.length : Int)), (20, .int .i64 (i : Int)), (22, .pointer (Option.map (fun x => Addr.add x (i * 35)) A))] (by kernel_rfl) (by kernel_rfl) rfl ?_
    refine GL.sem (j := 2) (run_ldRdA (P := Try.prog) (ty := 53) (A := A) (o := (i * 35)) (m := 35) (sub := x113.cells) (by kernel_rfl) (hIns.hp H38) (insC_cut (fun x_ h_ => (hI x_ h_).1) hx114) (TIn.cells_length hok115.1) (by decide)) [1, 3, 18, 19, 20, 23] [(1, pt p3 0), (3, pt p9 0), (18, .slice A ins.length ca), (19, .int .i64 (ins.length : Int)), (20, .int .i64 (i : Int)), (23, .agg (x113.cells).toArray)] (by kernel_rfl) (by kernel_rfl) rfl ?_
    obtain ⟨p116, w117, r118, H119⟩ := H38.alloc (P := Try.prog) 53 (TIn.nil.cells) (by kernel_rfl)
    have H119 : Hp w [] [.blk p9 [.slice A_i m_i c_i] 114, .row A_i m_i c_i 5 1 (by8 b_i), .blk p3 [.int .u32 (v : Int), .slice A ins.length ca, .slice B outs.length cb, .int .u32 (lt : Int)] 26, .blk p116 (TIn.nil.cells) 53] w117 := H119
    refine GL.sem (j := 3) (r118) [1, 3, 5, 18, 19, 20, 23] [(1, pt p3 0), (3, pt p9 0), (5, pt p116 0), (18, .slice A ins.length ca), (19, .int .i64 (ins.length : Int)), (20, .int .i64 (i : Int)), (23, .agg (x113.cells).toArray)] (by kernel_rfl) (by kernel_rfl) rfl ?_
    obtain ⟨w120, r121, H122⟩ := H119.stA (P := Try.prog) (o := 0) (vs := x113.cells) (ty := 53) (m := 35) 3 rfl (by kernel_rfl) (TIn.cells_length hok115.1) (by rw [Nat.zero_add, TIn.cells_length rfl]; exact Nat.le_refl _) TIn.cells_one
    rw [tx_whole (TIn.cells_length rfl)] at H122
    have H122 : Hp w [] [.blk p9 [.slice A_i m_i c_i] 114, .row A_i m_i c_i 5 1 (by8 b_i), .blk p3 [.int .u32 (v : Int), .slice A ins.length ca, .slice B outs.length cb, .int .u32 (lt : Int)] 26, .blk p116 (x113.cells) 53] w120 := H122
    refine GL.semU (j := 4) r121 [1, 3, 5, 18, 19, 20] [(1, pt p3 0), (3, pt p9 0), (5, pt p116 0), (18, .slice A ins.length ca), (19, .int .i64 (ins.length : Int)), (20, .int .i64 (i : Int))] (by kernel_rfl) rfl rfl rfl ?_
    refine GL.k rfl hK112 (fun _ _ h => h) ?_
    refine G.seqK fun K123 hK124 => ?_
    refine G.region ?_
    refine GL.run (j := 2) 2 [1, 3, 5, 18, 19, 20, 25] [(1, pt p3 0), (3, pt p9 0), (5, pt p116 0), (18, .slice A ins.length ca), (19, .int .i64 (ins.length : Int)), (20, .int .i64 (i : Int)), (25, .slice (some ⟨p116, 0, none⟩) 32 32)] (by kernel_rfl) rfl ?_
    refine GL.call (j := 3) (WRaw_calls (ids [.blk p9 [.slice A_i m_i c_i] 114, .row A_i m_i c_i 5 1 (by8 b_i)]) p9 A_i m_i c_i b_i (some ⟨p116, 0, none⟩) 32 32 x113.fr w120 (Hp.startL (A := [.blk p9 [.slice A_i m_i c_i] 114, .row A_i m_i c_i 5 1 (by8 b_i)]) (B := [.blk p3 [.int .u32 (v : Int), .slice A ins.length ca, .slice B outs.length cb, .int .u32 (lt : Int)] 26, .blk p116 (x113.cells) 53]) H122) (by omega) (RdO.blk (A' := [.blk p9 [.slice A_i m_i c_i] 114, .row A_i m_i c_i 5 1 (by8 b_i)]) (B' := [.blk p3 [.int .u32 (v : Int), .slice A ins.length ca, .slice B outs.length cb, .int .u32 (lt : Int)] 26, .blk p116 (x113.cells) 53]) H122 1 32 rfl (TIn.cells_fr hok115.1)) (by first | rfl | omega | (simp only [List.length_cons, List.length_nil, List.length_drop, List.length_take, List.length_append] <;> omega)) (by omega)) (by kernel_rfl) rfl (fun e_ w127 hR => ?_)
    obtain ⟨A125, c126, rfl, H129⟩ := hR
    have H128 : Hp w [] [.blk p9 [.slice A125 (m_i + 32) c126] 114, .row A125 (m_i + 32) c126 5 1 (by8 (b_i ++ x113.fr)), .blk p3 [.int .u32 (v : Int), .slice A ins.length ca, .slice B outs.length cb, .int .u32 (lt : Int)] 26, .blk p116 (x113.cells) 53] w127 := Hp.callL (A := [.blk p9 [.slice A_i m_i c_i] 114, .row A_i m_i c_i 5 1 (by8 b_i)]) (B := [.blk p3 [.int .u32 (v : Int), .slice A ins.length ca, .slice B outs.length cb, .int .u32 (lt : Int)] 26, .blk p116 (x113.cells) 53]) H122 H129
    refine ⟨_, rfl, [1, 3, 5, 18, 19, 20], [(1, pt p3 0), (3, pt p9 0), (5, pt p116 0), (18, .slice A ins.length ca), (19, .int .i64 (ins.length : Int)), (20, .int .i64 (i : Int))], by kernel_rfl, ?_⟩
    refine GL.k rfl hK124 (fun _ _ h => h) ?_
    refine G.seqK fun K130 hK131 => ?_
    refine G.region ?_
    refine GL.run (j := 1) 1 [1, 3, 5, 18, 19, 20, 27] [(1, pt p3 0), (3, pt p9 0), (5, pt p116 0), (18, .slice A ins.length ca), (19, .int .i64 (ins.length : Int)), (20, .int .i64 (i : Int)), (27, pt p116 32)] (by kernel_rfl) rfl ?_
    refine GL.sem (j := 2) (H128.ld (o := 32) (ty := 22) (v := .int .u32 (x113.ix : Int)) 3 rfl (by kernel_rfl) (TIn.cells_ix hok115.1)) [1, 3, 5, 18, 19, 20, 28] [(1, pt p3 0), (3, pt p9 0), (5, pt p116 0), (18, .slice A ins.length ca), (19, .int .i64 (ins.length : Int)), (20, .int .i64 (i : Int)), (28, .int .u32 (x113.ix : Int))] (by kernel_rfl) (by kernel_rfl) rfl ?_
    refine GL.run (j := 3) 1 [1, 3, 5, 18, 19, 20, 29] [(1, pt p3 0), (3, pt p9 0), (5, pt p116 0), (18, .slice A ins.length ca), (19, .int .i64 (ins.length : Int)), (20, .int .i64 (i : Int)), (29, .int .u64 (IntKind.u64.wrap (x113.ix : Int)))] (by kernel_rfl) rfl ?_
    have e132 : (IntKind.u64.wrap (x113.ix : Int)) = (x113.ix : Int) := in_u64 (by omega)
    refine GL.eq (M' := [(1, pt p3 0), (3, pt p9 0), (5, pt p116 0), (18, .slice A ins.length ca), (19, .int .i64 (ins.length : Int)), (20, .int .i64 (i : Int)), (29, .int .u64 (x113.ix : Int))]) (by rw [e132]) ?_
    clear e132
    refine GL.call (j := 4) (Put4_calls (ids [.blk p9 [.slice A125 (m_i + 32) c126] 114, .row A125 (m_i + 32) c126 5 1 (by8 (b_i ++ x113.fr))]) p9 A125 (m_i + 32) c126 (b_i ++ x113.fr) x113.ix w127 (Hp.startL (A := [.blk p9 [.slice A125 (m_i + 32) c126] 114, .row A125 (m_i + 32) c126 5 1 (by8 (b_i ++ x113.fr))]) (B := [.blk p3 [.int .u32 (v : Int), .slice A ins.length ca, .slice B outs.length cb, .int .u32 (lt : Int)] 26, .blk p116 (x113.cells) 53]) H128) (by omega)) (by kernel_rfl) rfl (fun e_ w135 hR => ?_)
    obtain ⟨A133, c134, rfl, H137⟩ := hR
    have H136 : Hp w [] [.blk p9 [.slice A133 ((m_i + 32) + 4) c134] 114, .row A133 ((m_i + 32) + 4) c134 5 1 (by8 ((b_i ++ x113.fr) ++ (putB x113.ix 4))), .blk p3 [.int .u32 (v : Int), .slice A ins.length ca, .slice B outs.length cb, .int .u32 (lt : Int)] 26, .blk p116 (x113.cells) 53] w135 := Hp.callL (A := [.blk p9 [.slice A125 (m_i + 32) c126] 114, .row A125 (m_i + 32) c126 5 1 (by8 (b_i ++ x113.fr))]) (B := [.blk p3 [.int .u32 (v : Int), .slice A ins.length ca, .slice B outs.length cb, .int .u32 (lt : Int)] 26, .blk p116 (x113.cells) 53]) H128 H137
    refine ⟨_, rfl, [1, 3, 5, 18, 19, 20], [(1, pt p3 0), (3, pt p9 0), (5, pt p116 0), (18, .slice A ins.length ca), (19, .int .i64 (ins.length : Int)), (20, .int .i64 (i : Int))], by kernel_rfl, ?_⟩
    refine GL.k rfl hK131 (fun _ _ h => h) ?_
    refine G.seqK fun K138 hK139 => ?_
    refine G.region ?_
    refine GL.run (j := 1) 1 [1, 3, 5, 18, 19, 20, 31] [(1, pt p3 0), (3, pt p9 0), (5, pt p116 0), (18, .slice A ins.length ca), (19, .int .i64 (ins.length : Int)), (20, .int .i64 (i : Int)), (31, pt p116 33)] (by kernel_rfl) rfl ?_
    refine GL.sem (j := 2) (H136.ld (o := 33) (ty := 38) (v := .slice x113.B x113.kb.length x113.kc) 3 rfl (by kernel_rfl) (TIn.cells_key hok115.1)) [1, 3, 5, 18, 19, 20, 32] [(1, pt p3 0), (3, pt p9 0), (5, pt p116 0), (18, .slice A ins.length ca), (19, .int .i64 (ins.length : Int)), (20, .int .i64 (i : Int)), (32, .slice x113.B x113.kb.length x113.kc)] (by kernel_rfl) (by kernel_rfl) rfl ?_
    have hcA140 := cntSz_le x113.kb.length
    refine GL.call (j := 3) (WCounted_calls (ids [.blk p9 [.slice A133 ((m_i + 32) + 4) c134] 114, .row A133 ((m_i + 32) + 4) c134 5 1 (by8 ((b_i ++ x113.fr) ++ (putB x113.ix 4)))]) p9 A133 ((m_i + 32) + 4) c134 ((b_i ++ x113.fr) ++ (putB x113.ix 4)) x113.B x113.kb.length x113.kc x113.kb w135 (Hp.startL (A := [.blk p9 [.slice A133 ((m_i + 32) + 4) c134] 114, .row A133 ((m_i + 32) + 4) c134 5 1 (by8 ((b_i ++ x113.fr) ++ (putB x113.ix 4)))]) (B := [.blk p3 [.int .u32 (v : Int), .slice A ins.length ca, .slice B outs.length cb, .int .u32 (lt : Int)] 26, .blk p116 (x113.cells) 53]) H136) (by omega) (RdO.mid (A' := [.blk p9 [.slice A133 ((m_i + 32) + 4) c134] 114, .row A133 ((m_i + 32) + 4) c134 5 1 (by8 ((b_i ++ x113.fr) ++ (putB x113.ix 4)))]) (B' := [.blk p3 [.int .u32 (v : Int), .slice A ins.length ca, .slice B outs.length cb, .int .u32 (lt : Int)] 26, .blk p116 (x113.cells) 53]) hok115.2.2.2.1 H136) (rfl) (by omega)) (by kernel_rfl) rfl (fun e_ w142 hR => ?_)
    obtain ⟨A140, c141, rfl, H144⟩ := hR
    have H143 : Hp w [] [.blk p9 [.slice A140 (((m_i + 32) + 4) + (cntSz x113.kb.length + x113.kb.length)) c141] 114, .row A140 (((m_i + 32) + 4) + (cntSz x113.kb.length + x113.kb.length)) c141 5 1 (by8 (((b_i ++ x113.fr) ++ (putB x113.ix 4)) ++ (cnt x113.kb.length ++ x113.kb))), .blk p3 [.int .u32 (v : Int), .slice A ins.length ca, .slice B outs.length cb, .int .u32 (lt : Int)] 26, .blk p116 (x113.cells) 53] w142 := Hp.callL (A := [.blk p9 [.slice A133 ((m_i + 32) + 4) c134] 114, .row A133 ((m_i + 32) + 4) c134 5 1 (by8 ((b_i ++ x113.fr) ++ (putB x113.ix 4)))]) (B := [.blk p3 [.int .u32 (v : Int), .slice A ins.length ca, .slice B outs.length cb, .int .u32 (lt : Int)] 26, .blk p116 (x113.cells) 53]) H136 H144
    refine ⟨_, rfl, [1, 3, 5, 18, 19, 20], [(1, pt p3 0), (3, pt p9 0), (5, pt p116 0), (18, .slice A ins.length ca), (19, .int .i64 (ins.length : Int)), (20, .int .i64 (i : Int))], by kernel_rfl, ?_⟩
    refine GL.k rfl hK139 (fun _ _ h => h) ?_
    refine G.region ?_
    refine GL.run (j := 1) 1 [1, 3, 18, 19, 20, 34] [(1, pt p3 0), (3, pt p9 0), (18, .slice A ins.length ca), (19, .int .i64 (ins.length : Int)), (20, .int .i64 (i : Int)), (34, pt p116 34)] (by kernel_rfl) rfl ?_
    refine GL.sem (j := 2) (H143.ld (o := 34) (ty := 22) (v := .int .u32 (x113.sq : Int)) 3 rfl (by kernel_rfl) (TIn.cells_sq hok115.1)) [1, 3, 18, 19, 20, 35] [(1, pt p3 0), (3, pt p9 0), (18, .slice A ins.length ca), (19, .int .i64 (ins.length : Int)), (20, .int .i64 (i : Int)), (35, .int .u32 (x113.sq : Int))] (by kernel_rfl) (by kernel_rfl) rfl ?_
    refine GL.run (j := 3) 1 [1, 3, 18, 19, 20, 36] [(1, pt p3 0), (3, pt p9 0), (18, .slice A ins.length ca), (19, .int .i64 (ins.length : Int)), (20, .int .i64 (i : Int)), (36, .int .u64 (IntKind.u64.wrap (x113.sq : Int)))] (by kernel_rfl) rfl ?_
    have e145 : (IntKind.u64.wrap (x113.sq : Int)) = (x113.sq : Int) := in_u64 (by omega)
    refine GL.eq (M' := [(1, pt p3 0), (3, pt p9 0), (18, .slice A ins.length ca), (19, .int .i64 (ins.length : Int)), (20, .int .i64 (i : Int)), (36, .int .u64 (x113.sq : Int))]) (by rw [e145]) ?_
    clear e145
    refine GL.call (j := 4) (Put4_calls (ids [.blk p9 [.slice A140 (((m_i + 32) + 4) + (cntSz x113.kb.length + x113.kb.length)) c141] 114, .row A140 (((m_i + 32) + 4) + (cntSz x113.kb.length + x113.kb.length)) c141 5 1 (by8 (((b_i ++ x113.fr) ++ (putB x113.ix 4)) ++ (cnt x113.kb.length ++ x113.kb)))]) p9 A140 (((m_i + 32) + 4) + (cntSz x113.kb.length + x113.kb.length)) c141 (((b_i ++ x113.fr) ++ (putB x113.ix 4)) ++ (cnt x113.kb.length ++ x113.kb)) x113.sq w142 (Hp.startL (A := [.blk p9 [.slice A140 (((m_i + 32) + 4) + (cntSz x113.kb.length + x113.kb.length)) c141] 114, .row A140 (((m_i + 32) + 4) + (cntSz x113.kb.length + x113.kb.length)) c141 5 1 (by8 (((b_i ++ x113.fr) ++ (putB x113.ix 4)) ++ (cnt x113.kb.length ++ x113.kb)))]) (B := [.blk p3 [.int .u32 (v : Int), .slice A ins.length ca, .slice B outs.length cb, .int .u32 (lt : Int)] 26, .blk p116 (x113.cells) 53]) H143) (by omega)) (by kernel_rfl) rfl (fun e_ w148 hR => ?_)
    obtain ⟨A146, c147, rfl, H150⟩ := hR
    have H149 : Hp w [] [.blk p9 [.slice A146 ((((m_i + 32) + 4) + (cntSz x113.kb.length + x113.kb.length)) + 4) c147] 114, .row A146 ((((m_i + 32) + 4) + (cntSz x113.kb.length + x113.kb.length)) + 4) c147 5 1 (by8 ((((b_i ++ x113.fr) ++ (putB x113.ix 4)) ++ (cnt x113.kb.length ++ x113.kb)) ++ (putB x113.sq 4))), .blk p3 [.int .u32 (v : Int), .slice A ins.length ca, .slice B outs.length cb, .int .u32 (lt : Int)] 26, .blk p116 (x113.cells) 53] w148 := Hp.callL (A := [.blk p9 [.slice A140 (((m_i + 32) + 4) + (cntSz x113.kb.length + x113.kb.length)) c141] 114, .row A140 (((m_i + 32) + 4) + (cntSz x113.kb.length + x113.kb.length)) c141 5 1 (by8 (((b_i ++ x113.fr) ++ (putB x113.ix 4)) ++ (cnt x113.kb.length ++ x113.kb)))]) (B := [.blk p3 [.int .u32 (v : Int), .slice A ins.length ca, .slice B outs.length cb, .int .u32 (lt : Int)] 26, .blk p116 (x113.cells) 53]) H143 H150
    refine ⟨_, rfl, [1, 3, 18, 19, 20], [(1, pt p3 0), (3, pt p9 0), (18, .slice A ins.length ca), (19, .int .i64 (ins.length : Int)), (20, .int .i64 (i : Int))], by kernel_rfl, ?_⟩
    refine GL.k rfl hK110 (fun _ _ h => h) ?_
    refine G.region ?_
    refine GL.run (j := 2) 2 [1, 3, 18, 19, 20] [(1, pt p3 0), (3, pt p9 0), (18, .slice A ins.length ca), (19, .int .i64 (ins.length : Int)), (20, .int .i64 (IntKind.i64.wrap ((i : Int) + 1)))] (by kernel_rfl) rfl ?_
    have e151 : (IntKind.i64.wrap ((i : Int) + 1)) = ((i + 1 : Nat) : Int) := by rw [in_i64 (by omega)]; omega
    refine GL.eq (M' := [(1, pt p3 0), (3, pt p9 0), (18, .slice A ins.length ca), (19, .int .i64 (ins.length : Int)), (20, .int .i64 ((i + 1 : Nat) : Int))]) (by rw [e151]) ?_
    clear e151
    have H152 : Hp w [] [.blk p9 [.slice A146 ((((m_i + 32) + 4) + (cntSz x113.kb.length + x113.kb.length)) + 4) c147] 114, .row A146 ((((m_i + 32) + 4) + (cntSz x113.kb.length + x113.kb.length)) + 4) c147 5 1 (by8 ((((b_i ++ x113.fr) ++ (putB x113.ix 4)) ++ (cnt x113.kb.length ++ x113.kb)) ++ (putB x113.sq 4))), .blk p3 [.int .u32 (v : Int), .slice A ins.length ca, .slice B outs.length cb, .int .u32 (lt : Int)] 26] w148 := H149.sub (List.Sublist.cons_cons _ (List.Sublist.cons_cons _ (List.Sublist.cons_cons _ (List.Sublist.cons _ (List.Sublist.slnil)))))
    refine GL.fit (ts := [1, 3, 18, 19, 20]) (M' := [(1, pt p3 0), (3, pt p9 0), (18, .slice A ins.length ca), (19, .int .i64 (ins.length : Int)), (20, .int .i64 ((i + 1 : Nat) : Int))]) (by kernel_rfl) ?_
    refine GL.eq (M' := [(1, pt p3 0), (3, pt p9 0), (18, .slice A ins.length ca), (19, .int .i64 (ins.length : Int)), (20, .int .i64 (((i + 1) : Nat) : Int))]) (by rfl) ?_
    exact GL.again ⟨(i + 1), A146, c147, ((((m_i + 32) + 4) + (cntSz x113.kb.length + x113.kb.length)) + 4), ((((b_i ++ x113.fr) ++ (putB x113.ix 4)) ++ (cnt x113.kb.length ++ x113.kb)) ++ (putB x113.sq 4))⟩ [1, 3, 18, 19, 20] rfl (by kernel_rfl) (by show ins.length - (i + 1) < ins.length - i; omega) ⟨⟨by omega, by rw [hbi, insB, insB, flat_snoc hx114]; simp only [TIn.bytes, List.append_assoc], by omega⟩, H152⟩
end Go.Proofs.Ytcedmbdahbdmaaa
