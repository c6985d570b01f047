/- Package octet: what is read. -/
import Derived.Test.YtkfhcogdpmndkaaOctW
namespace Go.Proofs.Ytkfhcogdpmndkaa
open Go.RowKit
theorem acc_lt {V : List UInt8} {k : Nat} (h : k ≤ 7) : getB (V.drop (V.length - k)) < 72057594037927936 := by
  have h1 := getB_lt (V.drop (V.length - k))
  have h2 : (V.drop (V.length - k)).length ≤ k := by rw [List.length_drop]; omega
  have h3 : 256 ^ (V.drop (V.length - k)).length ≤ 256 ^ 7 := Nat.pow_le_pow_right (by decide) (by omega)
  exact Nat.lt_of_lt_of_le h1 h3
theorem acc_step {V : List UInt8} {k : Nat} (h : k < V.length) : (V.getD (V.length - 1 - k) 0).toNat + 256 * getB (V.drop (V.length - k)) = getB (V.drop (V.length - (k + 1))) := by
  have h1 := getB_drop (getD8 (bs := V) (k := V.length - 1 - k) (by omega))
  rw [show V.length - (k + 1) = V.length - 1 - k by omega, h1, show V.length - 1 - k + 1 = V.length - k by omega]
theorem Backward_calls (A : Option Addr) (n c : Nat) (w : World) : Calls Try.prog 36 #[.slice A n c] w fun e w' => ∃ B, e = .returned (.func (.func 40) #[] #[.pointer (some ⟨B, 0, none⟩)]) ∧ Hp w [] [.blk B [.slice A n c] 26] w' := by
  refine calls_G (args := [.slice A n c]) Try.func36 rfl Try.ntmps36 rfl ?_
  intro Q0 hRet hNor hPan
  have H := Hp.start w
  have H : Hp w [] [] w := H
  refine G.seqK fun K1 hK2 => ?_
  refine G.region ?_
  obtain ⟨p3, w4, r5, H6⟩ := H.box (P := Try.prog) 26 [.slice A n c] (.slice A n c) rfl
  have H6 : Hp w [] [.blk p3 [.slice A n c] 26] w4 := H6
  refine GL.sem (j := 1) (r5) [1] [(1, pt p3 0)] (by kernel_rfl) (by kernel_rfl) rfl ?_
  refine GL.run (j := 2) 1 [1] [(1, pt p3 0)] (by kernel_rfl) rfl ?_
  refine GL.k rfl hK2 (fun _ _ h => h) ?_
  refine G.seqK fun K7 hK8 => ?_
  refine G.region ?_
  refine GL.run (j := 2) 2 [2] [(2, .func (.func 40) #[] #[pt p3 0])] (by kernel_rfl) rfl ?_
  refine GL.k rfl hK8 (fun _ _ h => h) ?_
  refine G.ret ?_
  intro F_ hF_ hM_
  refine hRet _ _ (bodyPost_1 rfl (RV.tmp rfl) ?_ F_ hF_ hM_)
  exact ⟨_, rfl, H6⟩
theorem Backward_iter (bs : List UInt8) (hlen : bs.length ≤ 1099511627776) (A : Option Addr) (c B : Nat) : Iter Try.prog 40 #[pt B 0] bs.length (fun k => #[.int .i64 ((bs.length - 1 - k : Nat) : Int), .int .u8 ((bs.getD (bs.length - 1 - k) 0).toNat : Int)]) (fun W => W.cell? ⟨B, 0, none⟩ = some (.slice A bs.length c) ∧ RdS W A (by8 bs)) := by
  intro l J Jx hRd hst hy w h0
  rw [show (#[Value.func (.yield l) #[] #[]] ++ #[pt B 0] : Array Value) = #[.func (.yield l) #[] #[], pt B 0] by simp]
  refine calls_R (args := [.func (.yield l) #[] #[], pt B 0]) Try.func40 rfl Try.ntmps40 rfl ?_
  intro Q0 hRet hNor
  have H := Hp.start w
  have H : Hp w [] [] w := H
  refine RG.seqK fun K1 hK2 => ?_
  refine RG.region (by kernel_rfl) ?_
  refine RL.sem (j := 1) (run_ld1 (P := Try.prog) (ty := 26) (a := ⟨B, 0, none⟩) (v := .slice A bs.length c) (by kernel_rfl) ((hRd _ _ h0).1)) [0, 1, 4] [(0, .func (.yield l) #[] #[]), (1, pt B 0), (4, .slice A bs.length c)] (by kernel_rfl) (by kernel_rfl) rfl ?_
  refine RL.run (j := 4) 3 [0, 1, 3] [(0, .func (.yield l) #[] #[]), (1, pt B 0), (3, .int .i64 (IntKind.i64.wrap ((bs.length : Int) - 1)))] (by kernel_rfl) rfl ?_
  have e3 : (IntKind.i64.wrap ((bs.length : Int) - 1)) = (((bs.length - 0 : Nat) : Int) - 1) := by rw [Nat.sub_zero, in_i64 (by omega)]
  refine RL.eq (M' := [(0, .func (.yield l) #[] #[]), (1, pt B 0), (3, .int .i64 (((bs.length - 0 : Nat) : Int) - 1))]) (by rw [e3]) ?_
  clear e3
  refine RL.k rfl hK2 (fun _ _ h => h) ?_
  refine RG.block ?_
  refine RG.fit [0, 1, 3] (M' := [(0, .func (.yield l) #[] #[]), (1, pt B 0), (3, .int .i64 (((bs.length - 0 : Nat) : Int) - 1))]) (by kernel_rfl) ?_
  refine RG.loop (X := Nat) (fun k => [(0, .func (.yield l) #[] #[]), (1, pt B 0), (3, .int .i64 (((bs.length - k : Nat) : Int) - 1))]) (fun k w_ => k ≤ bs.length ∧ J k w_) (fun k => bs.length - k) 0 [0, 1, 3] (by kernel_rfl) ⟨Nat.zero_le _, h0⟩ ?_
  rintro k wk ⟨hkN, hJk⟩
  have H4 := Hp.start wk
  refine RG.eq (M' := [(0, .func (.yield l) #[] #[]), (1, pt B 0), (3, .int .i64 (((bs.length - k : Nat) : Int) - 1))]) rfl ?_
  refine RG.seqK fun K5 hK6 => ?_
  refine RG.seqK fun K7 hK8 => ?_
  refine RG.region (by kernel_rfl) ?_
  refine RL.run (j := 2) 2 [0, 1, 3, 8] [(0, .func (.yield l) #[] #[]), (1, pt B 0), (3, .int .i64 (((bs.length - k : Nat) : Int) - 1)), (8, .bool (decide (0 ≤ (((bs.length - k : Nat) : Int) - 1))))] (by kernel_rfl) rfl ?_
  refine RL.k rfl hK8 (fun _ _ h => h) ?_
  cases hb9 : (decide (0 ≤ (((bs.length - k : Nat) : Int) - 1)))
  · skip
    have hb9f := of_decide_eq_false hb9
    refine RG.no rfl ?_
    -- exit to the end
    refine fun F_ hF_ hM_ => wpIn_exit ?_
    refine hNor _ _ (postM_0 rfl  ?_ F_ hF_ hM_)
    exact ⟨⟨_, rfl⟩, .inl (by first | exact hJk | (have hkk : k = bs.length := by omega); rw [← hkk]; exact hJk)⟩
  · skip
    have hb9f := of_decide_eq_true hb9
    have ei : (((bs.length - k : Nat) : Int) - 1) = ((bs.length - 1 - k : Nat) : Int) := by omega
    refine RG.eq (M' := [(0, .func (.yield l) #[] #[]), (1, pt B 0), (3, .int .i64 ((bs.length - 1 - k : Nat) : Int)), (8, .bool true)]) (by rw [ei]) ?_
    refine RG.yes rfl ?_
    refine RG.skipK hK6 (fun _ _ h => h) ?_
    refine RG.seqK fun K10 hK11 => ?_
    refine RG.block ?_
    refine RG.seqK fun K12 hK13 => ?_
    refine RG.region (by kernel_rfl) ?_
    refine RL.run (j := 2) 2 [0, 1, 3, 11, 12] [(0, .func (.yield l) #[] #[]), (1, pt B 0), (3, .int .i64 ((bs.length - 1 - k : Nat) : Int)), (11, .func (.yield l) #[] #[]), (12, .int .i64 ((bs.length - 1 - k : Nat) : Int))] (by kernel_rfl) rfl ?_
    refine RL.sem (j := 3) (run_ld1 (P := Try.prog) (ty := 26) (a := ⟨B, 0, none⟩) (v := .slice A bs.length c) (by kernel_rfl) ((hRd _ _ hJk).1)) [0, 1, 3, 11, 12, 13] [(0, .func (.yield l) #[] #[]), (1, pt B 0), (3, .int .i64 ((bs.length - 1 - k : Nat) : Int)), (11, .func (.yield l) #[] #[]), (12, .int .i64 ((bs.length - 1 - k : Nat) : Int)), (13, .slice A bs.length c)] (by kernel_rfl) (by kernel_rfl) rfl ?_
    refine RL.run (j := 4) 1 [0, 1, 3, 11, 12, 13, 14] [(0, .func (.yield l) #[] #[]), (1, pt B 0), (3, .int .i64 ((bs.length - 1 - k : Nat) : Int)), (11, .func (.yield l) #[] #[]), (12, .int .i64 ((bs.length - 1 - k : Nat) : Int)), (13, .slice A bs.length c), (14, .int .i64 ((bs.length - 1 - k : Nat) : Int))] (by kernel_rfl) rfl ?_
    refine RL.sem (j := 5) (run_idxRd (P := Try.prog) (k := .i64) (t := 26) (A := A) (len := bs.length) (cap := c) (j := bs.length - 1 - k) (by kernel_rfl) rfl ((hRd _ _ hJk).2) (by rw [by8_length]) (by first | rfl | omega | (simp only [List.length_cons, List.length_nil, List.length_drop, List.length_take, List.length_append] <;> omega))) [0, 1, 3, 11, 12, 15] [(0, .func (.yield l) #[] #[]), (1, pt B 0), (3, .int .i64 ((bs.length - 1 - k : Nat) : Int)), (11, .func (.yield l) #[] #[]), (12, .int .i64 ((bs.length - 1 - k : Nat) : Int)), (15, .pointer (Option.map (fun x => Addr.add x (bs.length - 1 - k)) A))] (by kernel_rfl) (by kernel_rfl) rfl ?_
    refine RL.sem (j := 6) (run_ldRd (P := Try.prog) (ty := 5) (A := A) (j := bs.length - 1 - k) (v := .int .u8 ((bs.getD (bs.length - 1 - k) 0).toNat : Int)) (by kernel_rfl) ((hRd _ _ hJk).2) (by8_at (getD8 (by omega)))) [0, 1, 3, 11, 12, 16] [(0, .func (.yield l) #[] #[]), (1, pt B 0), (3, .int .i64 ((bs.length - 1 - k : Nat) : Int)), (11, .func (.yield l) #[] #[]), (12, .int .i64 ((bs.length - 1 - k : Nat) : Int)), (16, .int .u8 ((bs.getD (bs.length - 1 - k) 0).toNat : Int))] (by kernel_rfl) (by kernel_rfl) rfl ?_
    refine RL.yield (j := 7) (hy k _ (by omega) hJk) (by kernel_rfl) rfl (fun e_ w14 hR18 => ?_)
    obtain ⟨b15, rfl, hyt16, hyf17⟩ := yield_cases hR18
    have H19 := Hp.start w14
    refine ⟨_, rfl, [0, 1, 3, 17], [(0, .func (.yield l) #[] #[]), (1, pt B 0), (3, .int .i64 ((bs.length - 1 - k : Nat) : Int)), (17, .bool b15)], by kernel_rfl, ?_⟩
    refine RL.run (j := 8) 1 [0, 1, 3, 18] [(0, .func (.yield l) #[] #[]), (1, pt B 0), (3, .int .i64 ((bs.length - 1 - k : Nat) : Int)), (18, .bool (!b15))] (by kernel_rfl) rfl ?_
    refine RL.k rfl hK13 (fun _ _ h => h) ?_
    rcases (Bool.eq_false_or_eq_true b15).symm with hb20 | hb20
    · skip
      refine RG.eq (M' := [(0, .func (.yield l) #[] #[]), (1, pt B 0), (3, .int .i64 ((bs.length - 1 - k : Nat) : Int)), (18, .bool true)]) (by first | (rw [hb20]; done) | (rw [hb20]; rfl)) ?_
      have hJ21 := hyf17 hb20
      refine RG.yes rfl ?_
      refine RG.ret ?_
      intro F_ hF_ hM_
      refine hRet _ _ (postM_0 rfl  ?_ F_ hF_ hM_)
      exact ⟨⟨_, rfl⟩, .inr hJ21⟩
    · skip
      refine RG.eq (M' := [(0, .func (.yield l) #[] #[]), (1, pt B 0), (3, .int .i64 ((bs.length - 1 - k : Nat) : Int)), (18, .bool false)]) (by first | (rw [hb20]; done) | (rw [hb20]; rfl)) ?_
      have hJ22 := hyt16 hb20
      refine RG.no rfl ?_
      refine RG.skipK hK11 (fun _ _ h => h) ?_
      refine RG.region (by kernel_rfl) ?_
      refine RL.run (j := 3) 3 [0, 1, 3] [(0, .func (.yield l) #[] #[]), (1, pt B 0), (3, .int .i64 (IntKind.i64.wrap (((bs.length - 1 - k : Nat) : Int) - 1)))] (by kernel_rfl) rfl ?_
      have e23 : (IntKind.i64.wrap (((bs.length - 1 - k : Nat) : Int) - 1)) = (((bs.length - (k + 1) : Nat) : Int) - 1) := by rw [in_i64 (by omega)]; omega
      refine RL.eq (M' := [(0, .func (.yield l) #[] #[]), (1, pt B 0), (3, .int .i64 (((bs.length - (k + 1) : Nat) : Int) - 1))]) (by rw [e23]) ?_
      clear e23
      exact RL.again (k + 1) [0, 1, 3] rfl (by kernel_rfl) (by show bs.length - (k + 1) < bs.length - k; omega) ⟨by omega, hJ22⟩
theorem Read_calls (xs : List UInt8) (A : Option Addr) (n c : Nat) (w : World) (hx : RdS w A (by8 xs)) (hn : n = xs.length) (hb : n ≤ 1000000) : Calls Try.prog 23 #[.slice A n c] w fun e w' => ∃ p R C, e = .returned (.pointer (some ⟨p, 0, none⟩)) ∧ Hp w [] [.row R n C 5 1 (by8 xs), .blk p [.slice R n C, .bool false] 74] w' := by
  refine calls_G (args := [.slice A n c]) Try.func23 rfl Try.ntmps23 rfl ?_
  intro Q0 hRet hNor hPan
  have H := Hp.start w
  have H : Hp w [] [] w := H
  refine G.seqK fun K1 hK2 => ?_
  refine G.region ?_
  refine GL.run (j := 1) 1 [0] [(0, .slice A n c)] (by kernel_rfl) rfl ?_
  refine GL.k rfl hK2 (fun _ _ h => h) ?_
  refine G.seqK fun K3 hK4 => ?_
  refine G.region ?_
  refine GL.run (j := 1) 1 [3] [(3, .slice A n c)] (by kernel_rfl) rfl ?_
  refine GL.call (j := 2) (Clone_calls xs A n c w (hx.hp H) (by omega) (by omega)) (by kernel_rfl) rfl (fun e_ w9 hR => ?_)
  obtain ⟨A5, c6, rfl, H8⟩ := hR
  have H7 : Hp w [] [.row A5 n c6 5 1 (by8 xs)] w9 := H.callNew H8
  refine ⟨_, rfl, [4], [(4, .slice A5 n c6)], by kernel_rfl, ?_⟩
  refine GL.run (j := 3) 1 [5] [(5, .agg #[.slice A5 n c6, .bool false])] (by kernel_rfl) rfl ?_
  obtain ⟨p10, w11, r12, H13⟩ := H7.box (P := Try.prog) 74 [.slice A5 n c6, .bool false] (.agg #[.slice A5 n c6, .bool false]) rfl
  have H13 : Hp w [] [.row A5 n c6 5 1 (by8 xs), .blk p10 [.slice A5 n c6, .bool false] 74] w11 := H13
  refine GL.sem (j := 4) (r12) [6] [(6, pt p10 0)] (by kernel_rfl) (by kernel_rfl) rfl ?_
  refine GL.run (j := 5) 1 [2] [(2, pt p10 0)] (by kernel_rfl) rfl ?_
  refine GL.k rfl hK4 (fun _ _ h => h) ?_
  refine G.ret ?_
  intro F_ hF_ hM_
  refine hRet _ _ (bodyPost_1 rfl (RV.tmp rfl) ?_ F_ hF_ hM_)
  exact ⟨_, _, _, rfl, H13⟩
theorem Wrong_calls (S : List Nat) (p : Nat) (A : Option Addr) (k cap : Nat) (wr : Bool) (R : Option Addr) (N C : Nat) (whole : List UInt8) (w : World) (h0 : Hp w S [.blk p [.slice A k cap, .bool wr] 74, .row R N C 5 1 (by8 whole)] w) : Calls Try.prog 37 #[pt p 0] w fun e w' => e = .returned (.bool wr) ∧ Hp w S [.blk p [.slice A k cap, .bool wr] 74, .row R N C 5 1 (by8 whole)] w' := by
  refine calls_G (args := [pt p 0]) Try.func37 rfl Try.ntmps37 rfl ?_
  intro Q0 hRet hNor hPan
  have H := h0
  have H : Hp w S [.blk p [.slice A k cap, .bool wr] 74, .row R N C 5 1 (by8 whole)] w := H
  refine G.seqK fun K1 hK2 => ?_
  refine G.region ?_
  refine GL.run (j := 1) 1 [0] [(0, pt p 0)] (by kernel_rfl) rfl ?_
  refine GL.k rfl hK2 (fun _ _ h => h) ?_
  refine G.seqK fun K3 hK4 => ?_
  refine G.region ?_
  refine GL.run (j := 6) 6 [5, 8] [(5, .bool false), (8, pt p 1)] (by kernel_rfl) rfl ?_
  refine GL.sem (j := 7) (H.ld (o := 1) (ty := 4) (v := .bool wr) 0 rfl (by kernel_rfl) rfl) [5, 9] [(5, .bool false), (9, .bool wr)] (by kernel_rfl) (by kernel_rfl) rfl ?_
  refine GL.run (j := 9) 2 [2] [(2, .bool wr)] (by kernel_rfl) rfl ?_
  refine GL.k rfl hK4 (fun _ _ h => h) ?_
  refine G.ret ?_
  intro F_ hF_ hM_
  refine hRet _ _ (bodyPost_1 rfl (RV.tmp rfl) ?_ F_ hF_ hM_)
  exact ⟨rfl, H⟩
theorem Fail_calls (S : List Nat) (p : Nat) (A : Option Addr) (k cap : Nat) (wr : Bool) (R : Option Addr) (N C : Nat) (whole : List UInt8) (w : World) (h0 : Hp w S [.blk p [.slice A k cap, .bool wr] 74, .row R N C 5 1 (by8 whole)] w) : Calls Try.prog 35 #[pt p 0] w fun e w' => e = .returned (.tuple #[]) ∧ Hp w S [.blk p [.slice none 0 0, .bool true] 74, .row R N C 5 1 (by8 whole)] w' := by
  refine calls_G (args := [pt p 0]) Try.func35 rfl Try.ntmps35 rfl ?_
  intro Q0 hRet hNor hPan
  have H := h0
  have H : Hp w S [.blk p [.slice A k cap, .bool wr] 74, .row R N C 5 1 (by8 whole)] w := H
  refine G.seqK fun K1 hK2 => ?_
  refine G.region ?_
  refine GL.run (j := 2) 2 [0, 3] [(0, pt p 0), (3, .bool true)] (by kernel_rfl) rfl ?_
  refine GL.k rfl hK2 (fun _ _ h => h) ?_
  refine G.yes rfl ?_
  refine G.region ?_
  refine GL.run (j := 4) 4 [5, 7] [(5, pt p 0), (7, pt p 1)] (by kernel_rfl) rfl ?_
  obtain ⟨w3, r4, H5⟩ := H.st (P := Try.prog) (o := 1) (ty := 4) (v := .bool true) 0 rfl (by kernel_rfl) (by simp) rfl
  have H5 : Hp w S [.blk p [.slice A k cap, .bool true] 74, .row R N C 5 1 (by8 whole)] w3 := H5
  refine GL.semU (j := 5) r4 [5] [(5, pt p 0)] (by kernel_rfl) rfl rfl rfl ?_
  refine GL.run (j := 7) 2 [9] [(9, pt p 0)] (by kernel_rfl) rfl ?_
  obtain ⟨w6, r7, H8⟩ := H5.st (P := Try.prog) (o := 0) (ty := 26) (v := .slice none 0 0) 0 rfl (by kernel_rfl) (by simp) rfl
  have H8 : Hp w S [.blk p [.slice none 0 0, .bool true] 74, .row R N C 5 1 (by8 whole)] w6 := H8
  refine GL.semU (j := 8) r7 [] [] (by kernel_rfl) rfl rfl rfl ?_
  refine GL.done rfl ?_
  intro F_ hF_ hM_
  refine hNor _ _ (bodyPost_0 rfl  ?_ F_ hF_ hM_)
  exact ⟨rfl, H8⟩
theorem Raw_calls (S : List Nat) (p : Nat) (A : Option Addr) (k cap : Nat) (wr : Bool) (R : Option Addr) (N C : Nat) (whole rest : List UInt8) (n : Nat) (w : World) (h0 : Hp w S [.blk p [.slice A k cap, .bool wr] 74, .row R N C 5 1 (by8 whole)] w) (hcut : Cut R whole A rest) (hk : k = rest.length) (hcap : k ≤ cap) (hN : k ≤ 1000000) : Calls Try.prog 28 #[pt p 0, .int .i64 (n : Int)] w fun e w' => ∃ B b D d, e = .returned (.slice D (rV wr rest n).length d) ∧ Hp w S [.blk p [.slice B (rR wr rest n).length b, .bool (!(rOK wr rest n))] 74, .row R N C 5 1 (by8 whole), .row D (rV wr rest n).length d 5 1 (by8 (rV wr rest n))] w' ∧ Cut R whole B (rR wr rest n) ∧ (rR wr rest n).length ≤ b := by
  refine calls_G (args := [pt p 0, .int .i64 (n : Int)]) Try.func28 rfl Try.ntmps28 rfl ?_
  intro Q0 hRet hNor hPan
  have H := h0
  have H : Hp w S [.blk p [.slice A k cap, .bool wr] 74, .row R N C 5 1 (by8 whole)] w := H
  refine G.seqK fun K1 hK2 => ?_
  refine G.region ?_
  refine GL.run (j := 1) 1 [0, 1] [(0, pt p 0), (1, .int .i64 (n : Int))] (by kernel_rfl) rfl ?_
  refine GL.k rfl hK2 (fun _ _ h => h) ?_
  refine G.seqK fun K3 hK4 => ?_
  refine G.seqK fun K5 hK6 => ?_
  refine G.region ?_
  refine GL.run (j := 1) 1 [0, 1, 6] [(0, pt p 0), (1, .int .i64 (n : Int)), (6, pt p 0)] (by kernel_rfl) rfl ?_
  refine GL.call (j := 2) (Wrong_calls (ids [.blk p [.slice A k cap, .bool wr] 74, .row R N C 5 1 (by8 whole)]) p A k cap wr R N C whole w (Hp.startL (A := [.blk p [.slice A k cap, .bool wr] 74, .row R N C 5 1 (by8 whole)]) (B := []) H)) (by kernel_rfl) rfl (fun e_ w7 hR => ?_)
  obtain ⟨rfl, H9⟩ := hR
  have H8 : Hp w S [.blk p [.slice A k cap, .bool wr] 74, .row R N C 5 1 (by8 whole)] w7 := Hp.callL (A := [.blk p [.slice A k cap, .bool wr] 74, .row R N C 5 1 (by8 whole)]) (B := []) H H9
  refine ⟨_, rfl, [0, 1, 7], [(0, pt p 0), (1, .int .i64 (n : Int)), (7, .bool wr)], by kernel_rfl, ?_⟩
  refine GL.run (j := 3) 1 [0, 1, 8] [(0, pt p 0), (1, .int .i64 (n : Int)), (8, .bool wr)] (by kernel_rfl) rfl ?_
  rcases (Bool.eq_false_or_eq_true wr).symm with hb10 | hb10
  · skip
    refine GL.eq (M' := [(0, pt p 0), (1, .int .i64 (n : Int)), (8, .bool false)]) (by first | (rw [hb10]; done) | (rw [hb10]; rfl)) ?_
    refine GL.run (j := 7) 4 [0, 1, 12] [(0, pt p 0), (1, .int .i64 (n : Int)), (12, .bool (decide ((n : Int) < 0)))] (by kernel_rfl) rfl ?_
    have hb11 : (decide ((n : Int) < 0)) = false := decide_eq_false (by omega)
    rw [hb11]
    refine GL.run (j := 11) 4 [0, 1, 12, 13, 16] [(0, pt p 0), (1, .int .i64 (n : Int)), (12, .bool false), (13, .int .i64 (n : Int)), (16, pt p 0)] (by kernel_rfl) rfl ?_
    refine GL.sem (j := 12) (H8.ld (o := 0) (ty := 26) (v := .slice A k cap) 0 rfl (by kernel_rfl) rfl) [0, 1, 12, 13, 17] [(0, pt p 0), (1, .int .i64 (n : Int)), (12, .bool false), (13, .int .i64 (n : Int)), (17, .slice A k cap)] (by kernel_rfl) (by kernel_rfl) rfl ?_
    refine GL.run (j := 15) 3 [0, 1, 20] [(0, pt p 0), (1, .int .i64 (n : Int)), (20, .bool (decide ((k : Int) < (n : Int))))] (by kernel_rfl) rfl ?_
    refine GL.k rfl hK6 (fun _ _ h => h) ?_
    cases hb12 : (decide ((k : Int) < (n : Int)))
    · skip
      have hb12f := of_decide_eq_false hb12
      refine G.no rfl ?_
      refine G.skipK hK4 (fun _ _ h => h) ?_
      refine G.seqK fun K13 hK14 => ?_
      refine G.region ?_
      refine GL.run (j := 3) 3 [0, 1, 25] [(0, pt p 0), (1, .int .i64 (n : Int)), (25, pt p 0)] (by kernel_rfl) rfl ?_
      refine GL.sem (j := 4) (H8.ld (o := 0) (ty := 26) (v := .slice A k cap) 0 rfl (by kernel_rfl) rfl) [0, 1, 26] [(0, pt p 0), (1, .int .i64 (n : Int)), (26, .slice A k cap)] (by kernel_rfl) (by kernel_rfl) rfl ?_
      refine GL.run (j := 5) 1 [0, 1, 26, 27] [(0, pt p 0), (1, .int .i64 (n : Int)), (26, .slice A k cap), (27, .int .i64 (n : Int))] (by kernel_rfl) rfl ?_
      refine GL.sem (j := 6) (run_sliceSl0 (P := Try.prog) (lo := none) (hi := some (.int .i64 (n : Int))) (t := 26) (len := k) (cap := cap) (A := A) (h := n) (by kernel_rfl) (Or.inl ⟨rfl, rfl⟩) (Or.inr ⟨_, _, rfl, rfl⟩) (by omega)) [0, 1, 28] [(0, pt p 0), (1, .int .i64 (n : Int)), (28, .slice A n cap)] (by kernel_rfl) (by kernel_rfl) rfl ?_
      refine GL.call (j := 7) (Clone_calls (rest.take n) A n cap w7 (RdS.take8 (hcut _ (H8.rdRow 1 rfl)) n (cs := (rest.take n)) rfl) (by rw [List.length_take]; omega) (by omega)) (by kernel_rfl) rfl (fun e_ w19 hR => ?_)
      obtain ⟨A15, c16, rfl, H18⟩ := hR
      have H17 : Hp w S [.blk p [.slice A k cap, .bool wr] 74, .row R N C 5 1 (by8 whole), .row A15 n c16 5 1 (by8 (rest.take n))] w19 := H8.callNew H18
      refine ⟨_, rfl, [0, 1, 29], [(0, pt p 0), (1, .int .i64 (n : Int)), (29, .slice A15 n c16)], by kernel_rfl, ?_⟩
      refine GL.run (j := 8) 1 [0, 1, 5] [(0, pt p 0), (1, .int .i64 (n : Int)), (5, .slice A15 n c16)] (by kernel_rfl) rfl ?_
      refine GL.k rfl hK14 (fun _ _ h => h) ?_
      refine G.seqK fun K20 hK21 => ?_
      refine G.region ?_
      refine GL.run (j := 4) 4 [1, 5, 30, 33] [(1, .int .i64 (n : Int)), (5, .slice A15 n c16), (30, pt p 0), (33, pt p 0)] (by kernel_rfl) rfl ?_
      refine GL.sem (j := 5) (H17.ld (o := 0) (ty := 26) (v := .slice A k cap) 0 rfl (by kernel_rfl) rfl) [1, 5, 30, 34] [(1, .int .i64 (n : Int)), (5, .slice A15 n c16), (30, pt p 0), (34, .slice A k cap)] (by kernel_rfl) (by kernel_rfl) rfl ?_
      refine GL.run (j := 6) 1 [5, 30, 34, 35] [(5, .slice A15 n c16), (30, pt p 0), (34, .slice A k cap), (35, .int .i64 (n : Int))] (by kernel_rfl) rfl ?_
      refine GL.sem (j := 7) (run_sliceSl (P := Try.prog) (lo := some (.int .i64 (n : Int))) (hi := none) (t := 26) (len := k) (cap := cap) (A := A) (l := n) (h := k) (by kernel_rfl) (Or.inr ⟨_, _, rfl, rfl⟩) (Or.inl ⟨rfl, rfl⟩) (by omega) (by omega)) [5, 30, 36] [(5, .slice A15 n c16), (30, pt p 0), (36, .slice (if cap = n then A else Option.map (fun x => Addr.add x n) A) (k - n) (cap - n))] (by kernel_rfl) (by kernel_rfl) rfl ?_
      refine GL.run (j := 9) 2 [5, 36, 38] [(5, .slice A15 n c16), (36, .slice (if cap = n then A else Option.map (fun x => Addr.add x n) A) (k - n) (cap - n)), (38, pt p 0)] (by kernel_rfl) rfl ?_
      obtain ⟨w22, r23, H24⟩ := H17.st (P := Try.prog) (o := 0) (ty := 26) (v := .slice (if cap = n then A else Option.map (fun x => Addr.add x n) A) (k - n) (cap - n)) 0 rfl (by kernel_rfl) (by simp) rfl
      have H24 : Hp w S [.blk p [.slice (if cap = n then A else Option.map (fun x => Addr.add x n) A) (k - n) (cap - n), .bool wr] 74, .row R N C 5 1 (by8 whole), .row A15 n c16 5 1 (by8 (rest.take n))] w22 := H24
      refine GL.semU (j := 10) r23 [5] [(5, .slice A15 n c16)] (by kernel_rfl) rfl rfl rfl ?_
      refine GL.k rfl hK21 (fun _ _ h => h) ?_
      refine G.seqK fun K25 hK26 => ?_
      refine G.region ?_
      refine GL.run (j := 2) 2 [4] [(4, .slice A15 n c16)] (by kernel_rfl) rfl ?_
      refine GL.k rfl hK26 (fun _ _ h => h) ?_
      refine G.ret ?_
      intro F_ hF_ hM_
      refine hRet _ _ (bodyPost_1 rfl (RV.tmp rfl) ?_ F_ hF_ hM_)
      have hwr : wr = false := by assumption
      subst hwr
      obtain ⟨e1, e2, e3⟩ := rOK_true (rest := rest) (n := n) (by omega)
      rw [e1, e2, e3, show (rest.take n).length = n by rw [List.length_take]; omega, show (rest.drop n).length = k - n by rw [List.length_drop]; omega]
      exact ⟨_, _, _, _, rfl, H24, hcut.drop n (by omega), by omega⟩
    · skip
      have hb12f := of_decide_eq_true hb12
      refine G.yes rfl ?_
      refine G.seqK fun K27 hK28 => ?_
      refine G.region ?_
      refine GL.run (j := 1) 1 [21] [(21, pt p 0)] (by kernel_rfl) rfl ?_
      refine GL.call (j := 2) (Fail_calls (ids [.blk p [.slice A k cap, .bool wr] 74, .row R N C 5 1 (by8 whole)]) p A k cap wr R N C whole w7 (Hp.startL (A := [.blk p [.slice A k cap, .bool wr] 74, .row R N C 5 1 (by8 whole)]) (B := []) H8)) (by kernel_rfl) rfl (fun e_ w29 hR => ?_)
      obtain ⟨rfl, H31⟩ := hR
      have H30 : Hp w S [.blk p [.slice none 0 0, .bool true] 74, .row R N C 5 1 (by8 whole)] w29 := Hp.callL (A := [.blk p [.slice A k cap, .bool wr] 74, .row R N C 5 1 (by8 whole)]) (B := []) H8 H31
      refine ⟨_, rfl, [], [], by kernel_rfl, ?_⟩
      refine GL.k rfl hK28 (fun _ _ h => h) ?_
      refine G.seqK fun K32 hK33 => ?_
      refine G.region ?_
      refine GL.run (j := 1) 1 [4] [(4, .slice none 0 0)] (by kernel_rfl) rfl ?_
      refine GL.k rfl hK33 (fun _ _ h => h) ?_
      refine G.ret ?_
      intro F_ hF_ hM_
      refine hRet _ _ (bodyPost_1 rfl (RV.tmp rfl) ?_ F_ hF_ hM_)
      obtain ⟨e1, e2, e3⟩ := rOK_false (wr := wr) (rest := rest) (n := n) (.inr (by omega))
      rw [e1, e2, e3]
      exact ⟨none, 0, none, 0, rfl, H30.rowNil 5 1, Cut.nil _ _ _, Nat.le_refl _⟩
  · skip
    refine GL.eq (M' := [(0, pt p 0), (1, .int .i64 (n : Int)), (8, .bool true)]) (by first | (rw [hb10]; done) | (rw [hb10]; rfl)) ?_
    refine GL.run (j := 15) 12 [0, 1, 20] [(0, pt p 0), (1, .int .i64 (n : Int)), (20, .bool true)] (by kernel_rfl) rfl ?_
    refine GL.k rfl hK6 (fun _ _ h => h) ?_
    refine G.yes rfl ?_
    refine G.seqK fun K34 hK35 => ?_
    refine G.region ?_
    refine GL.run (j := 1) 1 [21] [(21, pt p 0)] (by kernel_rfl) rfl ?_
    refine GL.call (j := 2) (Fail_calls (ids [.blk p [.slice A k cap, .bool wr] 74, .row R N C 5 1 (by8 whole)]) p A k cap wr R N C whole w7 (Hp.startL (A := [.blk p [.slice A k cap, .bool wr] 74, .row R N C 5 1 (by8 whole)]) (B := []) H8)) (by kernel_rfl) rfl (fun e_ w36 hR => ?_)
    obtain ⟨rfl, H38⟩ := hR
    have H37 : Hp w S [.blk p [.slice none 0 0, .bool true] 74, .row R N C 5 1 (by8 whole)] w36 := Hp.callL (A := [.blk p [.slice A k cap, .bool wr] 74, .row R N C 5 1 (by8 whole)]) (B := []) H8 H38
    refine ⟨_, rfl, [], [], by kernel_rfl, ?_⟩
    refine GL.k rfl hK35 (fun _ _ h => h) ?_
    refine G.seqK fun K39 hK40 => ?_
    refine G.region ?_
    refine GL.run (j := 1) 1 [4] [(4, .slice none 0 0)] (by kernel_rfl) rfl ?_
    refine GL.k rfl hK40 (fun _ _ h => h) ?_
    refine G.ret ?_
    intro F_ hF_ hM_
    refine hRet _ _ (bodyPost_1 rfl (RV.tmp rfl) ?_ F_ hF_ hM_)
    obtain ⟨e1, e2, e3⟩ := rOK_false (wr := wr) (rest := rest) (n := n) (.inl (by assumption))
    rw [e1, e2, e3]
    exact ⟨none, 0, none, 0, rfl, H37.rowNil 5 1, Cut.nil _ _ _, Nat.le_refl _⟩
theorem Get1_calls (S : List Nat) (p : Nat) (A : Option Addr) (k cap : Nat) (wr : Bool) (R : Option Addr) (N C : Nat) (whole rest : List UInt8) (w : World) (h0 : Hp w S [.blk p [.slice A k cap, .bool wr] 74, .row R N C 5 1 (by8 whole)] w) (hcut : Cut R whole A rest) (hk : k = rest.length) (hcap : k ≤ cap) (hN : k ≤ 1000000) : Calls Try.prog 24 #[pt p 0, .int .i64 1] w fun e w' => ∃ B b, e = .returned (.int .u64 ((getB (rV wr rest 1) : Nat) : Int)) ∧ Hp w S [.blk p [.slice B (rR wr rest 1).length b, .bool (!(rOK wr rest 1))] 74, .row R N C 5 1 (by8 whole)] w' ∧ Cut R whole B (rR wr rest 1) ∧ (rR wr rest 1).length ≤ b := by
  refine calls_R (args := [pt p 0, .int .i64 1]) Try.func24 rfl Try.ntmps24 rfl ?_
  intro Q0 hRet hNor
  have H := h0
  have H : Hp w S [.blk p [.slice A k cap, .bool wr] 74, .row R N C 5 1 (by8 whole)] w := H
  refine RG.seqK fun K1 hK2 => ?_
  refine RG.region (by kernel_rfl) ?_
  refine RL.run (j := 1) 1 [0, 1] [(0, pt p 0), (1, .int .i64 1)] (by kernel_rfl) rfl ?_
  refine RL.k rfl hK2 (fun _ _ h => h) ?_
  refine RG.seqK fun K3 hK4 => ?_
  refine RG.seqK fun K5 hK6 => ?_
  refine RG.region (by kernel_rfl) ?_
  refine RL.run (j := 14) 14 [0, 1, 21] [(0, pt p 0), (1, .int .i64 1), (21, .bool false)] (by kernel_rfl) rfl ?_
  refine RL.k rfl hK6 (fun _ _ h => h) ?_
  refine RG.no rfl ?_
  refine RG.skipK hK4 (fun _ _ h => h) ?_
  refine RG.seqK fun K7 hK8 => ?_
  refine RG.region (by kernel_rfl) ?_
  obtain ⟨p9, w10, r11, H12⟩ := H.alloc (P := Try.prog) 23 [.int .u64 0] (by kernel_rfl)
  have H12 : Hp w S [.blk p [.slice A k cap, .bool wr] 74, .row R N C 5 1 (by8 whole), .blk p9 [.int .u64 0] 23] w10 := H12
  refine RL.sem (j := 1) (r11) [0, 1, 5] [(0, pt p 0), (1, .int .i64 1), (5, pt p9 0)] (by kernel_rfl) (by kernel_rfl) rfl ?_
  refine RL.k rfl hK8 (fun _ _ h => h) ?_
  refine RG.seqK fun K13 hK14 => ?_
  refine RG.seqK fun K15 hK16 => ?_
  refine RG.region (by kernel_rfl) ?_
  refine RL.run (j := 2) 2 [5, 24, 25] [(5, pt p9 0), (24, pt p 0), (25, .int .i64 1)] (by kernel_rfl) rfl ?_
  refine RL.call (j := 3) (Raw_calls (ids [.blk p [.slice A k cap, .bool wr] 74, .row R N C 5 1 (by8 whole)]) p A k cap wr R N C whole rest 1 w10 (Hp.startL (A := [.blk p [.slice A k cap, .bool wr] 74, .row R N C 5 1 (by8 whole)]) (B := [.blk p9 [.int .u64 0] 23]) H12) hcut (hk) (hcap) (hN)) (by kernel_rfl) rfl (fun e_ w23 hR => ?_)
  obtain ⟨A17, c18, A19, c20, rfl, H25, hC21, hL22⟩ := hR
  have H24 : Hp w S [.blk p [.slice A17 ((rR wr rest 1).length) c18, .bool (!(rOK wr rest 1))] 74, .row R N C 5 1 (by8 whole), .row A19 ((rV wr rest 1).length) c20 5 1 (by8 (rV wr rest 1)), .blk p9 [.int .u64 0] 23] w23 := Hp.callL (A := [.blk p [.slice A k cap, .bool wr] 74, .row R N C 5 1 (by8 whole)]) (B := [.blk p9 [.int .u64 0] 23]) H12 H25
  refine ⟨_, rfl, [5, 26], [(5, pt p9 0), (26, .slice A19 ((rV wr rest 1).length) c20)], by kernel_rfl, ?_⟩
  refine RL.call (j := 4) (Backward_calls A19 ((rV wr rest 1).length) c20 w23) (by kernel_rfl) rfl (fun e_ w29 hR => ?_)
  obtain ⟨B26, rfl, H28⟩ := hR
  have H27 : Hp w S [.blk p [.slice A17 ((rR wr rest 1).length) c18, .bool (!(rOK wr rest 1))] 74, .row R N C 5 1 (by8 whole), .row A19 ((rV wr rest 1).length) c20 5 1 (by8 (rV wr rest 1)), .blk p9 [.int .u64 0] 23, .blk B26 [.slice A19 ((rV wr rest 1).length) c20] 26] w29 := H24.callNew H28
  refine ⟨_, rfl, [5, 27], [(5, pt p9 0), (27, .func (.func 40) #[] #[pt B26 0])], by kernel_rfl, ?_⟩
  refine RL.k rfl hK16 (fun _ _ h => h) ?_
  refine RG.block ?_
  refine RG.fit [5, 27] (M' := [(5, pt p9 0), (27, .func (.func 40) #[] #[pt B26 0])]) (by kernel_rfl) ?_
  refine RG.range H27 (gf := 40) (lb := #[pt B26 0]) rfl (enters_of Try.func40 (by kernel_rfl) rfl) (Xt := Nat) (fun k s => s = getB ((rV wr rest 1).drop ((rV wr rest 1).length - k))) (fun k s => [.blk p [.slice A17 ((rR wr rest 1).length) c18, .bool (!(rOK wr rest 1))] 74, .row R N C 5 1 (by8 whole), .row A19 ((rV wr rest 1).length) c20 5 1 (by8 (rV wr rest 1)), .blk p9 [.int .u64 (s : Int)] 23, .blk B26 [.slice A19 ((rV wr rest 1).length) c20] 26]) (fun s => False) (fun s => []) (N := (rV wr rest 1).length) (enc := fun k => #[.int .i64 (((rV wr rest 1).length - 1 - k : Nat) : Int), .int .u8 (((rV wr rest 1).getD ((rV wr rest 1).length - 1 - k) 0).toNat : Int)]) (Backward_iter (rV wr rest 1) (Nat.le_trans (show (rV wr rest 1).length ≤ 8 from (Nat.le_trans (rV_le wr rest 1) (by decide))) (by decide)) A19 c20 B26) (fun _ => rfl) 0 (by rw [Nat.sub_zero, List.drop_length]; rfl) rfl (fun k s E W hx HW => ⟨(HW.blkAt 4 rfl).cell 0, HW.rdRow 2 rfl⟩) (fun k => [(29, .int .u8 (((rV wr rest 1).getD ((rV wr rest 1).length - 1 - k) 0).toNat : Int)), (28, .int .i64 (((rV wr rest 1).length - 1 - k : Nat) : Int)), (5, pt p9 0), (27, .func (.func 40) #[] #[pt B26 0])]) (fun _ => rfl) ?_ ?_ ?_
  · skip
    rintro D33 l34 oR35 oB36 k s w30 K37 hk38 hx31 H32 hK39
    have H32 : Hp w S [.blk p [.slice A17 ((rR wr rest 1).length) c18, .bool (!(rOK wr rest 1))] 74, .row R N C 5 1 (by8 whole), .row A19 ((rV wr rest 1).length) c20 5 1 (by8 (rV wr rest 1)), .blk p9 [.int .u64 (s : Int)] 23, .blk B26 [.slice A19 ((rV wr rest 1).length) c20] 26, .obj D33 DF, .obj l34 oR35] w30 := H32
    have hs1 := hx31
    have hk9 := hk38
    have hVl : (rV wr rest 1).length ≤ 8 := (Nat.le_trans (rV_le wr rest 1) (by decide))
    have hs56 : s < 72057594037927936 := by rw [hs1]; exact acc_lt (by omega)
    have hxb := UInt8.toNat_lt ((rV wr rest 1).getD ((rV wr rest 1).length - 1 - k) 0)
    refine RG.region (by kernel_rfl) ?_
    refine RL.run (j := 1) 1 [5, 7] [(5, pt p9 0), (7, .int .u8 (((rV wr rest 1).getD ((rV wr rest 1).length - 1 - k) 0).toNat : Int))] (by kernel_rfl) rfl ?_
    refine RL.done rfl (fun F_ hF_ hM_ => hK39 F_ _ [.blk p [.slice A17 ((rR wr rest 1).length) c18, .bool (!(rOK wr rest 1))] 74, .row R N C 5 1 (by8 whole), .row A19 ((rV wr rest 1).length) c20 5 1 (by8 (rV wr rest 1)), .blk p9 [.int .u64 (s : Int)] 23, .blk B26 [.slice A19 ((rV wr rest 1).length) c20] 26] _ hF_ hM_ H32 ?_)
    intro w40 H41
    have H41 : Hp w S [.blk p [.slice A17 ((rR wr rest 1).length) c18, .bool (!(rOK wr rest 1))] 74, .row R N C 5 1 (by8 whole), .row A19 ((rV wr rest 1).length) c20 5 1 (by8 (rV wr rest 1)), .blk p9 [.int .u64 (s : Int)] 23, .blk B26 [.slice A19 ((rV wr rest 1).length) c20] 26, .obj D33 DF, .obj l34 oB36] w40 := H41
    refine RG.block ?_
    refine RG.region (by kernel_rfl) ?_
    refine RL.sem (j := 1) (H41.ld (o := 0) (ty := 23) (v := .int .u64 (s : Int)) 3 rfl (by kernel_rfl) rfl) [5, 7, 30] [(5, pt p9 0), (7, .int .u8 (((rV wr rest 1).getD ((rV wr rest 1).length - 1 - k) 0).toNat : Int)), (30, .int .u64 (s : Int))] (by kernel_rfl) (by kernel_rfl) rfl ?_
    refine RL.run (j := 5) 4 [5, 34] [(5, pt p9 0), (34, .int .u64 (Go.bits .or .u64 (IntKind.u64.wrap ((s : Int) * 2 ^ 8)) (IntKind.u64.wrap (((rV wr rest 1).getD ((rV wr rest 1).length - 1 - k) 0).toNat : Int))))] (by kernel_rfl) rfl ?_
    have e42 : (IntKind.u64.wrap ((s : Int) * 2 ^ 8)) = ((s * 2 ^ 8 : Nat) : Int) := by rw [n_shl, Nat.mod_eq_of_lt (by simp only [K]; omega)]
    have e43 : (IntKind.u64.wrap (((rV wr rest 1).getD ((rV wr rest 1).length - 1 - k) 0).toNat : Int)) = (((rV wr rest 1).getD ((rV wr rest 1).length - 1 - k) 0).toNat : Int) := u8_up_u64 _
    have e44 : (Go.bits .or .u64 ((s * 2 ^ 8 : Nat) : Int) (((rV wr rest 1).getD ((rV wr rest 1).length - 1 - k) 0).toNat : Int)) = ((((rV wr rest 1).getD ((rV wr rest 1).length - 1 - k) 0).toNat + 256 * s : Nat) : Int) := or_low hs56 hxb
    refine RL.eq (M' := [(5, pt p9 0), (34, .int .u64 ((((rV wr rest 1).getD ((rV wr rest 1).length - 1 - k) 0).toNat + 256 * s : Nat) : Int))]) (by rw [e42, e43, e44]) ?_
    clear e42 e43 e44
    obtain ⟨w45, r46, H47⟩ := H41.st (P := Try.prog) (o := 0) (ty := 23) (v := .int .u64 ((((rV wr rest 1).getD ((rV wr rest 1).length - 1 - k) 0).toNat + 256 * s : Nat) : Int)) 3 rfl (by kernel_rfl) (by simp) rfl
    have H47 : Hp w S [.blk p [.slice A17 ((rR wr rest 1).length) c18, .bool (!(rOK wr rest 1))] 74, .row R N C 5 1 (by8 whole), .row A19 ((rV wr rest 1).length) c20 5 1 (by8 (rV wr rest 1)), .blk p9 [.int .u64 ((((rV wr rest 1).getD ((rV wr rest 1).length - 1 - k) 0).toNat + 256 * s : Nat) : Int)] 23, .blk B26 [.slice A19 ((rV wr rest 1).length) c20] 26, .obj D33 DF, .obj l34 oB36] w45 := H47
    refine RL.semU (j := 6) r46 [] [] (by kernel_rfl) rfl rfl rfl ?_
    exact RL.done rfl (fun F_ hF_ hM_ => ⟨((((rV wr rest 1).getD ((rV wr rest 1).length - 1 - k) 0)).toNat + 256 * s), (by rw [hs1]; exact acc_step hk9), H47⟩)
  · skip
    rintro D51 s w48 hx49 H50
    refine RG.kk hK14 (fun _ _ h => h) ?_
    have H50 : Hp w S [.blk p [.slice A17 ((rR wr rest 1).length) c18, .bool (!(rOK wr rest 1))] 74, .row R N C 5 1 (by8 whole), .row A19 ((rV wr rest 1).length) c20 5 1 (by8 (rV wr rest 1)), .blk p9 [.int .u64 (s : Int)] 23, .blk B26 [.slice A19 ((rV wr rest 1).length) c20] 26, .obj D51 DF] w48 := H50
    rw [Nat.sub_self, List.drop_zero] at hx49
    have hs1 := hx49
    refine RG.seqK fun K52 hK53 => ?_
    refine RG.region (by kernel_rfl) ?_
    refine RL.sem (j := 1) (H50.ld (o := 0) (ty := 23) (v := .int .u64 (s : Int)) 3 rfl (by kernel_rfl) rfl) [35] [(35, .int .u64 (s : Int))] (by kernel_rfl) (by kernel_rfl) rfl ?_
    refine RL.run (j := 2) 1 [4] [(4, .int .u64 (s : Int))] (by kernel_rfl) rfl ?_
    refine RL.k rfl hK53 (fun _ _ h => h) ?_
    refine RG.ret ?_
    have hD54 := H50.objAt 5 rfl
    have H55 : Hp w S [.blk p [.slice A17 ((rR wr rest 1).length) c18, .bool (!(rOK wr rest 1))] 74, .row R N C 5 1 (by8 whole), .row A19 ((rV wr rest 1).length) c20 5 1 (by8 (rV wr rest 1)), .blk p9 [.int .u64 (s : Int)] 23, .blk B26 [.slice A19 ((rV wr rest 1).length) c20] 26, .obj D51 (.deferred none)] (World.putObj w48 D51 (.deferred none)) := H50.putObj 5 (.deferred none) rfl
    intro F_ hF_ hM_
    refine hRet _ _ (postK_1 hD54 rfl (RV.tmp rfl) ?_ F_ hF_ hM_)
    have H56 : Hp w S [.blk p [.slice A17 ((rR wr rest 1).length) c18, .bool (!(rOK wr rest 1))] 74, .row R N C 5 1 (by8 whole)] (World.putObj w48 D51 (.deferred none)) := H55.sub (List.Sublist.cons_cons _ (List.Sublist.cons_cons _ (List.Sublist.cons _ (List.Sublist.cons _ (List.Sublist.cons _ (List.Sublist.cons _ (List.Sublist.slnil)))))))
    rw [← hs1]
    exact ⟨_, _, rfl, H56, hC21, hL22⟩
  · skip
    rintro D60 s w57 hx58 H59
    exact hx58.elim
theorem Get2_calls (S : List Nat) (p : Nat) (A : Option Addr) (k cap : Nat) (wr : Bool) (R : Option Addr) (N C : Nat) (whole rest : List UInt8) (w : World) (h0 : Hp w S [.blk p [.slice A k cap, .bool wr] 74, .row R N C 5 1 (by8 whole)] w) (hcut : Cut R whole A rest) (hk : k = rest.length) (hcap : k ≤ cap) (hN : k ≤ 1000000) : Calls Try.prog 24 #[pt p 0, .int .i64 2] w fun e w' => ∃ B b, e = .returned (.int .u64 ((getB (rV wr rest 2) : Nat) : Int)) ∧ Hp w S [.blk p [.slice B (rR wr rest 2).length b, .bool (!(rOK wr rest 2))] 74, .row R N C 5 1 (by8 whole)] w' ∧ Cut R whole B (rR wr rest 2) ∧ (rR wr rest 2).length ≤ b := by
  refine calls_R (args := [pt p 0, .int .i64 2]) Try.func24 rfl Try.ntmps24 rfl ?_
  intro Q0 hRet hNor
  have H := h0
  have H : Hp w S [.blk p [.slice A k cap, .bool wr] 74, .row R N C 5 1 (by8 whole)] w := H
  refine RG.seqK fun K1 hK2 => ?_
  refine RG.region (by kernel_rfl) ?_
  refine RL.run (j := 1) 1 [0, 1] [(0, pt p 0), (1, .int .i64 2)] (by kernel_rfl) rfl ?_
  refine RL.k rfl hK2 (fun _ _ h => h) ?_
  refine RG.seqK fun K3 hK4 => ?_
  refine RG.seqK fun K5 hK6 => ?_
  refine RG.region (by kernel_rfl) ?_
  refine RL.run (j := 14) 14 [0, 1, 21] [(0, pt p 0), (1, .int .i64 2), (21, .bool false)] (by kernel_rfl) rfl ?_
  refine RL.k rfl hK6 (fun _ _ h => h) ?_
  refine RG.no rfl ?_
  refine RG.skipK hK4 (fun _ _ h => h) ?_
  refine RG.seqK fun K7 hK8 => ?_
  refine RG.region (by kernel_rfl) ?_
  obtain ⟨p9, w10, r11, H12⟩ := H.alloc (P := Try.prog) 23 [.int .u64 0] (by kernel_rfl)
  have H12 : Hp w S [.blk p [.slice A k cap, .bool wr] 74, .row R N C 5 1 (by8 whole), .blk p9 [.int .u64 0] 23] w10 := H12
  refine RL.sem (j := 1) (r11) [0, 1, 5] [(0, pt p 0), (1, .int .i64 2), (5, pt p9 0)] (by kernel_rfl) (by kernel_rfl) rfl ?_
  refine RL.k rfl hK8 (fun _ _ h => h) ?_
  refine RG.seqK fun K13 hK14 => ?_
  refine RG.seqK fun K15 hK16 => ?_
  refine RG.region (by kernel_rfl) ?_
  refine RL.run (j := 2) 2 [5, 24, 25] [(5, pt p9 0), (24, pt p 0), (25, .int .i64 2)] (by kernel_rfl) rfl ?_
  refine RL.call (j := 3) (Raw_calls (ids [.blk p [.slice A k cap, .bool wr] 74, .row R N C 5 1 (by8 whole)]) p A k cap wr R N C whole rest 2 w10 (Hp.startL (A := [.blk p [.slice A k cap, .bool wr] 74, .row R N C 5 1 (by8 whole)]) (B := [.blk p9 [.int .u64 0] 23]) H12) hcut (hk) (hcap) (hN)) (by kernel_rfl) rfl (fun e_ w23 hR => ?_)
  obtain ⟨A17, c18, A19, c20, rfl, H25, hC21, hL22⟩ := hR
  have H24 : Hp w S [.blk p [.slice A17 ((rR wr rest 2).length) c18, .bool (!(rOK wr rest 2))] 74, .row R N C 5 1 (by8 whole), .row A19 ((rV wr rest 2).length) c20 5 1 (by8 (rV wr rest 2)), .blk p9 [.int .u64 0] 23] w23 := Hp.callL (A := [.blk p [.slice A k cap, .bool wr] 74, .row R N C 5 1 (by8 whole)]) (B := [.blk p9 [.int .u64 0] 23]) H12 H25
  refine ⟨_, rfl, [5, 26], [(5, pt p9 0), (26, .slice A19 ((rV wr rest 2).length) c20)], by kernel_rfl, ?_⟩
  refine RL.call (j := 4) (Backward_calls A19 ((rV wr rest 2).length) c20 w23) (by kernel_rfl) rfl (fun e_ w29 hR => ?_)
  obtain ⟨B26, rfl, H28⟩ := hR
  have H27 : Hp w S [.blk p [.slice A17 ((rR wr rest 2).length) c18, .bool (!(rOK wr rest 2))] 74, .row R N C 5 1 (by8 whole), .row A19 ((rV wr rest 2).length) c20 5 1 (by8 (rV wr rest 2)), .blk p9 [.int .u64 0] 23, .blk B26 [.slice A19 ((rV wr rest 2).length) c20] 26] w29 := H24.callNew H28
  refine ⟨_, rfl, [5, 27], [(5, pt p9 0), (27, .func (.func 40) #[] #[pt B26 0])], by kernel_rfl, ?_⟩
  refine RL.k rfl hK16 (fun _ _ h => h) ?_
  refine RG.block ?_
  refine RG.fit [5, 27] (M' := [(5, pt p9 0), (27, .func (.func 40) #[] #[pt B26 0])]) (by kernel_rfl) ?_
  refine RG.range H27 (gf := 40) (lb := #[pt B26 0]) rfl (enters_of Try.func40 (by kernel_rfl) rfl) (Xt := Nat) (fun k s => s = getB ((rV wr rest 2).drop ((rV wr rest 2).length - k))) (fun k s => [.blk p [.slice A17 ((rR wr rest 2).length) c18, .bool (!(rOK wr rest 2))] 74, .row R N C 5 1 (by8 whole), .row A19 ((rV wr rest 2).length) c20 5 1 (by8 (rV wr rest 2)), .blk p9 [.int .u64 (s : Int)] 23, .blk B26 [.slice A19 ((rV wr rest 2).length) c20] 26]) (fun s => False) (fun s => []) (N := (rV wr rest 2).length) (enc := fun k => #[.int .i64 (((rV wr rest 2).length - 1 - k : Nat) : Int), .int .u8 (((rV wr rest 2).getD ((rV wr rest 2).length - 1 - k) 0).toNat : Int)]) (Backward_iter (rV wr rest 2) (Nat.le_trans (show (rV wr rest 2).length ≤ 8 from (Nat.le_trans (rV_le wr rest 2) (by decide))) (by decide)) A19 c20 B26) (fun _ => rfl) 0 (by rw [Nat.sub_zero, List.drop_length]; rfl) rfl (fun k s E W hx HW => ⟨(HW.blkAt 4 rfl).cell 0, HW.rdRow 2 rfl⟩) (fun k => [(29, .int .u8 (((rV wr rest 2).getD ((rV wr rest 2).length - 1 - k) 0).toNat : Int)), (28, .int .i64 (((rV wr rest 2).length - 1 - k : Nat) : Int)), (5, pt p9 0), (27, .func (.func 40) #[] #[pt B26 0])]) (fun _ => rfl) ?_ ?_ ?_
  · skip
    rintro D33 l34 oR35 oB36 k s w30 K37 hk38 hx31 H32 hK39
    have H32 : Hp w S [.blk p [.slice A17 ((rR wr rest 2).length) c18, .bool (!(rOK wr rest 2))] 74, .row R N C 5 1 (by8 whole), .row A19 ((rV wr rest 2).length) c20 5 1 (by8 (rV wr rest 2)), .blk p9 [.int .u64 (s : Int)] 23, .blk B26 [.slice A19 ((rV wr rest 2).length) c20] 26, .obj D33 DF, .obj l34 oR35] w30 := H32
    have hs1 := hx31
    have hk9 := hk38
    have hVl : (rV wr rest 2).length ≤ 8 := (Nat.le_trans (rV_le wr rest 2) (by decide))
    have hs56 : s < 72057594037927936 := by rw [hs1]; exact acc_lt (by omega)
    have hxb := UInt8.toNat_lt ((rV wr rest 2).getD ((rV wr rest 2).length - 1 - k) 0)
    refine RG.region (by kernel_rfl) ?_
    refine RL.run (j := 1) 1 [5, 7] [(5, pt p9 0), (7, .int .u8 (((rV wr rest 2).getD ((rV wr rest 2).length - 1 - k) 0).toNat : Int))] (by kernel_rfl) rfl ?_
    refine RL.done rfl (fun F_ hF_ hM_ => hK39 F_ _ [.blk p [.slice A17 ((rR wr rest 2).length) c18, .bool (!(rOK wr rest 2))] 74, .row R N C 5 1 (by8 whole), .row A19 ((rV wr rest 2).length) c20 5 1 (by8 (rV wr rest 2)), .blk p9 [.int .u64 (s : Int)] 23, .blk B26 [.slice A19 ((rV wr rest 2).length) c20] 26] _ hF_ hM_ H32 ?_)
    intro w40 H41
    have H41 : Hp w S [.blk p [.slice A17 ((rR wr rest 2).length) c18, .bool (!(rOK wr rest 2))] 74, .row R N C 5 1 (by8 whole), .row A19 ((rV wr rest 2).length) c20 5 1 (by8 (rV wr rest 2)), .blk p9 [.int .u64 (s : Int)] 23, .blk B26 [.slice A19 ((rV wr rest 2).length) c20] 26, .obj D33 DF, .obj l34 oB36] w40 := H41
    refine RG.block ?_
    refine RG.region (by kernel_rfl) ?_
    refine RL.sem (j := 1) (H41.ld (o := 0) (ty := 23) (v := .int .u64 (s : Int)) 3 rfl (by kernel_rfl) rfl) [5, 7, 30] [(5, pt p9 0), (7, .int .u8 (((rV wr rest 2).getD ((rV wr rest 2).length - 1 - k) 0).toNat : Int)), (30, .int .u64 (s : Int))] (by kernel_rfl) (by kernel_rfl) rfl ?_
    refine RL.run (j := 5) 4 [5, 34] [(5, pt p9 0), (34, .int .u64 (Go.bits .or .u64 (IntKind.u64.wrap ((s : Int) * 2 ^ 8)) (IntKind.u64.wrap (((rV wr rest 2).getD ((rV wr rest 2).length - 1 - k) 0).toNat : Int))))] (by kernel_rfl) rfl ?_
    have e42 : (IntKind.u64.wrap ((s : Int) * 2 ^ 8)) = ((s * 2 ^ 8 : Nat) : Int) := by rw [n_shl, Nat.mod_eq_of_lt (by simp only [K]; omega)]
    have e43 : (IntKind.u64.wrap (((rV wr rest 2).getD ((rV wr rest 2).length - 1 - k) 0).toNat : Int)) = (((rV wr rest 2).getD ((rV wr rest 2).length - 1 - k) 0).toNat : Int) := u8_up_u64 _
    have e44 : (Go.bits .or .u64 ((s * 2 ^ 8 : Nat) : Int) (((rV wr rest 2).getD ((rV wr rest 2).length - 1 - k) 0).toNat : Int)) = ((((rV wr rest 2).getD ((rV wr rest 2).length - 1 - k) 0).toNat + 256 * s : Nat) : Int) := or_low hs56 hxb
    refine RL.eq (M' := [(5, pt p9 0), (34, .int .u64 ((((rV wr rest 2).getD ((rV wr rest 2).length - 1 - k) 0).toNat + 256 * s : Nat) : Int))]) (by rw [e42, e43, e44]) ?_
    clear e42 e43 e44
    obtain ⟨w45, r46, H47⟩ := H41.st (P := Try.prog) (o := 0) (ty := 23) (v := .int .u64 ((((rV wr rest 2).getD ((rV wr rest 2).length - 1 - k) 0).toNat + 256 * s : Nat) : Int)) 3 rfl (by kernel_rfl) (by simp) rfl
    have H47 : Hp w S [.blk p [.slice A17 ((rR wr rest 2).length) c18, .bool (!(rOK wr rest 2))] 74, .row R N C 5 1 (by8 whole), .row A19 ((rV wr rest 2).length) c20 5 1 (by8 (rV wr rest 2)), .blk p9 [.int .u64 ((((rV wr rest 2).getD ((rV wr rest 2).length - 1 - k) 0).toNat + 256 * s : Nat) : Int)] 23, .blk B26 [.slice A19 ((rV wr rest 2).length) c20] 26, .obj D33 DF, .obj l34 oB36] w45 := H47
    refine RL.semU (j := 6) r46 [] [] (by kernel_rfl) rfl rfl rfl ?_
    exact RL.done rfl (fun F_ hF_ hM_ => ⟨((((rV wr rest 2).getD ((rV wr rest 2).length - 1 - k) 0)).toNat + 256 * s), (by rw [hs1]; exact acc_step hk9), H47⟩)
  · skip
    rintro D51 s w48 hx49 H50
    refine RG.kk hK14 (fun _ _ h => h) ?_
    have H50 : Hp w S [.blk p [.slice A17 ((rR wr rest 2).length) c18, .bool (!(rOK wr rest 2))] 74, .row R N C 5 1 (by8 whole), .row A19 ((rV wr rest 2).length) c20 5 1 (by8 (rV wr rest 2)), .blk p9 [.int .u64 (s : Int)] 23, .blk B26 [.slice A19 ((rV wr rest 2).length) c20] 26, .obj D51 DF] w48 := H50
    rw [Nat.sub_self, List.drop_zero] at hx49
    have hs1 := hx49
    refine RG.seqK fun K52 hK53 => ?_
    refine RG.region (by kernel_rfl) ?_
    refine RL.sem (j := 1) (H50.ld (o := 0) (ty := 23) (v := .int .u64 (s : Int)) 3 rfl (by kernel_rfl) rfl) [35] [(35, .int .u64 (s : Int))] (by kernel_rfl) (by kernel_rfl) rfl ?_
    refine RL.run (j := 2) 1 [4] [(4, .int .u64 (s : Int))] (by kernel_rfl) rfl ?_
    refine RL.k rfl hK53 (fun _ _ h => h) ?_
    refine RG.ret ?_
    have hD54 := H50.objAt 5 rfl
    have H55 : Hp w S [.blk p [.slice A17 ((rR wr rest 2).length) c18, .bool (!(rOK wr rest 2))] 74, .row R N C 5 1 (by8 whole), .row A19 ((rV wr rest 2).length) c20 5 1 (by8 (rV wr rest 2)), .blk p9 [.int .u64 (s : Int)] 23, .blk B26 [.slice A19 ((rV wr rest 2).length) c20] 26, .obj D51 (.deferred none)] (World.putObj w48 D51 (.deferred none)) := H50.putObj 5 (.deferred none) rfl
    intro F_ hF_ hM_
    refine hRet _ _ (postK_1 hD54 rfl (RV.tmp rfl) ?_ F_ hF_ hM_)
    have H56 : Hp w S [.blk p [.slice A17 ((rR wr rest 2).length) c18, .bool (!(rOK wr rest 2))] 74, .row R N C 5 1 (by8 whole)] (World.putObj w48 D51 (.deferred none)) := H55.sub (List.Sublist.cons_cons _ (List.Sublist.cons_cons _ (List.Sublist.cons _ (List.Sublist.cons _ (List.Sublist.cons _ (List.Sublist.cons _ (List.Sublist.slnil)))))))
    rw [← hs1]
    exact ⟨_, _, rfl, H56, hC21, hL22⟩
  · skip
    rintro D60 s w57 hx58 H59
    exact hx58.elim
theorem Get4_calls (S : List Nat) (p : Nat) (A : Option Addr) (k cap : Nat) (wr : Bool) (R : Option Addr) (N C : Nat) (whole rest : List UInt8) (w : World) (h0 : Hp w S [.blk p [.slice A k cap, .bool wr] 74, .row R N C 5 1 (by8 whole)] w) (hcut : Cut R whole A rest) (hk : k = rest.length) (hcap : k ≤ cap) (hN : k ≤ 1000000) : Calls Try.prog 24 #[pt p 0, .int .i64 4] w fun e w' => ∃ B b, e = .returned (.int .u64 ((getB (rV wr rest 4) : Nat) : Int)) ∧ Hp w S [.blk p [.slice B (rR wr rest 4).length b, .bool (!(rOK wr rest 4))] 74, .row R N C 5 1 (by8 whole)] w' ∧ Cut R whole B (rR wr rest 4) ∧ (rR wr rest 4).length ≤ b := by
  refine calls_R (args := [pt p 0, .int .i64 4]) Try.func24 rfl Try.ntmps24 rfl ?_
  intro Q0 hRet hNor
  have H := h0
  have H : Hp w S [.blk p [.slice A k cap, .bool wr] 74, .row R N C 5 1 (by8 whole)] w := H
  refine RG.seqK fun K1 hK2 => ?_
  refine RG.region (by kernel_rfl) ?_
  refine RL.run (j := 1) 1 [0, 1] [(0, pt p 0), (1, .int .i64 4)] (by kernel_rfl) rfl ?_
  refine RL.k rfl hK2 (fun _ _ h => h) ?_
  refine RG.seqK fun K3 hK4 => ?_
  refine RG.seqK fun K5 hK6 => ?_
  refine RG.region (by kernel_rfl) ?_
  refine RL.run (j := 14) 14 [0, 1, 21] [(0, pt p 0), (1, .int .i64 4), (21, .bool false)] (by kernel_rfl) rfl ?_
  refine RL.k rfl hK6 (fun _ _ h => h) ?_
  refine RG.no rfl ?_
  refine RG.skipK hK4 (fun _ _ h => h) ?_
  refine RG.seqK fun K7 hK8 => ?_
  refine RG.region (by kernel_rfl) ?_
  obtain ⟨p9, w10, r11, H12⟩ := H.alloc (P := Try.prog) 23 [.int .u64 0] (by kernel_rfl)
  have H12 : Hp w S [.blk p [.slice A k cap, .bool wr] 74, .row R N C 5 1 (by8 whole), .blk p9 [.int .u64 0] 23] w10 := H12
  refine RL.sem (j := 1) (r11) [0, 1, 5] [(0, pt p 0), (1, .int .i64 4), (5, pt p9 0)] (by kernel_rfl) (by kernel_rfl) rfl ?_
  refine RL.k rfl hK8 (fun _ _ h => h) ?_
  refine RG.seqK fun K13 hK14 => ?_
  refine RG.seqK fun K15 hK16 => ?_
  refine RG.region (by kernel_rfl) ?_
  refine RL.run (j := 2) 2 [5, 24, 25] [(5, pt p9 0), (24, pt p 0), (25, .int .i64 4)] (by kernel_rfl) rfl ?_
  refine RL.call (j := 3) (Raw_calls (ids [.blk p [.slice A k cap, .bool wr] 74, .row R N C 5 1 (by8 whole)]) p A k cap wr R N C whole rest 4 w10 (Hp.startL (A := [.blk p [.slice A k cap, .bool wr] 74, .row R N C 5 1 (by8 whole)]) (B := [.blk p9 [.int .u64 0] 23]) H12) hcut (hk) (hcap) (hN)) (by kernel_rfl) rfl (fun e_ w23 hR => ?_)
  obtain ⟨A17, c18, A19, c20, rfl, H25, hC21, hL22⟩ := hR
  have H24 : Hp w S [.blk p [.slice A17 ((rR wr rest 4).length) c18, .bool (!(rOK wr rest 4))] 74, .row R N C 5 1 (by8 whole), .row A19 ((rV wr rest 4).length) c20 5 1 (by8 (rV wr rest 4)), .blk p9 [.int .u64 0] 23] w23 := Hp.callL (A := [.blk p [.slice A k cap, .bool wr] 74, .row R N C 5 1 (by8 whole)]) (B := [.blk p9 [.int .u64 0] 23]) H12 H25
  refine ⟨_, rfl, [5, 26], [(5, pt p9 0), (26, .slice A19 ((rV wr rest 4).length) c20)], by kernel_rfl, ?_⟩
  refine RL.call (j := 4) (Backward_calls A19 ((rV wr rest 4).length) c20 w23) (by kernel_rfl) rfl (fun e_ w29 hR => ?_)
  obtain ⟨B26, rfl, H28⟩ := hR
  have H27 : Hp w S [.blk p [.slice A17 ((rR wr rest 4).length) c18, .bool (!(rOK wr rest 4))] 74, .row R N C 5 1 (by8 whole), .row A19 ((rV wr rest 4).length) c20 5 1 (by8 (rV wr rest 4)), .blk p9 [.int .u64 0] 23, .blk B26 [.slice A19 ((rV wr rest 4).length) c20] 26] w29 := H24.callNew H28
  refine ⟨_, rfl, [5, 27], [(5, pt p9 0), (27, .func (.func 40) #[] #[pt B26 0])], by kernel_rfl, ?_⟩
  refine RL.k rfl hK16 (fun _ _ h => h) ?_
  refine RG.block ?_
  refine RG.fit [5, 27] (M' := [(5, pt p9 0), (27, .func (.func 40) #[] #[pt B26 0])]) (by kernel_rfl) ?_
  refine RG.range H27 (gf := 40) (lb := #[pt B26 0]) rfl (enters_of Try.func40 (by kernel_rfl) rfl) (Xt := Nat) (fun k s => s = getB ((rV wr rest 4).drop ((rV wr rest 4).length - k))) (fun k s => [.blk p [.slice A17 ((rR wr rest 4).length) c18, .bool (!(rOK wr rest 4))] 74, .row R N C 5 1 (by8 whole), .row A19 ((rV wr rest 4).length) c20 5 1 (by8 (rV wr rest 4)), .blk p9 [.int .u64 (s : Int)] 23, .blk B26 [.slice A19 ((rV wr rest 4).length) c20] 26]) (fun s => False) (fun s => []) (N := (rV wr rest 4).length) (enc := fun k => #[.int .i64 (((rV wr rest 4).length - 1 - k : Nat) : Int), .int .u8 (((rV wr rest 4).getD ((rV wr rest 4).length - 1 - k) 0).toNat : Int)]) (Backward_iter (rV wr rest 4) (Nat.le_trans (show (rV wr rest 4).length ≤ 8 from (Nat.le_trans (rV_le wr rest 4) (by decide))) (by decide)) A19 c20 B26) (fun _ => rfl) 0 (by rw [Nat.sub_zero, List.drop_length]; rfl) rfl (fun k s E W hx HW => ⟨(HW.blkAt 4 rfl).cell 0, HW.rdRow 2 rfl⟩) (fun k => [(29, .int .u8 (((rV wr rest 4).getD ((rV wr rest 4).length - 1 - k) 0).toNat : Int)), (28, .int .i64 (((rV wr rest 4).length - 1 - k : Nat) : Int)), (5, pt p9 0), (27, .func (.func 40) #[] #[pt B26 0])]) (fun _ => rfl) ?_ ?_ ?_
  · skip
    rintro D33 l34 oR35 oB36 k s w30 K37 hk38 hx31 H32 hK39
    have H32 : Hp w S [.blk p [.slice A17 ((rR wr rest 4).length) c18, .bool (!(rOK wr rest 4))] 74, .row R N C 5 1 (by8 whole), .row A19 ((rV wr rest 4).length) c20 5 1 (by8 (rV wr rest 4)), .blk p9 [.int .u64 (s : Int)] 23, .blk B26 [.slice A19 ((rV wr rest 4).length) c20] 26, .obj D33 DF, .obj l34 oR35] w30 := H32
    have hs1 := hx31
    have hk9 := hk38
    have hVl : (rV wr rest 4).length ≤ 8 := (Nat.le_trans (rV_le wr rest 4) (by decide))
    have hs56 : s < 72057594037927936 := by rw [hs1]; exact acc_lt (by omega)
    have hxb := UInt8.toNat_lt ((rV wr rest 4).getD ((rV wr rest 4).length - 1 - k) 0)
    refine RG.region (by kernel_rfl) ?_
    refine RL.run (j := 1) 1 [5, 7] [(5, pt p9 0), (7, .int .u8 (((rV wr rest 4).getD ((rV wr rest 4).length - 1 - k) 0).toNat : Int))] (by kernel_rfl) rfl ?_
    refine RL.done rfl (fun F_ hF_ hM_ => hK39 F_ _ [.blk p [.slice A17 ((rR wr rest 4).length) c18, .bool (!(rOK wr rest 4))] 74, .row R N C 5 1 (by8 whole), .row A19 ((rV wr rest 4).length) c20 5 1 (by8 (rV wr rest 4)), .blk p9 [.int .u64 (s : Int)] 23, .blk B26 [.slice A19 ((rV wr rest 4).length) c20] 26] _ hF_ hM_ H32 ?_)
    intro w40 H41
    have H41 : Hp w S [.blk p [.slice A17 ((rR wr rest 4).length) c18, .bool (!(rOK wr rest 4))] 74, .row R N C 5 1 (by8 whole), .row A19 ((rV wr rest 4).length) c20 5 1 (by8 (rV wr rest 4)), .blk p9 [.int .u64 (s : Int)] 23, .blk B26 [.slice A19 ((rV wr rest 4).length) c20] 26, .obj D33 DF, .obj l34 oB36] w40 := H41
    refine RG.block ?_
    refine RG.region (by kernel_rfl) ?_
    refine RL.sem (j := 1) (H41.ld (o := 0) (ty := 23) (v := .int .u64 (s : Int)) 3 rfl (by kernel_rfl) rfl) [5, 7, 30] [(5, pt p9 0), (7, .int .u8 (((rV wr rest 4).getD ((rV wr rest 4).length - 1 - k) 0).toNat : Int)), (30, .int .u64 (s : Int))] (by kernel_rfl) (by kernel_rfl) rfl ?_
    refine RL.run (j := 5) 4 [5, 34] [(5, pt p9 0), (34, .int .u64 (Go.bits .or .u64 (IntKind.u64.wrap ((s : Int) * 2 ^ 8)) (IntKind.u64.wrap (((rV wr rest 4).getD ((rV wr rest 4).length - 1 - k) 0).toNat : Int))))] (by kernel_rfl) rfl ?_
    have e42 : (IntKind.u64.wrap ((s : Int) * 2 ^ 8)) = ((s * 2 ^ 8 : Nat) : Int) := by rw [n_shl, Nat.mod_eq_of_lt (by simp only [K]; omega)]
    have e43 : (IntKind.u64.wrap (((rV wr rest 4).getD ((rV wr rest 4).length - 1 - k) 0).toNat : Int)) = (((rV wr rest 4).getD ((rV wr rest 4).length - 1 - k) 0).toNat : Int) := u8_up_u64 _
    have e44 : (Go.bits .or .u64 ((s * 2 ^ 8 : Nat) : Int) (((rV wr rest 4).getD ((rV wr rest 4).length - 1 - k) 0).toNat : Int)) = ((((rV wr rest 4).getD ((rV wr rest 4).length - 1 - k) 0).toNat + 256 * s : Nat) : Int) := or_low hs56 hxb
    refine RL.eq (M' := [(5, pt p9 0), (34, .int .u64 ((((rV wr rest 4).getD ((rV wr rest 4).length - 1 - k) 0).toNat + 256 * s : Nat) : Int))]) (by rw [e42, e43, e44]) ?_
    clear e42 e43 e44
    obtain ⟨w45, r46, H47⟩ := H41.st (P := Try.prog) (o := 0) (ty := 23) (v := .int .u64 ((((rV wr rest 4).getD ((rV wr rest 4).length - 1 - k) 0).toNat + 256 * s : Nat) : Int)) 3 rfl (by kernel_rfl) (by simp) rfl
    have H47 : Hp w S [.blk p [.slice A17 ((rR wr rest 4).length) c18, .bool (!(rOK wr rest 4))] 74, .row R N C 5 1 (by8 whole), .row A19 ((rV wr rest 4).length) c20 5 1 (by8 (rV wr rest 4)), .blk p9 [.int .u64 ((((rV wr rest 4).getD ((rV wr rest 4).length - 1 - k) 0).toNat + 256 * s : Nat) : Int)] 23, .blk B26 [.slice A19 ((rV wr rest 4).length) c20] 26, .obj D33 DF, .obj l34 oB36] w45 := H47
    refine RL.semU (j := 6) r46 [] [] (by kernel_rfl) rfl rfl rfl ?_
    exact RL.done rfl (fun F_ hF_ hM_ => ⟨((((rV wr rest 4).getD ((rV wr rest 4).length - 1 - k) 0)).toNat + 256 * s), (by rw [hs1]; exact acc_step hk9), H47⟩)
  · skip
    rintro D51 s w48 hx49 H50
    refine RG.kk hK14 (fun _ _ h => h) ?_
    have H50 : Hp w S [.blk p [.slice A17 ((rR wr rest 4).length) c18, .bool (!(rOK wr rest 4))] 74, .row R N C 5 1 (by8 whole), .row A19 ((rV wr rest 4).length) c20 5 1 (by8 (rV wr rest 4)), .blk p9 [.int .u64 (s : Int)] 23, .blk B26 [.slice A19 ((rV wr rest 4).length) c20] 26, .obj D51 DF] w48 := H50
    rw [Nat.sub_self, List.drop_zero] at hx49
    have hs1 := hx49
    refine RG.seqK fun K52 hK53 => ?_
    refine RG.region (by kernel_rfl) ?_
    refine RL.sem (j := 1) (H50.ld (o := 0) (ty := 23) (v := .int .u64 (s : Int)) 3 rfl (by kernel_rfl) rfl) [35] [(35, .int .u64 (s : Int))] (by kernel_rfl) (by kernel_rfl) rfl ?_
    refine RL.run (j := 2) 1 [4] [(4, .int .u64 (s : Int))] (by kernel_rfl) rfl ?_
    refine RL.k rfl hK53 (fun _ _ h => h) ?_
    refine RG.ret ?_
    have hD54 := H50.objAt 5 rfl
    have H55 : Hp w S [.blk p [.slice A17 ((rR wr rest 4).length) c18, .bool (!(rOK wr rest 4))] 74, .row R N C 5 1 (by8 whole), .row A19 ((rV wr rest 4).length) c20 5 1 (by8 (rV wr rest 4)), .blk p9 [.int .u64 (s : Int)] 23, .blk B26 [.slice A19 ((rV wr rest 4).length) c20] 26, .obj D51 (.deferred none)] (World.putObj w48 D51 (.deferred none)) := H50.putObj 5 (.deferred none) rfl
    intro F_ hF_ hM_
    refine hRet _ _ (postK_1 hD54 rfl (RV.tmp rfl) ?_ F_ hF_ hM_)
    have H56 : Hp w S [.blk p [.slice A17 ((rR wr rest 4).length) c18, .bool (!(rOK wr rest 4))] 74, .row R N C 5 1 (by8 whole)] (World.putObj w48 D51 (.deferred none)) := H55.sub (List.Sublist.cons_cons _ (List.Sublist.cons_cons _ (List.Sublist.cons _ (List.Sublist.cons _ (List.Sublist.cons _ (List.Sublist.cons _ (List.Sublist.slnil)))))))
    rw [← hs1]
    exact ⟨_, _, rfl, H56, hC21, hL22⟩
  · skip
    rintro D60 s w57 hx58 H59
    exact hx58.elim
theorem Get8_calls (S : List Nat) (p : Nat) (A : Option Addr) (k cap : Nat) (wr : Bool) (R : Option Addr) (N C : Nat) (whole rest : List UInt8) (w : World) (h0 : Hp w S [.blk p [.slice A k cap, .bool wr] 74, .row R N C 5 1 (by8 whole)] w) (hcut : Cut R whole A rest) (hk : k = rest.length) (hcap : k ≤ cap) (hN : k ≤ 1000000) : Calls Try.prog 24 #[pt p 0, .int .i64 8] w fun e w' => ∃ B b, e = .returned (.int .u64 ((getB (rV wr rest 8) : Nat) : Int)) ∧ Hp w S [.blk p [.slice B (rR wr rest 8).length b, .bool (!(rOK wr rest 8))] 74, .row R N C 5 1 (by8 whole)] w' ∧ Cut R whole B (rR wr rest 8) ∧ (rR wr rest 8).length ≤ b := by
  refine calls_R (args := [pt p 0, .int .i64 8]) Try.func24 rfl Try.ntmps24 rfl ?_
  intro Q0 hRet hNor
  have H := h0
  have H : Hp w S [.blk p [.slice A k cap, .bool wr] 74, .row R N C 5 1 (by8 whole)] w := H
  refine RG.seqK fun K1 hK2 => ?_
  refine RG.region (by kernel_rfl) ?_
  refine RL.run (j := 1) 1 [0, 1] [(0, pt p 0), (1, .int .i64 8)] (by kernel_rfl) rfl ?_
  refine RL.k rfl hK2 (fun _ _ h => h) ?_
  refine RG.seqK fun K3 hK4 => ?_
  refine RG.seqK fun K5 hK6 => ?_
  refine RG.region (by kernel_rfl) ?_
  refine RL.run (j := 14) 14 [0, 1, 21] [(0, pt p 0), (1, .int .i64 8), (21, .bool false)] (by kernel_rfl) rfl ?_
  refine RL.k rfl hK6 (fun _ _ h => h) ?_
  refine RG.no rfl ?_
  refine RG.skipK hK4 (fun _ _ h => h) ?_
  refine RG.seqK fun K7 hK8 => ?_
  refine RG.region (by kernel_rfl) ?_
  obtain ⟨p9, w10, r11, H12⟩ := H.alloc (P := Try.prog) 23 [.int .u64 0] (by kernel_rfl)
  have H12 : Hp w S [.blk p [.slice A k cap, .bool wr] 74, .row R N C 5 1 (by8 whole), .blk p9 [.int .u64 0] 23] w10 := H12
  refine RL.sem (j := 1) (r11) [0, 1, 5] [(0, pt p 0), (1, .int .i64 8), (5, pt p9 0)] (by kernel_rfl) (by kernel_rfl) rfl ?_
  refine RL.k rfl hK8 (fun _ _ h => h) ?_
  refine RG.seqK fun K13 hK14 => ?_
  refine RG.seqK fun K15 hK16 => ?_
  refine RG.region (by kernel_rfl) ?_
  refine RL.run (j := 2) 2 [5, 24, 25] [(5, pt p9 0), (24, pt p 0), (25, .int .i64 8)] (by kernel_rfl) rfl ?_
  refine RL.call (j := 3) (Raw_calls (ids [.blk p [.slice A k cap, .bool wr] 74, .row R N C 5 1 (by8 whole)]) p A k cap wr R N C whole rest 8 w10 (Hp.startL (A := [.blk p [.slice A k cap, .bool wr] 74, .row R N C 5 1 (by8 whole)]) (B := [.blk p9 [.int .u64 0] 23]) H12) hcut (hk) (hcap) (hN)) (by kernel_rfl) rfl (fun e_ w23 hR => ?_)
  obtain ⟨A17, c18, A19, c20, rfl, H25, hC21, hL22⟩ := hR
  have H24 : Hp w S [.blk p [.slice A17 ((rR wr rest 8).length) c18, .bool (!(rOK wr rest 8))] 74, .row R N C 5 1 (by8 whole), .row A19 ((rV wr rest 8).length) c20 5 1 (by8 (rV wr rest 8)), .blk p9 [.int .u64 0] 23] w23 := Hp.callL (A := [.blk p [.slice A k cap, .bool wr] 74, .row R N C 5 1 (by8 whole)]) (B := [.blk p9 [.int .u64 0] 23]) H12 H25
  refine ⟨_, rfl, [5, 26], [(5, pt p9 0), (26, .slice A19 ((rV wr rest 8).length) c20)], by kernel_rfl, ?_⟩
  refine RL.call (j := 4) (Backward_calls A19 ((rV wr rest 8).length) c20 w23) (by kernel_rfl) rfl (fun e_ w29 hR => ?_)
  obtain ⟨B26, rfl, H28⟩ := hR
  have H27 : Hp w S [.blk p [.slice A17 ((rR wr rest 8).length) c18, .bool (!(rOK wr rest 8))] 74, .row R N C 5 1 (by8 whole), .row A19 ((rV wr rest 8).length) c20 5 1 (by8 (rV wr rest 8)), .blk p9 [.int .u64 0] 23, .blk B26 [.slice A19 ((rV wr rest 8).length) c20] 26] w29 := H24.callNew H28
  refine ⟨_, rfl, [5, 27], [(5, pt p9 0), (27, .func (.func 40) #[] #[pt B26 0])], by kernel_rfl, ?_⟩
  refine RL.k rfl hK16 (fun _ _ h => h) ?_
  refine RG.block ?_
  refine RG.fit [5, 27] (M' := [(5, pt p9 0), (27, .func (.func 40) #[] #[pt B26 0])]) (by kernel_rfl) ?_
  refine RG.range H27 (gf := 40) (lb := #[pt B26 0]) rfl (enters_of Try.func40 (by kernel_rfl) rfl) (Xt := Nat) (fun k s => s = getB ((rV wr rest 8).drop ((rV wr rest 8).length - k))) (fun k s => [.blk p [.slice A17 ((rR wr rest 8).length) c18, .bool (!(rOK wr rest 8))] 74, .row R N C 5 1 (by8 whole), .row A19 ((rV wr rest 8).length) c20 5 1 (by8 (rV wr rest 8)), .blk p9 [.int .u64 (s : Int)] 23, .blk B26 [.slice A19 ((rV wr rest 8).length) c20] 26]) (fun s => False) (fun s => []) (N := (rV wr rest 8).length) (enc := fun k => #[.int .i64 (((rV wr rest 8).length - 1 - k : Nat) : Int), .int .u8 (((rV wr rest 8).getD ((rV wr rest 8).length - 1 - k) 0).toNat : Int)]) (Backward_iter (rV wr rest 8) (Nat.le_trans (show (rV wr rest 8).length ≤ 8 from (Nat.le_trans (rV_le wr rest 8) (by decide))) (by decide)) A19 c20 B26) (fun _ => rfl) 0 (by rw [Nat.sub_zero, List.drop_length]; rfl) rfl (fun k s E W hx HW => ⟨(HW.blkAt 4 rfl).cell 0, HW.rdRow 2 rfl⟩) (fun k => [(29, .int .u8 (((rV wr rest 8).getD ((rV wr rest 8).length - 1 - k) 0).toNat : Int)), (28, .int .i64 (((rV wr rest 8).length - 1 - k : Nat) : Int)), (5, pt p9 0), (27, .func (.func 40) #[] #[pt B26 0])]) (fun _ => rfl) ?_ ?_ ?_
  · skip
    rintro D33 l34 oR35 oB36 k s w30 K37 hk38 hx31 H32 hK39
    have H32 : Hp w S [.blk p [.slice A17 ((rR wr rest 8).length) c18, .bool (!(rOK wr rest 8))] 74, .row R N C 5 1 (by8 whole), .row A19 ((rV wr rest 8).length) c20 5 1 (by8 (rV wr rest 8)), .blk p9 [.int .u64 (s : Int)] 23, .blk B26 [.slice A19 ((rV wr rest 8).length) c20] 26, .obj D33 DF, .obj l34 oR35] w30 := H32
    have hs1 := hx31
    have hk9 := hk38
    have hVl : (rV wr rest 8).length ≤ 8 := (Nat.le_trans (rV_le wr rest 8) (by decide))
    have hs56 : s < 72057594037927936 := by rw [hs1]; exact acc_lt (by omega)
    have hxb := UInt8.toNat_lt ((rV wr rest 8).getD ((rV wr rest 8).length - 1 - k) 0)
    refine RG.region (by kernel_rfl) ?_
    refine RL.run (j := 1) 1 [5, 7] [(5, pt p9 0), (7, .int .u8 (((rV wr rest 8).getD ((rV wr rest 8).length - 1 - k) 0).toNat : Int))] (by kernel_rfl) rfl ?_
    refine RL.done rfl (fun F_ hF_ hM_ => hK39 F_ _ [.blk p [.slice A17 ((rR wr rest 8).length) c18, .bool (!(rOK wr rest 8))] 74, .row R N C 5 1 (by8 whole), .row A19 ((rV wr rest 8).length) c20 5 1 (by8 (rV wr rest 8)), .blk p9 [.int .u64 (s : Int)] 23, .blk B26 [.slice A19 ((rV wr rest 8).length) c20] 26] _ hF_ hM_ H32 ?_)
    intro w40 H41
    have H41 : Hp w S [.blk p [.slice A17 ((rR wr rest 8).length) c18, .bool (!(rOK wr rest 8))] 74, .row R N C 5 1 (by8 whole), .row A19 ((rV wr rest 8).length) c20 5 1 (by8 (rV wr rest 8)), .blk p9 [.int .u64 (s : Int)] 23, .blk B26 [.slice A19 ((rV wr rest 8).length) c20] 26, .obj D33 DF, .obj l34 oB36] w40 := H41
    refine RG.block ?_
    refine RG.region (by kernel_rfl) ?_
    refine RL.sem (j := 1) (H41.ld (o := 0) (ty := 23) (v := .int .u64 (s : Int)) 3 rfl (by kernel_rfl) rfl) [5, 7, 30] [(5, pt p9 0), (7, .int .u8 (((rV wr rest 8).getD ((rV wr rest 8).length - 1 - k) 0).toNat : Int)), (30, .int .u64 (s : Int))] (by kernel_rfl) (by kernel_rfl) rfl ?_
    refine RL.run (j := 5) 4 [5, 34] [(5, pt p9 0), (34, .int .u64 (Go.bits .or .u64 (IntKind.u64.wrap ((s : Int) * 2 ^ 8)) (IntKind.u64.wrap (((rV wr rest 8).getD ((rV wr rest 8).length - 1 - k) 0).toNat : Int))))] (by kernel_rfl) rfl ?_
    have e42 : (IntKind.u64.wrap ((s : Int) * 2 ^ 8)) = ((s * 2 ^ 8 : Nat) : Int) := by rw [n_shl, Nat.mod_eq_of_lt (by simp only [K]; omega)]
    have e43 : (IntKind.u64.wrap (((rV wr rest 8).getD ((rV wr rest 8).length - 1 - k) 0).toNat : Int)) = (((rV wr rest 8).getD ((rV wr rest 8).length - 1 - k) 0).toNat : Int) := u8_up_u64 _
    have e44 : (Go.bits .or .u64 ((s * 2 ^ 8 : Nat) : Int) (((rV wr rest 8).getD ((rV wr rest 8).length - 1 - k) 0).toNat : Int)) = ((((rV wr rest 8).getD ((rV wr rest 8).length - 1 - k) 0).toNat + 256 * s : Nat) : Int) := or_low hs56 hxb
    refine RL.eq (M' := [(5, pt p9 0), (34, .int .u64 ((((rV wr rest 8).getD ((rV wr rest 8).length - 1 - k) 0).toNat + 256 * s : Nat) : Int))]) (by rw [e42, e43, e44]) ?_
    clear e42 e43 e44
    obtain ⟨w45, r46, H47⟩ := H41.st (P := Try.prog) (o := 0) (ty := 23) (v := .int .u64 ((((rV wr rest 8).getD ((rV wr rest 8).length - 1 - k) 0).toNat + 256 * s : Nat) : Int)) 3 rfl (by kernel_rfl) (by simp) rfl
    have H47 : Hp w S [.blk p [.slice A17 ((rR wr rest 8).length) c18, .bool (!(rOK wr rest 8))] 74, .row R N C 5 1 (by8 whole), .row A19 ((rV wr rest 8).length) c20 5 1 (by8 (rV wr rest 8)), .blk p9 [.int .u64 ((((rV wr rest 8).getD ((rV wr rest 8).length - 1 - k) 0).toNat + 256 * s : Nat) : Int)] 23, .blk B26 [.slice A19 ((rV wr rest 8).length) c20] 26, .obj D33 DF, .obj l34 oB36] w45 := H47
    refine RL.semU (j := 6) r46 [] [] (by kernel_rfl) rfl rfl rfl ?_
    exact RL.done rfl (fun F_ hF_ hM_ => ⟨((((rV wr rest 8).getD ((rV wr rest 8).length - 1 - k) 0)).toNat + 256 * s), (by rw [hs1]; exact acc_step hk9), H47⟩)
  · skip
    rintro D51 s w48 hx49 H50
    refine RG.kk hK14 (fun _ _ h => h) ?_
    have H50 : Hp w S [.blk p [.slice A17 ((rR wr rest 8).length) c18, .bool (!(rOK wr rest 8))] 74, .row R N C 5 1 (by8 whole), .row A19 ((rV wr rest 8).length) c20 5 1 (by8 (rV wr rest 8)), .blk p9 [.int .u64 (s : Int)] 23, .blk B26 [.slice A19 ((rV wr rest 8).length) c20] 26, .obj D51 DF] w48 := H50
    rw [Nat.sub_self, List.drop_zero] at hx49
    have hs1 := hx49
    refine RG.seqK fun K52 hK53 => ?_
    refine RG.region (by kernel_rfl) ?_
    refine RL.sem (j := 1) (H50.ld (o := 0) (ty := 23) (v := .int .u64 (s : Int)) 3 rfl (by kernel_rfl) rfl) [35] [(35, .int .u64 (s : Int))] (by kernel_rfl) (by kernel_rfl) rfl ?_
    refine RL.run (j := 2) 1 [4] [(4, .int .u64 (s : Int))] (by kernel_rfl) rfl ?_
    refine RL.k rfl hK53 (fun _ _ h => h) ?_
    refine RG.ret ?_
    have hD54 := H50.objAt 5 rfl
    have H55 : Hp w S [.blk p [.slice A17 ((rR wr rest 8).length) c18, .bool (!(rOK wr rest 8))] 74, .row R N C 5 1 (by8 whole), .row A19 ((rV wr rest 8).length) c20 5 1 (by8 (rV wr rest 8)), .blk p9 [.int .u64 (s : Int)] 23, .blk B26 [.slice A19 ((rV wr rest 8).length) c20] 26, .obj D51 (.deferred none)] (World.putObj w48 D51 (.deferred none)) := H50.putObj 5 (.deferred none) rfl
    intro F_ hF_ hM_
    refine hRet _ _ (postK_1 hD54 rfl (RV.tmp rfl) ?_ F_ hF_ hM_)
    have H56 : Hp w S [.blk p [.slice A17 ((rR wr rest 8).length) c18, .bool (!(rOK wr rest 8))] 74, .row R N C 5 1 (by8 whole)] (World.putObj w48 D51 (.deferred none)) := H55.sub (List.Sublist.cons_cons _ (List.Sublist.cons_cons _ (List.Sublist.cons _ (List.Sublist.cons _ (List.Sublist.cons _ (List.Sublist.cons _ (List.Sublist.slnil)))))))
    rw [← hs1]
    exact ⟨_, _, rfl, H56, hC21, hL22⟩
  · skip
    rintro D60 s w57 hx58 H59
    exact hx58.elim
theorem End_calls (S : List Nat) (p : Nat) (A : Option Addr) (k cap : Nat) (wr : Bool) (R : Option Addr) (N C : Nat) (whole rest : List UInt8) (w : World) (h0 : Hp w S [.blk p [.slice A k cap, .bool wr] 74, .row R N C 5 1 (by8 whole)] w) (hk : k = rest.length) : Calls Try.prog 25 #[pt p 0] w fun e w' => e = .returned (.bool (!wr && (rest.length == 0))) ∧ Hp w S [.blk p [.slice A k cap, .bool wr] 74, .row R N C 5 1 (by8 whole)] w' := by
  refine calls_G (args := [pt p 0]) Try.func25 rfl Try.ntmps25 rfl ?_
  intro Q0 hRet hNor hPan
  have H := h0
  have H : Hp w S [.blk p [.slice A k cap, .bool wr] 74, .row R N C 5 1 (by8 whole)] w := H
  refine G.seqK fun K1 hK2 => ?_
  refine G.region ?_
  refine GL.run (j := 1) 1 [0] [(0, pt p 0)] (by kernel_rfl) rfl ?_
  refine GL.k rfl hK2 (fun _ _ h => h) ?_
  refine G.seqK fun K3 hK4 => ?_
  refine G.region ?_
  refine GL.run (j := 1) 1 [0, 3] [(0, pt p 0), (3, pt p 0)] (by kernel_rfl) rfl ?_
  refine GL.call (j := 2) (Wrong_calls (ids [.blk p [.slice A k cap, .bool wr] 74, .row R N C 5 1 (by8 whole)]) p A k cap wr R N C whole w (Hp.startL (A := [.blk p [.slice A k cap, .bool wr] 74, .row R N C 5 1 (by8 whole)]) (B := []) H)) (by kernel_rfl) rfl (fun e_ w5 hR => ?_)
  obtain ⟨rfl, H7⟩ := hR
  have H6 : Hp w S [.blk p [.slice A k cap, .bool wr] 74, .row R N C 5 1 (by8 whole)] w5 := Hp.callL (A := [.blk p [.slice A k cap, .bool wr] 74, .row R N C 5 1 (by8 whole)]) (B := []) H H7
  refine ⟨_, rfl, [0, 4], [(0, pt p 0), (4, .bool wr)], by kernel_rfl, ?_⟩
  refine GL.run (j := 4) 2 [0, 6] [(0, pt p 0), (6, .bool (!wr))] (by kernel_rfl) rfl ?_
  rcases (Bool.eq_false_or_eq_true wr).symm with hb8 | hb8
  · skip
    refine GL.eq (M' := [(0, pt p 0), (6, .bool true)]) (by first | (rw [hb8]; done) | (rw [hb8]; rfl)) ?_
    refine GL.run (j := 7) 3 [6, 9] [(6, .bool true), (9, pt p 0)] (by kernel_rfl) rfl ?_
    refine GL.sem (j := 8) (H6.ld (o := 0) (ty := 26) (v := .slice A k cap) 0 rfl (by kernel_rfl) rfl) [6, 10] [(6, .bool true), (10, .slice A k cap)] (by kernel_rfl) (by kernel_rfl) rfl ?_
    refine GL.run (j := 12) 4 [2] [(2, .bool ((k : Int) == 0))] (by kernel_rfl) rfl ?_
    refine GL.k rfl hK4 (fun _ _ h => h) ?_
    refine G.ret ?_
    intro F_ hF_ hM_
    refine hRet _ _ (bodyPost_1 rfl (RV.tmp rfl) ?_ F_ hF_ hM_)
    have hwr : wr = false := by assumption
    have e0 : (((k : Int) == 0) : Bool) = (!wr && (rest.length == 0)) := by
      rw [hwr]
      show _ = (rest.length == 0)
      rw [Bool.eq_iff_iff]
      simp only [beq_iff_eq]
      omega
    rw [e0]
    exact ⟨rfl, H6⟩
  · skip
    refine GL.eq (M' := [(0, pt p 0), (6, .bool false)]) (by first | (rw [hb8]; done) | (rw [hb8]; rfl)) ?_
    refine GL.run (j := 12) 8 [2] [(2, .bool false)] (by kernel_rfl) rfl ?_
    refine GL.k rfl hK4 (fun _ _ h => h) ?_
    refine G.ret ?_
    intro F_ hF_ hM_
    refine hRet _ _ (bodyPost_1 rfl (RV.tmp rfl) ?_ F_ hF_ hM_)
    have hwr : wr = true := by assumption
    have e0 : (false : Bool) = (!wr && (rest.length == 0)) := by
      rw [hwr]
      rfl
    rw [e0]
    exact ⟨rfl, H6⟩
end Go.Proofs.Ytkfhcogdpmndkaa
