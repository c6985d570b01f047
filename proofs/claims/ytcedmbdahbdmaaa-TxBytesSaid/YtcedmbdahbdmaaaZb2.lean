/- Part 2 of what txBytes_proved stands on. -/
import Derived.Test.YtcedmbdahbdmaaaZb1
set_option linter.unusedVariables false
set_option maxRecDepth 100000
namespace Go.Proofs.Ytcedmbdahbdmaaa
open Go.RowKit
theorem acc_lt {V : List UInt8} {k : Nat} (h : k ≤ 7) : getB (V.drop (V.length - k)) < 72057594037927936 := by
 have h1 := getB_lt (V.drop (V.length - k))
 have h2 : (V.drop (V.length - k)).length ≤ k := by rw [List.length_drop]; omega
 have h3 : 256 ^ (V.drop (V.length - k)).length ≤ 256 ^ 7 := Nat.pow_le_pow_right (by decide) (by omega)
 exact Nat.lt_of_lt_of_le h1 h3
theorem acc_step {V : List UInt8} {k : Nat} (h : k < V.length) : (V.getD (V.length - 1 - k) 0).toNat + 256 * getB (V.drop (V.length - k)) = getB (V.drop (V.length - (k + 1))) := by
 have h1 := getB_drop (getD8 (bs := V) (k := V.length - 1 - k) (by omega))
 rw [show V.length - (k + 1) = V.length - 1 - k by omega, h1, show V.length - 1 - k + 1 = V.length - k by omega]
theorem Backward_calls (A : Option Addr) (n c : Nat) (w : World) : Calls Try.prog 58 #[.slice A n c] w fun e w' => ∃ B, e = .returned (.func (.func 73) #[] #[.pointer (some ⟨B, 0, none⟩)]) ∧ Hp w [] [.blk B [.slice A n c] 38] w' := by
 refine calls_G (args := [.slice A n c]) Try.func58 rfl Try.ntmps58 rfl ?_
 intro Q0 hRet hNor hPan
 have H := Hp.start w
 refine G.sr fun K1 hK2 => ?_
 obtain ⟨p3, w4, r5, H6⟩ := H.box (P := Try.prog) 38 [.slice A n c] (.slice A n c) rfl
 refine GL.s 1 (r5) [(1, pt p3 0)] ?_
 refine GL.r 2 1 [(1, pt p3 0)] ?_
 refine GL.q hK2 ?_
 refine G.sr fun K7 hK8 => ?_
 refine GL.r 2 2 [(2, .func (.func 73) #[] #[pt p3 0])] ?_
 refine GL.q hK8 ?_
 refine G.ret fun F_ hF_ hM_ => hRet _ _ (bodyPost_1 rfl (RV.tmp rfl) ?_ F_ hF_ hM_)
 exact ⟨_, rfl, H6⟩
theorem Backward_iter (bs : List UInt8) (hlen : bs.length ≤ 1099511627776) (A : Option Addr) (c B : Nat) : Iter Try.prog 73 #[pt B 0] bs.length (fun k => #[.int .i64 ((bs.length - 1 - k : Nat) : Int), .int .u8 ((bs.getD (bs.length - 1 - k) 0).toNat : Int)]) (fun W => W.cell? ⟨B, 0, none⟩ = some (.slice A bs.length c) ∧ RdS W A (by8 bs)) := by
 intro l J Jx hRd hst hy w h0
 rw [show (#[Value.func (.yield l) #[] #[]] ++ #[pt B 0] : Array Value) = #[.func (.yield l) #[] #[], pt B 0] by simp]
 refine calls_R (args := [.func (.yield l) #[] #[], pt B 0]) Try.func73 rfl Try.ntmps73 rfl ?_
 intro Q0 hRet hNor
 have H := Hp.start w
 refine RG.seqK fun K1 hK2 => ?_
 refine RG.region (by kernel_rfl) ?_
 refine RL.sem (j := 1) (run_ld1 (P := Try.prog) (ty := 38) (a := ⟨B, 0, none⟩) (v := .slice A bs.length c) (by kernel_rfl) ((hRd _ _ h0).1)) [0, 1, 4] [(0, .func (.yield l) #[] #[]), (1, pt B 0), (4, .slice A bs.length c)] (by kernel_rfl) (by kernel_rfl) rfl ?_
 refine RL.run (j := 4) 3 [0, 1, 3] [(0, .func (.yield l) #[] #[]), (1, pt B 0), (3, li (IntKind.i64.wrap ((bs.length : Int) - 1)))] (by kernel_rfl) rfl ?_
 have e3 : (IntKind.i64.wrap ((bs.length : Int) - 1)) = (((bs.length - 0 : Nat) : Int) - 1) := by rw [Nat.sub_zero, in_i64 (by omega)]
 rw [e3]
 clear e3
 refine RL.k rfl hK2 (fun _ _ h => h) ?_
 refine RG.block ?_
 refine RG.fit [0, 1, 3] (M' := [(0, .func (.yield l) #[] #[]), (1, pt B 0), (3, li (((bs.length - 0 : Nat) : Int) - 1))]) (by kernel_rfl) ?_
 refine RG.loop (X := Nat) (fun k => [(0, .func (.yield l) #[] #[]), (1, pt B 0), (3, li (((bs.length - k : Nat) : Int) - 1))]) (fun k w_ => k ≤ bs.length ∧ J k w_) (fun k => bs.length - k) 0 [0, 1, 3] (by kernel_rfl) ⟨Nat.zero_le _, h0⟩ ?_
 rintro k wk ⟨hkN, hJk⟩
 have H4 := Hp.start wk
 refine RG.eq (M' := [(0, .func (.yield l) #[] #[]), (1, pt B 0), (3, li (((bs.length - k : Nat) : Int) - 1))]) rfl ?_
 refine RG.seqK fun K5 hK6 => ?_
 refine RG.seqK fun K7 hK8 => ?_
 refine RG.region (by kernel_rfl) ?_
 refine RL.run (j := 2) 2 [0, 1, 3, 8] [(0, .func (.yield l) #[] #[]), (1, pt B 0), (3, li (((bs.length - k : Nat) : Int) - 1)), (8, .bool (decide (0 ≤ (((bs.length - k : Nat) : Int) - 1))))] (by kernel_rfl) rfl ?_
 refine RL.k rfl hK8 (fun _ _ h => h) ?_
 cases hb9 : (decide (0 ≤ (((bs.length - k : Nat) : Int) - 1)))
 · skip
   have hb9f := of_decide_eq_false hb9
   refine RG.no rfl ?_
   refine fun F_ hF_ hM_ => wpIn_exit ?_
   refine hNor _ _ (postM_0 rfl  ?_ F_ hF_ hM_)
   exact ⟨⟨_, rfl⟩, .inl (by first | exact hJk | (have hkk : k = bs.length := by omega); rw [← hkk]; exact hJk)⟩
 · skip
   have hb9f := of_decide_eq_true hb9
   have ei : (((bs.length - k : Nat) : Int) - 1) = ((bs.length - 1 - k : Nat) : Int) := by omega
   refine RG.eq (M' := [(0, .func (.yield l) #[] #[]), (1, pt B 0), (3, vi (bs.length - 1 - k)), (8, .bool true)]) (by rw [ei]) ?_
   refine RG.yes rfl ?_
   refine RG.skipK hK6 (fun _ _ h => h) ?_
   refine RG.seqK fun K10 hK11 => ?_
   refine RG.block ?_
   refine RG.seqK fun K12 hK13 => ?_
   refine RG.region (by kernel_rfl) ?_
   refine RL.run (j := 2) 2 [0, 1, 3, 11, 12] [(0, .func (.yield l) #[] #[]), (1, pt B 0), (3, vi (bs.length - 1 - k)), (11, .func (.yield l) #[] #[]), (12, vi (bs.length - 1 - k))] (by kernel_rfl) rfl ?_
   refine RL.sem (j := 3) (run_ld1 (P := Try.prog) (ty := 38) (a := ⟨B, 0, none⟩) (v := .slice A bs.length c) (by kernel_rfl) ((hRd _ _ hJk).1)) [0, 1, 3, 11, 12, 13] [(0, .func (.yield l) #[] #[]), (1, pt B 0), (3, vi (bs.length - 1 - k)), (11, .func (.yield l) #[] #[]), (12, vi (bs.length - 1 - k)), (13, .slice A bs.length c)] (by kernel_rfl) (by kernel_rfl) rfl ?_
   refine RL.run (j := 4) 1 [0, 1, 3, 11, 12, 13, 14] [(0, .func (.yield l) #[] #[]), (1, pt B 0), (3, vi (bs.length - 1 - k)), (11, .func (.yield l) #[] #[]), (12, vi (bs.length - 1 - k)), (13, .slice A bs.length c), (14, vi (bs.length - 1 - k))] (by kernel_rfl) rfl ?_
   refine RL.sem (j := 5) (run_idxRd (P := Try.prog) (k := .i64) (t := 38) (A := A) (len := bs.length) (cap := c) (j := bs.length - 1 - k) (by kernel_rfl) rfl ((hRd _ _ hJk).2) (by rw [by8_length]) (by first | rfl | omega | (simp only [List.length_cons, List.length_nil, List.length_drop, List.length_take, List.length_append] <;> omega))) [0, 1, 3, 11, 12, 15] [(0, .func (.yield l) #[] #[]), (1, pt B 0), (3, vi (bs.length - 1 - k)), (11, .func (.yield l) #[] #[]), (12, vi (bs.length - 1 - k)), (15, .pointer (Option.map (fun x => Addr.add x (bs.length - 1 - k)) A))] (by kernel_rfl) (by kernel_rfl) rfl ?_
   refine RL.sem (j := 6) (run_ldRd (P := Try.prog) (ty := 5) (A := A) (j := bs.length - 1 - k) (v := .int .u8 ((bs.getD (bs.length - 1 - k) 0).toNat : Int)) (by kernel_rfl) ((hRd _ _ hJk).2) (by8_at (getD8 (by omega)))) [0, 1, 3, 11, 12, 16] [(0, .func (.yield l) #[] #[]), (1, pt B 0), (3, vi (bs.length - 1 - k)), (11, .func (.yield l) #[] #[]), (12, vi (bs.length - 1 - k)), (16, lb ((bs.getD (bs.length - 1 - k) 0).toNat : Int))] (by kernel_rfl) (by kernel_rfl) rfl ?_
   refine RL.yield (j := 7) (hy k _ (by omega) hJk) (by kernel_rfl) rfl (fun e_ w14 hR18 => ?_)
   obtain ⟨b15, rfl, hyt16, hyf17⟩ := yield_cases hR18
   have H19 := Hp.start w14
   refine ⟨_, rfl, [0, 1, 3, 17], [(0, .func (.yield l) #[] #[]), (1, pt B 0), (3, vi (bs.length - 1 - k)), (17, .bool b15)], by kernel_rfl, ?_⟩
   refine RL.run (j := 8) 1 [0, 1, 3, 18] [(0, .func (.yield l) #[] #[]), (1, pt B 0), (3, vi (bs.length - 1 - k)), (18, .bool (!b15))] (by kernel_rfl) rfl ?_
   refine RL.k rfl hK13 (fun _ _ h => h) ?_
   rcases (Bool.eq_false_or_eq_true b15).symm with hb20 | hb20
   · skip
     refine RG.eq (M' := [(0, .func (.yield l) #[] #[]), (1, pt B 0), (3, vi (bs.length - 1 - k)), (18, .bool true)]) (by first | (rw [hb20]; done) | (rw [hb20]; rfl)) ?_
     have hJ21 := hyf17 hb20
     refine RG.yes rfl ?_
     refine RG.ret ?_
     intro F_ hF_ hM_
     refine hRet _ _ (postM_0 rfl  ?_ F_ hF_ hM_)
     exact ⟨⟨_, rfl⟩, .inr hJ21⟩
   · skip
     refine RG.eq (M' := [(0, .func (.yield l) #[] #[]), (1, pt B 0), (3, vi (bs.length - 1 - k)), (18, .bool false)]) (by first | (rw [hb20]; done) | (rw [hb20]; rfl)) ?_
     have hJ22 := hyt16 hb20
     refine RG.no rfl ?_
     refine RG.skipK hK11 (fun _ _ h => h) ?_
     refine RG.region (by kernel_rfl) ?_
     refine RL.run (j := 3) 3 [0, 1, 3] [(0, .func (.yield l) #[] #[]), (1, pt B 0), (3, li (IntKind.i64.wrap (((bs.length - 1 - k : Nat) : Int) - 1)))] (by kernel_rfl) rfl ?_
     have e23 : (IntKind.i64.wrap (((bs.length - 1 - k : Nat) : Int) - 1)) = (((bs.length - (k + 1) : Nat) : Int) - 1) := by rw [in_i64 (by omega)]; omega
     rw [e23]
     clear e23
     exact RL.again (k + 1) [0, 1, 3] rfl (by kernel_rfl) (by show bs.length - (k + 1) < bs.length - k; omega) ⟨by omega, hJ22⟩
theorem Read_calls (xs : List UInt8) (A : Option Addr) (n c : Nat) (w : World) (hx : RdS w A (by8 xs)) (hn : n = xs.length) (hb : n ≤ 1000000) : Calls Try.prog 35 #[.slice A n c] w fun e w' => ∃ p R C, e = .returned (.pointer (some ⟨p, 0, none⟩)) ∧ Hp w [] [.row R n C 5 1 (by8 xs), .blk p [.slice R n C, .bool false] 107] w' := by
 refine calls_G (args := [.slice A n c]) Try.func35 rfl Try.ntmps35 rfl ?_
 intro Q0 hRet hNor hPan
 have H := Hp.start w
 refine G.sr fun K1 hK2 => ?_
 refine GL.r 1 1 [(0, .slice A n c)] ?_
 refine GL.q hK2 ?_
 refine G.sr fun K3 hK4 => ?_
 refine GL.r 1 1 [(3, .slice A n c)] ?_
 refine GL.call (j := 2) (Clone_calls xs A n c w (hx.hp H) (by omega) (by omega)) (by kernel_rfl) rfl (fun e_ w9 hR => ?_)
 obtain ⟨A5, c6, rfl, H8⟩ := hR
 have H7 : Hp w [] [.row A5 n c6 5 1 (by8 xs)] w9 := H.callNew H8
 refine ⟨_, rfl, [4], [(4, .slice A5 n c6)], by kernel_rfl, ?_⟩
 refine GL.r 3 1 [(5, .agg #[.slice A5 n c6, .bool false])] ?_
 obtain ⟨p10, w11, r12, H13⟩ := H7.box (P := Try.prog) 107 [.slice A5 n c6, .bool false] (.agg #[.slice A5 n c6, .bool false]) rfl
 refine GL.s 4 (r12) [(6, pt p10 0)] ?_
 refine GL.r 5 1 [(2, pt p10 0)] ?_
 refine GL.q hK4 ?_
 refine G.ret fun F_ hF_ hM_ => hRet _ _ (bodyPost_1 rfl (RV.tmp rfl) ?_ F_ hF_ hM_)
 exact ⟨_, _, _, rfl, H13⟩
theorem Wrong_calls (S : List Nat) (p : Nat) (A : Option Addr) (k cap : Nat) (wr : Bool) (R : Option Addr) (N C : Nat) (whole : List UInt8) (w : World) (h0 : Hp w S [.blk p [.slice A k cap, .bool wr] 107, .row R N C 5 1 (by8 whole)] w) : Calls Try.prog 59 #[pt p 0] w fun e w' => e = .returned (.bool wr) ∧ Hp w S [.blk p [.slice A k cap, .bool wr] 107, .row R N C 5 1 (by8 whole)] w' := by
 refine calls_G (args := [pt p 0]) Try.func59 rfl Try.ntmps59 rfl ?_
 intro Q0 hRet hNor hPan
 have H := h0
 refine G.sr fun K1 hK2 => ?_
 refine GL.r 1 1 [(0, pt p 0)] ?_
 refine GL.q hK2 ?_
 refine G.sr fun K3 hK4 => ?_
 refine GL.r 6 6 [(5, .bool false), (8, pt p 1)] ?_
 refine GL.s 7 (H.ld (o := 1) (ty := 4) (v := .bool wr) 0 rfl (by kernel_rfl) rfl) [(5, .bool false), (9, .bool wr)] ?_
 refine GL.r 9 2 [(2, .bool wr)] ?_
 refine GL.q hK4 ?_
 refine G.ret fun F_ hF_ hM_ => hRet _ _ (bodyPost_1 rfl (RV.tmp rfl) ?_ F_ hF_ hM_)
 exact ⟨rfl, H⟩
theorem Fail_calls (S : List Nat) (p : Nat) (A : Option Addr) (k cap : Nat) (wr : Bool) (R : Option Addr) (N C : Nat) (whole : List UInt8) (w : World) (h0 : Hp w S [.blk p [.slice A k cap, .bool wr] 107, .row R N C 5 1 (by8 whole)] w) : Calls Try.prog 57 #[pt p 0] w fun e w' => e = .returned (.tuple #[]) ∧ Hp w S [.blk p [.slice none 0 0, .bool true] 107, .row R N C 5 1 (by8 whole)] w' := by
 refine calls_G (args := [pt p 0]) Try.func57 rfl Try.ntmps57 rfl ?_
 intro Q0 hRet hNor hPan
 have H := h0
 refine G.sr fun K1 hK2 => ?_
 refine GL.r 2 2 [(0, pt p 0), (3, .bool true)] ?_
 refine GL.q hK2 ?_
 refine G.yes rfl ?_
 refine G.region ?_
 refine GL.r 4 4 [(5, pt p 0), (7, pt p 1)] ?_
 obtain ⟨w3, r4, H5⟩ := H.st (P := Try.prog) (o := 1) (ty := 4) (v := .bool true) 0 rfl (by kernel_rfl) (by simp) rfl
 refine GL.u 5 r4 [(5, pt p 0)] ?_
 refine GL.r 7 2 [(9, pt p 0)] ?_
 obtain ⟨w6, r7, H8⟩ := H5.st (P := Try.prog) (o := 0) (ty := 38) (v := .slice none 0 0) 0 rfl (by kernel_rfl) (by simp) rfl
 refine GL.u 8 r7 [] ?_
 refine GL.done rfl ?_
 intro F_ hF_ hM_
 refine hNor _ _ (bodyPost_0 rfl  ?_ F_ hF_ hM_)
 exact ⟨rfl, H8⟩
theorem Raw_calls (S : List Nat) (p : Nat) (A : Option Addr) (k cap : Nat) (wr : Bool) (R : Option Addr) (N C : Nat) (whole rest : List UInt8) (n : Nat) (w : World) (h0 : Hp w S [.blk p [.slice A k cap, .bool wr] 107, .row R N C 5 1 (by8 whole)] w) (hcut : Cut R whole A rest) (hk : k = rest.length) (hcap : k ≤ cap) (hN : k ≤ 1000000) : Calls Try.prog 39 #[pt p 0, .int .i64 (n : Int)] w fun e w' => ∃ B b D d, e = .returned (.slice D (rV wr rest n).length d) ∧ Hp w S [.blk p [.slice B (rR wr rest n).length b, .bool (!(rOK wr rest n))] 107, .row R N C 5 1 (by8 whole), .row D (rV wr rest n).length d 5 1 (by8 (rV wr rest n))] w' ∧ Cut R whole B (rR wr rest n) ∧ (rR wr rest n).length ≤ b := by
 refine calls_G (args := [pt p 0, vi n]) Try.func39 rfl Try.ntmps39 rfl ?_
 intro Q0 hRet hNor hPan
 have H := h0
 refine G.sr fun K1 hK2 => ?_
 refine GL.r 1 1 [(0, pt p 0), (1, vi n)] ?_
 refine GL.q hK2 ?_
 refine G.seqK fun K3 hK4 => ?_
 refine G.sr fun K5 hK6 => ?_
 refine GL.r 1 1 [(0, pt p 0), (1, vi n), (6, pt p 0)] ?_
 refine GL.call (j := 2) (Wrong_calls (ids [.blk p [.slice A k cap, .bool wr] 107, .row R N C 5 1 (by8 whole)]) p A k cap wr R N C whole w (Hp.startL (A := [.blk p [.slice A k cap, .bool wr] 107, .row R N C 5 1 (by8 whole)]) (B := []) H)) (by kernel_rfl) rfl (fun e_ w7 hR => ?_)
 obtain ⟨rfl, H9⟩ := hR
 have H8 : Hp w S [.blk p [.slice A k cap, .bool wr] 107, .row R N C 5 1 (by8 whole)] w7 := Hp.callL (A := [.blk p [.slice A k cap, .bool wr] 107, .row R N C 5 1 (by8 whole)]) (B := []) H H9
 refine ⟨_, rfl, [0, 1, 7], [(0, pt p 0), (1, vi n), (7, .bool wr)], by kernel_rfl, ?_⟩
 refine GL.r 3 1 [(0, pt p 0), (1, vi n), (8, .bool wr)] ?_
 rcases (Bool.eq_false_or_eq_true wr).symm with hb10 | hb10
 · skip
   refine GL.eq (M' := [(0, pt p 0), (1, vi n), (8, .bool false)]) (by first | (rw [hb10]; done) | (rw [hb10]; rfl)) ?_
   have hwrF : wr = false := hb10
   refine GL.r 7 4 [(0, pt p 0), (1, vi n), (12, .bool (decide ((n : Int) < 0)))] ?_
   have hb11 : (decide ((n : Int) < 0)) = false := decide_eq_false (by omega)
   rw [hb11]
   refine GL.r 11 4 [(0, pt p 0), (1, vi n), (12, .bool false), (13, vi n), (16, pt p 0)] ?_
   refine GL.s 12 (H8.ld (o := 0) (ty := 38) (v := .slice A k cap) 0 rfl (by kernel_rfl) rfl) [(0, pt p 0), (1, vi n), (12, .bool false), (13, vi n), (17, .slice A k cap)] ?_
   refine GL.r 15 3 [(0, pt p 0), (1, vi n), (20, .bool (decide ((k : Int) < (n : Int))))] ?_
   refine GL.q hK6 ?_
   cases hb12 : (decide ((k : Int) < (n : Int)))
   · skip
     have hb12f := of_decide_eq_false hb12
     refine G.no rfl ?_
     refine G.skipK hK4 (fun _ _ h => h) ?_
     refine G.sr fun K13 hK14 => ?_
     refine GL.r 3 3 [(0, pt p 0), (1, vi n), (25, pt p 0)] ?_
     refine GL.s 4 (H8.ld (o := 0) (ty := 38) (v := .slice A k cap) 0 rfl (by kernel_rfl) rfl) [(0, pt p 0), (1, vi n), (26, .slice A k cap)] ?_
     refine GL.r 5 1 [(0, pt p 0), (1, vi n), (26, .slice A k cap), (27, vi n)] ?_
     refine GL.s 6 (run_sliceSl0 (P := Try.prog) (lo := none) (hi := some (vi n)) (t := 38) (len := k) (cap := cap) (A := A) (h := n) (by kernel_rfl) (Or.inl ⟨rfl, rfl⟩) (Or.inr ⟨_, _, rfl, rfl⟩) (by omega)) [(0, pt p 0), (1, vi n), (28, .slice A n cap)] ?_
     refine GL.call (j := 7) (Clone_calls (rest.take n) A n cap w7 (RdS.take8 (hcut _ (H8.rdRow 1 rfl)) n (cs := (rest.take n)) rfl) (by rw [List.length_take]; omega) (by omega)) (by kernel_rfl) rfl (fun e_ w19 hR => ?_)
     obtain ⟨A15, c16, rfl, H18⟩ := hR
     have H17 : Hp w S [.blk p [.slice A k cap, .bool wr] 107, .row R N C 5 1 (by8 whole), .row A15 n c16 5 1 (by8 (rest.take n))] w19 := H8.callNew H18
     refine ⟨_, rfl, [0, 1, 29], [(0, pt p 0), (1, vi n), (29, .slice A15 n c16)], by kernel_rfl, ?_⟩
     refine GL.r 8 1 [(0, pt p 0), (1, vi n), (5, .slice A15 n c16)] ?_
     refine GL.q hK14 ?_
     refine G.sr fun K20 hK21 => ?_
     refine GL.r 4 4 [(1, vi n), (5, .slice A15 n c16), (30, pt p 0), (33, pt p 0)] ?_
     refine GL.s 5 (H17.ld (o := 0) (ty := 38) (v := .slice A k cap) 0 rfl (by kernel_rfl) rfl) [(1, vi n), (5, .slice A15 n c16), (30, pt p 0), (34, .slice A k cap)] ?_
     refine GL.r 6 1 [(5, .slice A15 n c16), (30, pt p 0), (34, .slice A k cap), (35, vi n)] ?_
     refine GL.s 7 (run_sliceSl (P := Try.prog) (lo := some (vi n)) (hi := none) (t := 38) (len := k) (cap := cap) (A := A) (l := n) (h := k) (by kernel_rfl) (Or.inr ⟨_, _, rfl, rfl⟩) (Or.inl ⟨rfl, rfl⟩) (by omega) (by omega)) [(5, .slice A15 n c16), (30, pt p 0), (36, .slice (if cap = n then A else Option.map (fun x => Addr.add x n) A) (k - n) (cap - n))] ?_
     refine GL.r 9 2 [(5, .slice A15 n c16), (36, .slice (if cap = n then A else Option.map (fun x => Addr.add x n) A) (k - n) (cap - n)), (38, pt p 0)] ?_
     obtain ⟨w22, r23, H24⟩ := H17.st (P := Try.prog) (o := 0) (ty := 38) (v := .slice (if cap = n then A else Option.map (fun x => Addr.add x n) A) (k - n) (cap - n)) 0 rfl (by kernel_rfl) (by simp) rfl
     refine GL.u 10 r23 [(5, .slice A15 n c16)] ?_
     refine GL.q hK21 ?_
     refine G.sr fun K25 hK26 => ?_
     refine GL.r 2 2 [(4, .slice A15 n c16)] ?_
     refine GL.q hK26 ?_
     refine G.ret fun F_ hF_ hM_ => hRet _ _ (bodyPost_1 rfl (RV.tmp rfl) ?_ F_ hF_ hM_)
     have hwr : wr = false := hwrF
     subst hwr
     obtain ⟨e1, e2, e3⟩ := rOK_true (rest := rest) (n := n) (by omega)
     rw [e1, e2, e3, show (rest.take n).length = n by rw [List.length_take]; omega, show (rest.drop n).length = k - n by rw [List.length_drop]; omega]
     exact ⟨_, _, _, _, rfl, H24, hcut.drop n (by omega), by omega⟩
   · skip
     have hb12f := of_decide_eq_true hb12
     refine G.yes rfl ?_
     refine G.sr fun K27 hK28 => ?_
     refine GL.r 1 1 [(21, pt p 0)] ?_
     refine GL.call (j := 2) (Fail_calls (ids [.blk p [.slice A k cap, .bool wr] 107, .row R N C 5 1 (by8 whole)]) p A k cap wr R N C whole w7 (Hp.startL (A := [.blk p [.slice A k cap, .bool wr] 107, .row R N C 5 1 (by8 whole)]) (B := []) H8)) (by kernel_rfl) rfl (fun e_ w29 hR => ?_)
     obtain ⟨rfl, H31⟩ := hR
     have H30 : Hp w S [.blk p [.slice none 0 0, .bool true] 107, .row R N C 5 1 (by8 whole)] w29 := Hp.callL (A := [.blk p [.slice A k cap, .bool wr] 107, .row R N C 5 1 (by8 whole)]) (B := []) H8 H31
     refine ⟨_, rfl, [], [], by kernel_rfl, ?_⟩
     refine GL.q hK28 ?_
     refine G.sr fun K32 hK33 => ?_
     refine GL.r 1 1 [(4, .slice none 0 0)] ?_
     refine GL.q hK33 ?_
     refine G.ret fun F_ hF_ hM_ => hRet _ _ (bodyPost_1 rfl (RV.tmp rfl) ?_ F_ hF_ hM_)
     obtain ⟨e1, e2, e3⟩ := rOK_false (wr := wr) (rest := rest) (n := n) (.inr (by omega))
     rw [e1, e2, e3]
     exact ⟨none, 0, none, 0, rfl, H30.rowNil 5 1, Cut.nil _ _ _, Nat.le_refl _⟩
 · skip
   refine GL.eq (M' := [(0, pt p 0), (1, vi n), (8, .bool true)]) (by first | (rw [hb10]; done) | (rw [hb10]; rfl)) ?_
   refine GL.r 15 12 [(0, pt p 0), (1, vi n), (20, .bool true)] ?_
   refine GL.q hK6 ?_
   refine G.yes rfl ?_
   refine G.sr fun K34 hK35 => ?_
   refine GL.r 1 1 [(21, pt p 0)] ?_
   refine GL.call (j := 2) (Fail_calls (ids [.blk p [.slice A k cap, .bool wr] 107, .row R N C 5 1 (by8 whole)]) p A k cap wr R N C whole w7 (Hp.startL (A := [.blk p [.slice A k cap, .bool wr] 107, .row R N C 5 1 (by8 whole)]) (B := []) H8)) (by kernel_rfl) rfl (fun e_ w36 hR => ?_)
   obtain ⟨rfl, H38⟩ := hR
   have H37 : Hp w S [.blk p [.slice none 0 0, .bool true] 107, .row R N C 5 1 (by8 whole)] w36 := Hp.callL (A := [.blk p [.slice A k cap, .bool wr] 107, .row R N C 5 1 (by8 whole)]) (B := []) H8 H38
   refine ⟨_, rfl, [], [], by kernel_rfl, ?_⟩
   refine GL.q hK35 ?_
   refine G.sr fun K39 hK40 => ?_
   refine GL.r 1 1 [(4, .slice none 0 0)] ?_
   refine GL.q hK40 ?_
   refine G.ret fun F_ hF_ hM_ => hRet _ _ (bodyPost_1 rfl (RV.tmp rfl) ?_ F_ hF_ hM_)
   obtain ⟨e1, e2, e3⟩ := rOK_false (wr := wr) (rest := rest) (n := n) (.inl (by assumption))
   rw [e1, e2, e3]
   exact ⟨none, 0, none, 0, rfl, H37.rowNil 5 1, Cut.nil _ _ _, Nat.le_refl _⟩
theorem Get1_calls (S : List Nat) (p : Nat) (A : Option Addr) (k cap : Nat) (wr : Bool) (R : Option Addr) (N C : Nat) (whole rest : List UInt8) (w : World) (h0 : Hp w S [.blk p [.slice A k cap, .bool wr] 107, .row R N C 5 1 (by8 whole)] w) (hcut : Cut R whole A rest) (hk : k = rest.length) (hcap : k ≤ cap) (hN : k ≤ 1000000) : Calls Try.prog 36 #[pt p 0, .int .i64 1] w fun e w' => ∃ B b, e = .returned (.int .u64 ((getB (rV wr rest 1) : Nat) : Int)) ∧ Hp w S [.blk p [.slice B (rR wr rest 1).length b, .bool (!(rOK wr rest 1))] 107, .row R N C 5 1 (by8 whole)] w' ∧ Cut R whole B (rR wr rest 1) ∧ (rR wr rest 1).length ≤ b := by
 refine calls_R (args := [pt p 0, li 1]) Try.func36 rfl Try.ntmps36 rfl ?_
 intro Q0 hRet hNor
 have H := h0
 refine RG.seqK fun K1 hK2 => ?_
 refine RG.region (by kernel_rfl) ?_
 refine RL.run (j := 1) 1 [0, 1] [(0, pt p 0), (1, li 1)] (by kernel_rfl) rfl ?_
 refine RL.k rfl hK2 (fun _ _ h => h) ?_
 refine RG.seqK fun K3 hK4 => ?_
 refine RG.seqK fun K5 hK6 => ?_
 refine RG.region (by kernel_rfl) ?_
 refine RL.run (j := 14) 14 [0, 1, 21] [(0, pt p 0), (1, li 1), (21, .bool false)] (by kernel_rfl) rfl ?_
 refine RL.k rfl hK6 (fun _ _ h => h) ?_
 refine RG.no rfl ?_
 refine RG.skipK hK4 (fun _ _ h => h) ?_
 refine RG.seqK fun K7 hK8 => ?_
 refine RG.region (by kernel_rfl) ?_
 obtain ⟨p9, w10, r11, H12⟩ := H.alloc (P := Try.prog) 31 [lu 0] (by kernel_rfl)
 refine RL.sem (j := 1) (r11) [0, 1, 5] [(0, pt p 0), (1, li 1), (5, pt p9 0)] (by kernel_rfl) (by kernel_rfl) rfl ?_
 refine RL.k rfl hK8 (fun _ _ h => h) ?_
 refine RG.seqK fun K13 hK14 => ?_
 refine RG.seqK fun K15 hK16 => ?_
 refine RG.region (by kernel_rfl) ?_
 refine RL.run (j := 2) 2 [5, 24, 25] [(5, pt p9 0), (24, pt p 0), (25, li 1)] (by kernel_rfl) rfl ?_
 refine RL.call (j := 3) (Raw_calls (ids [.blk p [.slice A k cap, .bool wr] 107, .row R N C 5 1 (by8 whole)]) p A k cap wr R N C whole rest 1 w10 (Hp.startL (A := [.blk p [.slice A k cap, .bool wr] 107, .row R N C 5 1 (by8 whole)]) (B := [.blk p9 [lu 0] 31]) H12) hcut (hk) (hcap) (hN)) (by kernel_rfl) rfl (fun e_ w23 hR => ?_)
 obtain ⟨A17, c18, A19, c20, rfl, H25, hC21, hL22⟩ := hR
 have H24 : Hp w S [.blk p [.slice A17 ((rR wr rest 1).length) c18, .bool (!(rOK wr rest 1))] 107, .row R N C 5 1 (by8 whole), .row A19 ((rV wr rest 1).length) c20 5 1 (by8 (rV wr rest 1)), .blk p9 [lu 0] 31] w23 := Hp.callL (A := [.blk p [.slice A k cap, .bool wr] 107, .row R N C 5 1 (by8 whole)]) (B := [.blk p9 [lu 0] 31]) H12 H25
 refine ⟨_, rfl, [5, 26], [(5, pt p9 0), (26, .slice A19 ((rV wr rest 1).length) c20)], by kernel_rfl, ?_⟩
 refine RL.call (j := 4) (Backward_calls A19 ((rV wr rest 1).length) c20 w23) (by kernel_rfl) rfl (fun e_ w29 hR => ?_)
 obtain ⟨B26, rfl, H28⟩ := hR
 have H27 : Hp w S [.blk p [.slice A17 ((rR wr rest 1).length) c18, .bool (!(rOK wr rest 1))] 107, .row R N C 5 1 (by8 whole), .row A19 ((rV wr rest 1).length) c20 5 1 (by8 (rV wr rest 1)), .blk p9 [lu 0] 31, .blk B26 [.slice A19 ((rV wr rest 1).length) c20] 38] w29 := H24.callNew H28
 refine ⟨_, rfl, [5, 27], [(5, pt p9 0), (27, .func (.func 73) #[] #[pt B26 0])], by kernel_rfl, ?_⟩
 refine RL.k rfl hK16 (fun _ _ h => h) ?_
 refine RG.block ?_
 refine RG.fit [5, 27] (M' := [(5, pt p9 0), (27, .func (.func 73) #[] #[pt B26 0])]) (by kernel_rfl) ?_
 refine RG.range H27 (gf := 73) (lb := #[pt B26 0]) rfl (enters_of Try.func73 (by kernel_rfl) rfl) (Xt := Nat) (fun k s => s = getB ((rV wr rest 1).drop ((rV wr rest 1).length - k))) (fun k s => [.blk p [.slice A17 ((rR wr rest 1).length) c18, .bool (!(rOK wr rest 1))] 107, .row R N C 5 1 (by8 whole), .row A19 ((rV wr rest 1).length) c20 5 1 (by8 (rV wr rest 1)), .blk p9 [vu s] 31, .blk B26 [.slice A19 ((rV wr rest 1).length) c20] 38]) (fun s => False) (fun s => []) (N := (rV wr rest 1).length) (enc := fun k => #[vi ((rV wr rest 1).length - 1 - k), lb (((rV wr rest 1).getD ((rV wr rest 1).length - 1 - k) 0).toNat : Int)]) (Backward_iter (rV wr rest 1) (Nat.le_trans (show (rV wr rest 1).length ≤ 8 from (Nat.le_trans (rV_le wr rest 1) (by decide))) (by decide)) A19 c20 B26) (fun _ => rfl) 0 (by rw [Nat.sub_zero, List.drop_length]; rfl) rfl (fun k s E W hx HW => ⟨(HW.blkAt 4 rfl).cell 0, HW.rdRow 2 rfl⟩) (fun k => [(29, lb (((rV wr rest 1).getD ((rV wr rest 1).length - 1 - k) 0).toNat : Int)), (28, vi ((rV wr rest 1).length - 1 - k)), (5, pt p9 0), (27, .func (.func 73) #[] #[pt B26 0])]) (fun _ => rfl) ?_ ?_ ?_
 · skip
   rintro D33 l34 oR35 oB36 k s w30 K37 hk38 hx31 H32 hK39
   have hs1 := hx31
   have hk9 := hk38
   have hVl : (rV wr rest 1).length ≤ 8 := (Nat.le_trans (rV_le wr rest 1) (by decide))
   have hs56 : s < 72057594037927936 := by rw [hs1]; exact acc_lt (by omega)
   have hxb := UInt8.toNat_lt ((rV wr rest 1).getD ((rV wr rest 1).length - 1 - k) 0)
   refine RG.region (by kernel_rfl) ?_
   refine RL.run (j := 1) 1 [5, 7] [(5, pt p9 0), (7, lb (((rV wr rest 1).getD ((rV wr rest 1).length - 1 - k) 0).toNat : Int))] (by kernel_rfl) rfl ?_
   refine RL.done rfl (fun F_ hF_ hM_ => hK39 F_ _ [.blk p [.slice A17 ((rR wr rest 1).length) c18, .bool (!(rOK wr rest 1))] 107, .row R N C 5 1 (by8 whole), .row A19 ((rV wr rest 1).length) c20 5 1 (by8 (rV wr rest 1)), .blk p9 [vu s] 31, .blk B26 [.slice A19 ((rV wr rest 1).length) c20] 38] _ hF_ hM_ H32 ?_)
   intro w40 H41
   refine RG.block ?_
   refine RG.region (by kernel_rfl) ?_
   refine RL.sem (j := 1) (H41.ld (o := 0) (ty := 31) (v := vu s) 3 rfl (by kernel_rfl) rfl) [5, 7, 30] [(5, pt p9 0), (7, lb (((rV wr rest 1).getD ((rV wr rest 1).length - 1 - k) 0).toNat : Int)), (30, vu s)] (by kernel_rfl) (by kernel_rfl) rfl ?_
   refine RL.run (j := 5) 4 [5, 34] [(5, pt p9 0), (34, lu (Go.bits .or .u64 (IntKind.u64.wrap ((s : Int) * 2 ^ 8)) (IntKind.u64.wrap (((rV wr rest 1).getD ((rV wr rest 1).length - 1 - k) 0).toNat : Int))))] (by kernel_rfl) rfl ?_
   have e42 : (IntKind.u64.wrap ((s : Int) * 2 ^ 8)) = ((s * 2 ^ 8 : Nat) : Int) := by rw [n_shl, Nat.mod_eq_of_lt (by simp only [K]; omega)]
   have e43 : (IntKind.u64.wrap (((rV wr rest 1).getD ((rV wr rest 1).length - 1 - k) 0).toNat : Int)) = (((rV wr rest 1).getD ((rV wr rest 1).length - 1 - k) 0).toNat : Int) := u8_up_u64 _
   have e44 : (Go.bits .or .u64 ((s * 2 ^ 8 : Nat) : Int) (((rV wr rest 1).getD ((rV wr rest 1).length - 1 - k) 0).toNat : Int)) = ((((rV wr rest 1).getD ((rV wr rest 1).length - 1 - k) 0).toNat + 256 * s : Nat) : Int) := or_low hs56 hxb
   rw [e42, e43, e44]
   clear e42 e43 e44
   obtain ⟨w45, r46, H47⟩ := H41.st (P := Try.prog) (o := 0) (ty := 31) (v := vu (((rV wr rest 1).getD ((rV wr rest 1).length - 1 - k) 0).toNat + 256 * s)) 3 rfl (by kernel_rfl) (by simp) rfl
   refine RL.semU (j := 6) r46 [] [] (by kernel_rfl) rfl rfl rfl ?_
   exact RL.done rfl (fun F_ hF_ hM_ => ⟨((((rV wr rest 1).getD ((rV wr rest 1).length - 1 - k) 0)).toNat + 256 * s), (by rw [hs1]; exact acc_step hk9), H47⟩)
 · skip
   rintro D51 s w48 hx49 H50
   refine RG.kk hK14 (fun _ _ h => h) ?_
   rw [Nat.sub_self, List.drop_zero] at hx49
   have hs1 := hx49
   refine RG.seqK fun K52 hK53 => ?_
   refine RG.region (by kernel_rfl) ?_
   refine RL.sem (j := 1) (H50.ld (o := 0) (ty := 31) (v := vu s) 3 rfl (by kernel_rfl) rfl) [35] [(35, vu s)] (by kernel_rfl) (by kernel_rfl) rfl ?_
   refine RL.run (j := 2) 1 [4] [(4, vu s)] (by kernel_rfl) rfl ?_
   refine RL.k rfl hK53 (fun _ _ h => h) ?_
   refine RG.ret ?_
   have hD54 := H50.objAt 5 rfl
   have H55 : Hp w S [.blk p [.slice A17 ((rR wr rest 1).length) c18, .bool (!(rOK wr rest 1))] 107, .row R N C 5 1 (by8 whole), .row A19 ((rV wr rest 1).length) c20 5 1 (by8 (rV wr rest 1)), .blk p9 [vu s] 31, .blk B26 [.slice A19 ((rV wr rest 1).length) c20] 38, .obj D51 (.deferred none)] (World.putObj w48 D51 (.deferred none)) := H50.putObj 5 (.deferred none) rfl
   intro F_ hF_ hM_
   refine hRet _ _ (postK_1 hD54 rfl (RV.tmp rfl) ?_ F_ hF_ hM_)
   have H56 : Hp w S [.blk p [.slice A17 ((rR wr rest 1).length) c18, .bool (!(rOK wr rest 1))] 107, .row R N C 5 1 (by8 whole)] (World.putObj w48 D51 (.deferred none)) := H55.sub (List.Sublist.cons_cons _ (List.Sublist.cons_cons _ (List.Sublist.cons _ (List.Sublist.cons _ (List.Sublist.cons _ (List.Sublist.cons _ (List.Sublist.slnil)))))))
   rw [← hs1]
   exact ⟨_, _, rfl, H56, hC21, hL22⟩
 · skip
   rintro D60 s w57 hx58 H59
   exact hx58.elim
theorem Get2_calls (S : List Nat) (p : Nat) (A : Option Addr) (k cap : Nat) (wr : Bool) (R : Option Addr) (N C : Nat) (whole rest : List UInt8) (w : World) (h0 : Hp w S [.blk p [.slice A k cap, .bool wr] 107, .row R N C 5 1 (by8 whole)] w) (hcut : Cut R whole A rest) (hk : k = rest.length) (hcap : k ≤ cap) (hN : k ≤ 1000000) : Calls Try.prog 36 #[pt p 0, .int .i64 2] w fun e w' => ∃ B b, e = .returned (.int .u64 ((getB (rV wr rest 2) : Nat) : Int)) ∧ Hp w S [.blk p [.slice B (rR wr rest 2).length b, .bool (!(rOK wr rest 2))] 107, .row R N C 5 1 (by8 whole)] w' ∧ Cut R whole B (rR wr rest 2) ∧ (rR wr rest 2).length ≤ b := by
 refine calls_R (args := [pt p 0, li 2]) Try.func36 rfl Try.ntmps36 rfl ?_
 intro Q0 hRet hNor
 have H := h0
 refine RG.seqK fun K1 hK2 => ?_
 refine RG.region (by kernel_rfl) ?_
 refine RL.run (j := 1) 1 [0, 1] [(0, pt p 0), (1, li 2)] (by kernel_rfl) rfl ?_
 refine RL.k rfl hK2 (fun _ _ h => h) ?_
 refine RG.seqK fun K3 hK4 => ?_
 refine RG.seqK fun K5 hK6 => ?_
 refine RG.region (by kernel_rfl) ?_
 refine RL.run (j := 14) 14 [0, 1, 21] [(0, pt p 0), (1, li 2), (21, .bool false)] (by kernel_rfl) rfl ?_
 refine RL.k rfl hK6 (fun _ _ h => h) ?_
 refine RG.no rfl ?_
 refine RG.skipK hK4 (fun _ _ h => h) ?_
 refine RG.seqK fun K7 hK8 => ?_
 refine RG.region (by kernel_rfl) ?_
 obtain ⟨p9, w10, r11, H12⟩ := H.alloc (P := Try.prog) 31 [lu 0] (by kernel_rfl)
 refine RL.sem (j := 1) (r11) [0, 1, 5] [(0, pt p 0), (1, li 2), (5, pt p9 0)] (by kernel_rfl) (by kernel_rfl) rfl ?_
 refine RL.k rfl hK8 (fun _ _ h => h) ?_
 refine RG.seqK fun K13 hK14 => ?_
 refine RG.seqK fun K15 hK16 => ?_
 refine RG.region (by kernel_rfl) ?_
 refine RL.run (j := 2) 2 [5, 24, 25] [(5, pt p9 0), (24, pt p 0), (25, li 2)] (by kernel_rfl) rfl ?_
 refine RL.call (j := 3) (Raw_calls (ids [.blk p [.slice A k cap, .bool wr] 107, .row R N C 5 1 (by8 whole)]) p A k cap wr R N C whole rest 2 w10 (Hp.startL (A := [.blk p [.slice A k cap, .bool wr] 107, .row R N C 5 1 (by8 whole)]) (B := [.blk p9 [lu 0] 31]) H12) hcut (hk) (hcap) (hN)) (by kernel_rfl) rfl (fun e_ w23 hR => ?_)
 obtain ⟨A17, c18, A19, c20, rfl, H25, hC21, hL22⟩ := hR
 have H24 : Hp w S [.blk p [.slice A17 ((rR wr rest 2).length) c18, .bool (!(rOK wr rest 2))] 107, .row R N C 5 1 (by8 whole), .row A19 ((rV wr rest 2).length) c20 5 1 (by8 (rV wr rest 2)), .blk p9 [lu 0] 31] w23 := Hp.callL (A := [.blk p [.slice A k cap, .bool wr] 107, .row R N C 5 1 (by8 whole)]) (B := [.blk p9 [lu 0] 31]) H12 H25
 refine ⟨_, rfl, [5, 26], [(5, pt p9 0), (26, .slice A19 ((rV wr rest 2).length) c20)], by kernel_rfl, ?_⟩
 refine RL.call (j := 4) (Backward_calls A19 ((rV wr rest 2).length) c20 w23) (by kernel_rfl) rfl (fun e_ w29 hR => ?_)
 obtain ⟨B26, rfl, H28⟩ := hR
 have H27 : Hp w S [.blk p [.slice A17 ((rR wr rest 2).length) c18, .bool (!(rOK wr rest 2))] 107, .row R N C 5 1 (by8 whole), .row A19 ((rV wr rest 2).length) c20 5 1 (by8 (rV wr rest 2)), .blk p9 [lu 0] 31, .blk B26 [.slice A19 ((rV wr rest 2).length) c20] 38] w29 := H24.callNew H28
 refine ⟨_, rfl, [5, 27], [(5, pt p9 0), (27, .func (.func 73) #[] #[pt B26 0])], by kernel_rfl, ?_⟩
 refine RL.k rfl hK16 (fun _ _ h => h) ?_
 refine RG.block ?_
 refine RG.fit [5, 27] (M' := [(5, pt p9 0), (27, .func (.func 73) #[] #[pt B26 0])]) (by kernel_rfl) ?_
 refine RG.range H27 (gf := 73) (lb := #[pt B26 0]) rfl (enters_of Try.func73 (by kernel_rfl) rfl) (Xt := Nat) (fun k s => s = getB ((rV wr rest 2).drop ((rV wr rest 2).length - k))) (fun k s => [.blk p [.slice A17 ((rR wr rest 2).length) c18, .bool (!(rOK wr rest 2))] 107, .row R N C 5 1 (by8 whole), .row A19 ((rV wr rest 2).length) c20 5 1 (by8 (rV wr rest 2)), .blk p9 [vu s] 31, .blk B26 [.slice A19 ((rV wr rest 2).length) c20] 38]) (fun s => False) (fun s => []) (N := (rV wr rest 2).length) (enc := fun k => #[vi ((rV wr rest 2).length - 1 - k), lb (((rV wr rest 2).getD ((rV wr rest 2).length - 1 - k) 0).toNat : Int)]) (Backward_iter (rV wr rest 2) (Nat.le_trans (show (rV wr rest 2).length ≤ 8 from (Nat.le_trans (rV_le wr rest 2) (by decide))) (by decide)) A19 c20 B26) (fun _ => rfl) 0 (by rw [Nat.sub_zero, List.drop_length]; rfl) rfl (fun k s E W hx HW => ⟨(HW.blkAt 4 rfl).cell 0, HW.rdRow 2 rfl⟩) (fun k => [(29, lb (((rV wr rest 2).getD ((rV wr rest 2).length - 1 - k) 0).toNat : Int)), (28, vi ((rV wr rest 2).length - 1 - k)), (5, pt p9 0), (27, .func (.func 73) #[] #[pt B26 0])]) (fun _ => rfl) ?_ ?_ ?_
 · skip
   rintro D33 l34 oR35 oB36 k s w30 K37 hk38 hx31 H32 hK39
   have hs1 := hx31
   have hk9 := hk38
   have hVl : (rV wr rest 2).length ≤ 8 := (Nat.le_trans (rV_le wr rest 2) (by decide))
   have hs56 : s < 72057594037927936 := by rw [hs1]; exact acc_lt (by omega)
   have hxb := UInt8.toNat_lt ((rV wr rest 2).getD ((rV wr rest 2).length - 1 - k) 0)
   refine RG.region (by kernel_rfl) ?_
   refine RL.run (j := 1) 1 [5, 7] [(5, pt p9 0), (7, lb (((rV wr rest 2).getD ((rV wr rest 2).length - 1 - k) 0).toNat : Int))] (by kernel_rfl) rfl ?_
   refine RL.done rfl (fun F_ hF_ hM_ => hK39 F_ _ [.blk p [.slice A17 ((rR wr rest 2).length) c18, .bool (!(rOK wr rest 2))] 107, .row R N C 5 1 (by8 whole), .row A19 ((rV wr rest 2).length) c20 5 1 (by8 (rV wr rest 2)), .blk p9 [vu s] 31, .blk B26 [.slice A19 ((rV wr rest 2).length) c20] 38] _ hF_ hM_ H32 ?_)
   intro w40 H41
   refine RG.block ?_
   refine RG.region (by kernel_rfl) ?_
   refine RL.sem (j := 1) (H41.ld (o := 0) (ty := 31) (v := vu s) 3 rfl (by kernel_rfl) rfl) [5, 7, 30] [(5, pt p9 0), (7, lb (((rV wr rest 2).getD ((rV wr rest 2).length - 1 - k) 0).toNat : Int)), (30, vu s)] (by kernel_rfl) (by kernel_rfl) rfl ?_
   refine RL.run (j := 5) 4 [5, 34] [(5, pt p9 0), (34, lu (Go.bits .or .u64 (IntKind.u64.wrap ((s : Int) * 2 ^ 8)) (IntKind.u64.wrap (((rV wr rest 2).getD ((rV wr rest 2).length - 1 - k) 0).toNat : Int))))] (by kernel_rfl) rfl ?_
   have e42 : (IntKind.u64.wrap ((s : Int) * 2 ^ 8)) = ((s * 2 ^ 8 : Nat) : Int) := by rw [n_shl, Nat.mod_eq_of_lt (by simp only [K]; omega)]
   have e43 : (IntKind.u64.wrap (((rV wr rest 2).getD ((rV wr rest 2).length - 1 - k) 0).toNat : Int)) = (((rV wr rest 2).getD ((rV wr rest 2).length - 1 - k) 0).toNat : Int) := u8_up_u64 _
   have e44 : (Go.bits .or .u64 ((s * 2 ^ 8 : Nat) : Int) (((rV wr rest 2).getD ((rV wr rest 2).length - 1 - k) 0).toNat : Int)) = ((((rV wr rest 2).getD ((rV wr rest 2).length - 1 - k) 0).toNat + 256 * s : Nat) : Int) := or_low hs56 hxb
   rw [e42, e43, e44]
   clear e42 e43 e44
   obtain ⟨w45, r46, H47⟩ := H41.st (P := Try.prog) (o := 0) (ty := 31) (v := vu (((rV wr rest 2).getD ((rV wr rest 2).length - 1 - k) 0).toNat + 256 * s)) 3 rfl (by kernel_rfl) (by simp) rfl
   refine RL.semU (j := 6) r46 [] [] (by kernel_rfl) rfl rfl rfl ?_
   exact RL.done rfl (fun F_ hF_ hM_ => ⟨((((rV wr rest 2).getD ((rV wr rest 2).length - 1 - k) 0)).toNat + 256 * s), (by rw [hs1]; exact acc_step hk9), H47⟩)
 · skip
   rintro D51 s w48 hx49 H50
   refine RG.kk hK14 (fun _ _ h => h) ?_
   rw [Nat.sub_self, List.drop_zero] at hx49
   have hs1 := hx49
   refine RG.seqK fun K52 hK53 => ?_
   refine RG.region (by kernel_rfl) ?_
   refine RL.sem (j := 1) (H50.ld (o := 0) (ty := 31) (v := vu s) 3 rfl (by kernel_rfl) rfl) [35] [(35, vu s)] (by kernel_rfl) (by kernel_rfl) rfl ?_
   refine RL.run (j := 2) 1 [4] [(4, vu s)] (by kernel_rfl) rfl ?_
   refine RL.k rfl hK53 (fun _ _ h => h) ?_
   refine RG.ret ?_
   have hD54 := H50.objAt 5 rfl
   have H55 : Hp w S [.blk p [.slice A17 ((rR wr rest 2).length) c18, .bool (!(rOK wr rest 2))] 107, .row R N C 5 1 (by8 whole), .row A19 ((rV wr rest 2).length) c20 5 1 (by8 (rV wr rest 2)), .blk p9 [vu s] 31, .blk B26 [.slice A19 ((rV wr rest 2).length) c20] 38, .obj D51 (.deferred none)] (World.putObj w48 D51 (.deferred none)) := H50.putObj 5 (.deferred none) rfl
   intro F_ hF_ hM_
   refine hRet _ _ (postK_1 hD54 rfl (RV.tmp rfl) ?_ F_ hF_ hM_)
   have H56 : Hp w S [.blk p [.slice A17 ((rR wr rest 2).length) c18, .bool (!(rOK wr rest 2))] 107, .row R N C 5 1 (by8 whole)] (World.putObj w48 D51 (.deferred none)) := H55.sub (List.Sublist.cons_cons _ (List.Sublist.cons_cons _ (List.Sublist.cons _ (List.Sublist.cons _ (List.Sublist.cons _ (List.Sublist.cons _ (List.Sublist.slnil)))))))
   rw [← hs1]
   exact ⟨_, _, rfl, H56, hC21, hL22⟩
 · skip
   rintro D60 s w57 hx58 H59
   exact hx58.elim
theorem Get4_calls (S : List Nat) (p : Nat) (A : Option Addr) (k cap : Nat) (wr : Bool) (R : Option Addr) (N C : Nat) (whole rest : List UInt8) (w : World) (h0 : Hp w S [.blk p [.slice A k cap, .bool wr] 107, .row R N C 5 1 (by8 whole)] w) (hcut : Cut R whole A rest) (hk : k = rest.length) (hcap : k ≤ cap) (hN : k ≤ 1000000) : Calls Try.prog 36 #[pt p 0, .int .i64 4] w fun e w' => ∃ B b, e = .returned (.int .u64 ((getB (rV wr rest 4) : Nat) : Int)) ∧ Hp w S [.blk p [.slice B (rR wr rest 4).length b, .bool (!(rOK wr rest 4))] 107, .row R N C 5 1 (by8 whole)] w' ∧ Cut R whole B (rR wr rest 4) ∧ (rR wr rest 4).length ≤ b := by
 refine calls_R (args := [pt p 0, li 4]) Try.func36 rfl Try.ntmps36 rfl ?_
 intro Q0 hRet hNor
 have H := h0
 refine RG.seqK fun K1 hK2 => ?_
 refine RG.region (by kernel_rfl) ?_
 refine RL.run (j := 1) 1 [0, 1] [(0, pt p 0), (1, li 4)] (by kernel_rfl) rfl ?_
 refine RL.k rfl hK2 (fun _ _ h => h) ?_
 refine RG.seqK fun K3 hK4 => ?_
 refine RG.seqK fun K5 hK6 => ?_
 refine RG.region (by kernel_rfl) ?_
 refine RL.run (j := 14) 14 [0, 1, 21] [(0, pt p 0), (1, li 4), (21, .bool false)] (by kernel_rfl) rfl ?_
 refine RL.k rfl hK6 (fun _ _ h => h) ?_
 refine RG.no rfl ?_
 refine RG.skipK hK4 (fun _ _ h => h) ?_
 refine RG.seqK fun K7 hK8 => ?_
 refine RG.region (by kernel_rfl) ?_
 obtain ⟨p9, w10, r11, H12⟩ := H.alloc (P := Try.prog) 31 [lu 0] (by kernel_rfl)
 refine RL.sem (j := 1) (r11) [0, 1, 5] [(0, pt p 0), (1, li 4), (5, pt p9 0)] (by kernel_rfl) (by kernel_rfl) rfl ?_
 refine RL.k rfl hK8 (fun _ _ h => h) ?_
 refine RG.seqK fun K13 hK14 => ?_
 refine RG.seqK fun K15 hK16 => ?_
 refine RG.region (by kernel_rfl) ?_
 refine RL.run (j := 2) 2 [5, 24, 25] [(5, pt p9 0), (24, pt p 0), (25, li 4)] (by kernel_rfl) rfl ?_
 refine RL.call (j := 3) (Raw_calls (ids [.blk p [.slice A k cap, .bool wr] 107, .row R N C 5 1 (by8 whole)]) p A k cap wr R N C whole rest 4 w10 (Hp.startL (A := [.blk p [.slice A k cap, .bool wr] 107, .row R N C 5 1 (by8 whole)]) (B := [.blk p9 [lu 0] 31]) H12) hcut (hk) (hcap) (hN)) (by kernel_rfl) rfl (fun e_ w23 hR => ?_)
 obtain ⟨A17, c18, A19, c20, rfl, H25, hC21, hL22⟩ := hR
 have H24 : Hp w S [.blk p [.slice A17 ((rR wr rest 4).length) c18, .bool (!(rOK wr rest 4))] 107, .row R N C 5 1 (by8 whole), .row A19 ((rV wr rest 4).length) c20 5 1 (by8 (rV wr rest 4)), .blk p9 [lu 0] 31] w23 := Hp.callL (A := [.blk p [.slice A k cap, .bool wr] 107, .row R N C 5 1 (by8 whole)]) (B := [.blk p9 [lu 0] 31]) H12 H25
 refine ⟨_, rfl, [5, 26], [(5, pt p9 0), (26, .slice A19 ((rV wr rest 4).length) c20)], by kernel_rfl, ?_⟩
 refine RL.call (j := 4) (Backward_calls A19 ((rV wr rest 4).length) c20 w23) (by kernel_rfl) rfl (fun e_ w29 hR => ?_)
 obtain ⟨B26, rfl, H28⟩ := hR
 have H27 : Hp w S [.blk p [.slice A17 ((rR wr rest 4).length) c18, .bool (!(rOK wr rest 4))] 107, .row R N C 5 1 (by8 whole), .row A19 ((rV wr rest 4).length) c20 5 1 (by8 (rV wr rest 4)), .blk p9 [lu 0] 31, .blk B26 [.slice A19 ((rV wr rest 4).length) c20] 38] w29 := H24.callNew H28
 refine ⟨_, rfl, [5, 27], [(5, pt p9 0), (27, .func (.func 73) #[] #[pt B26 0])], by kernel_rfl, ?_⟩
 refine RL.k rfl hK16 (fun _ _ h => h) ?_
 refine RG.block ?_
 refine RG.fit [5, 27] (M' := [(5, pt p9 0), (27, .func (.func 73) #[] #[pt B26 0])]) (by kernel_rfl) ?_
 refine RG.range H27 (gf := 73) (lb := #[pt B26 0]) rfl (enters_of Try.func73 (by kernel_rfl) rfl) (Xt := Nat) (fun k s => s = getB ((rV wr rest 4).drop ((rV wr rest 4).length - k))) (fun k s => [.blk p [.slice A17 ((rR wr rest 4).length) c18, .bool (!(rOK wr rest 4))] 107, .row R N C 5 1 (by8 whole), .row A19 ((rV wr rest 4).length) c20 5 1 (by8 (rV wr rest 4)), .blk p9 [vu s] 31, .blk B26 [.slice A19 ((rV wr rest 4).length) c20] 38]) (fun s => False) (fun s => []) (N := (rV wr rest 4).length) (enc := fun k => #[vi ((rV wr rest 4).length - 1 - k), lb (((rV wr rest 4).getD ((rV wr rest 4).length - 1 - k) 0).toNat : Int)]) (Backward_iter (rV wr rest 4) (Nat.le_trans (show (rV wr rest 4).length ≤ 8 from (Nat.le_trans (rV_le wr rest 4) (by decide))) (by decide)) A19 c20 B26) (fun _ => rfl) 0 (by rw [Nat.sub_zero, List.drop_length]; rfl) rfl (fun k s E W hx HW => ⟨(HW.blkAt 4 rfl).cell 0, HW.rdRow 2 rfl⟩) (fun k => [(29, lb (((rV wr rest 4).getD ((rV wr rest 4).length - 1 - k) 0).toNat : Int)), (28, vi ((rV wr rest 4).length - 1 - k)), (5, pt p9 0), (27, .func (.func 73) #[] #[pt B26 0])]) (fun _ => rfl) ?_ ?_ ?_
 · skip
   rintro D33 l34 oR35 oB36 k s w30 K37 hk38 hx31 H32 hK39
   have hs1 := hx31
   have hk9 := hk38
   have hVl : (rV wr rest 4).length ≤ 8 := (Nat.le_trans (rV_le wr rest 4) (by decide))
   have hs56 : s < 72057594037927936 := by rw [hs1]; exact acc_lt (by omega)
   have hxb := UInt8.toNat_lt ((rV wr rest 4).getD ((rV wr rest 4).length - 1 - k) 0)
   refine RG.region (by kernel_rfl) ?_
   refine RL.run (j := 1) 1 [5, 7] [(5, pt p9 0), (7, lb (((rV wr rest 4).getD ((rV wr rest 4).length - 1 - k) 0).toNat : Int))] (by kernel_rfl) rfl ?_
   refine RL.done rfl (fun F_ hF_ hM_ => hK39 F_ _ [.blk p [.slice A17 ((rR wr rest 4).length) c18, .bool (!(rOK wr rest 4))] 107, .row R N C 5 1 (by8 whole), .row A19 ((rV wr rest 4).length) c20 5 1 (by8 (rV wr rest 4)), .blk p9 [vu s] 31, .blk B26 [.slice A19 ((rV wr rest 4).length) c20] 38] _ hF_ hM_ H32 ?_)
   intro w40 H41
   refine RG.block ?_
   refine RG.region (by kernel_rfl) ?_
   refine RL.sem (j := 1) (H41.ld (o := 0) (ty := 31) (v := vu s) 3 rfl (by kernel_rfl) rfl) [5, 7, 30] [(5, pt p9 0), (7, lb (((rV wr rest 4).getD ((rV wr rest 4).length - 1 - k) 0).toNat : Int)), (30, vu s)] (by kernel_rfl) (by kernel_rfl) rfl ?_
   refine RL.run (j := 5) 4 [5, 34] [(5, pt p9 0), (34, lu (Go.bits .or .u64 (IntKind.u64.wrap ((s : Int) * 2 ^ 8)) (IntKind.u64.wrap (((rV wr rest 4).getD ((rV wr rest 4).length - 1 - k) 0).toNat : Int))))] (by kernel_rfl) rfl ?_
   have e42 : (IntKind.u64.wrap ((s : Int) * 2 ^ 8)) = ((s * 2 ^ 8 : Nat) : Int) := by rw [n_shl, Nat.mod_eq_of_lt (by simp only [K]; omega)]
   have e43 : (IntKind.u64.wrap (((rV wr rest 4).getD ((rV wr rest 4).length - 1 - k) 0).toNat : Int)) = (((rV wr rest 4).getD ((rV wr rest 4).length - 1 - k) 0).toNat : Int) := u8_up_u64 _
   have e44 : (Go.bits .or .u64 ((s * 2 ^ 8 : Nat) : Int) (((rV wr rest 4).getD ((rV wr rest 4).length - 1 - k) 0).toNat : Int)) = ((((rV wr rest 4).getD ((rV wr rest 4).length - 1 - k) 0).toNat + 256 * s : Nat) : Int) := or_low hs56 hxb
   rw [e42, e43, e44]
   clear e42 e43 e44
   obtain ⟨w45, r46, H47⟩ := H41.st (P := Try.prog) (o := 0) (ty := 31) (v := vu (((rV wr rest 4).getD ((rV wr rest 4).length - 1 - k) 0).toNat + 256 * s)) 3 rfl (by kernel_rfl) (by simp) rfl
   refine RL.semU (j := 6) r46 [] [] (by kernel_rfl) rfl rfl rfl ?_
   exact RL.done rfl (fun F_ hF_ hM_ => ⟨((((rV wr rest 4).getD ((rV wr rest 4).length - 1 - k) 0)).toNat + 256 * s), (by rw [hs1]; exact acc_step hk9), H47⟩)
 · skip
   rintro D51 s w48 hx49 H50
   refine RG.kk hK14 (fun _ _ h => h) ?_
   rw [Nat.sub_self, List.drop_zero] at hx49
   have hs1 := hx49
   refine RG.seqK fun K52 hK53 => ?_
   refine RG.region (by kernel_rfl) ?_
   refine RL.sem (j := 1) (H50.ld (o := 0) (ty := 31) (v := vu s) 3 rfl (by kernel_rfl) rfl) [35] [(35, vu s)] (by kernel_rfl) (by kernel_rfl) rfl ?_
   refine RL.run (j := 2) 1 [4] [(4, vu s)] (by kernel_rfl) rfl ?_
   refine RL.k rfl hK53 (fun _ _ h => h) ?_
   refine RG.ret ?_
   have hD54 := H50.objAt 5 rfl
   have H55 : Hp w S [.blk p [.slice A17 ((rR wr rest 4).length) c18, .bool (!(rOK wr rest 4))] 107, .row R N C 5 1 (by8 whole), .row A19 ((rV wr rest 4).length) c20 5 1 (by8 (rV wr rest 4)), .blk p9 [vu s] 31, .blk B26 [.slice A19 ((rV wr rest 4).length) c20] 38, .obj D51 (.deferred none)] (World.putObj w48 D51 (.deferred none)) := H50.putObj 5 (.deferred none) rfl
   intro F_ hF_ hM_
   refine hRet _ _ (postK_1 hD54 rfl (RV.tmp rfl) ?_ F_ hF_ hM_)
   have H56 : Hp w S [.blk p [.slice A17 ((rR wr rest 4).length) c18, .bool (!(rOK wr rest 4))] 107, .row R N C 5 1 (by8 whole)] (World.putObj w48 D51 (.deferred none)) := H55.sub (List.Sublist.cons_cons _ (List.Sublist.cons_cons _ (List.Sublist.cons _ (List.Sublist.cons _ (List.Sublist.cons _ (List.Sublist.cons _ (List.Sublist.slnil)))))))
   rw [← hs1]
   exact ⟨_, _, rfl, H56, hC21, hL22⟩
 · skip
   rintro D60 s w57 hx58 H59
   exact hx58.elim
theorem Get8_calls (S : List Nat) (p : Nat) (A : Option Addr) (k cap : Nat) (wr : Bool) (R : Option Addr) (N C : Nat) (whole rest : List UInt8) (w : World) (h0 : Hp w S [.blk p [.slice A k cap, .bool wr] 107, .row R N C 5 1 (by8 whole)] w) (hcut : Cut R whole A rest) (hk : k = rest.length) (hcap : k ≤ cap) (hN : k ≤ 1000000) : Calls Try.prog 36 #[pt p 0, .int .i64 8] w fun e w' => ∃ B b, e = .returned (.int .u64 ((getB (rV wr rest 8) : Nat) : Int)) ∧ Hp w S [.blk p [.slice B (rR wr rest 8).length b, .bool (!(rOK wr rest 8))] 107, .row R N C 5 1 (by8 whole)] w' ∧ Cut R whole B (rR wr rest 8) ∧ (rR wr rest 8).length ≤ b := by
 refine calls_R (args := [pt p 0, li 8]) Try.func36 rfl Try.ntmps36 rfl ?_
 intro Q0 hRet hNor
 have H := h0
 refine RG.seqK fun K1 hK2 => ?_
 refine RG.region (by kernel_rfl) ?_
 refine RL.run (j := 1) 1 [0, 1] [(0, pt p 0), (1, li 8)] (by kernel_rfl) rfl ?_
 refine RL.k rfl hK2 (fun _ _ h => h) ?_
 refine RG.seqK fun K3 hK4 => ?_
 refine RG.seqK fun K5 hK6 => ?_
 refine RG.region (by kernel_rfl) ?_
 refine RL.run (j := 14) 14 [0, 1, 21] [(0, pt p 0), (1, li 8), (21, .bool false)] (by kernel_rfl) rfl ?_
 refine RL.k rfl hK6 (fun _ _ h => h) ?_
 refine RG.no rfl ?_
 refine RG.skipK hK4 (fun _ _ h => h) ?_
 refine RG.seqK fun K7 hK8 => ?_
 refine RG.region (by kernel_rfl) ?_
 obtain ⟨p9, w10, r11, H12⟩ := H.alloc (P := Try.prog) 31 [lu 0] (by kernel_rfl)
 refine RL.sem (j := 1) (r11) [0, 1, 5] [(0, pt p 0), (1, li 8), (5, pt p9 0)] (by kernel_rfl) (by kernel_rfl) rfl ?_
 refine RL.k rfl hK8 (fun _ _ h => h) ?_
 refine RG.seqK fun K13 hK14 => ?_
 refine RG.seqK fun K15 hK16 => ?_
 refine RG.region (by kernel_rfl) ?_
 refine RL.run (j := 2) 2 [5, 24, 25] [(5, pt p9 0), (24, pt p 0), (25, li 8)] (by kernel_rfl) rfl ?_
 refine RL.call (j := 3) (Raw_calls (ids [.blk p [.slice A k cap, .bool wr] 107, .row R N C 5 1 (by8 whole)]) p A k cap wr R N C whole rest 8 w10 (Hp.startL (A := [.blk p [.slice A k cap, .bool wr] 107, .row R N C 5 1 (by8 whole)]) (B := [.blk p9 [lu 0] 31]) H12) hcut (hk) (hcap) (hN)) (by kernel_rfl) rfl (fun e_ w23 hR => ?_)
 obtain ⟨A17, c18, A19, c20, rfl, H25, hC21, hL22⟩ := hR
 have H24 : Hp w S [.blk p [.slice A17 ((rR wr rest 8).length) c18, .bool (!(rOK wr rest 8))] 107, .row R N C 5 1 (by8 whole), .row A19 ((rV wr rest 8).length) c20 5 1 (by8 (rV wr rest 8)), .blk p9 [lu 0] 31] w23 := Hp.callL (A := [.blk p [.slice A k cap, .bool wr] 107, .row R N C 5 1 (by8 whole)]) (B := [.blk p9 [lu 0] 31]) H12 H25
 refine ⟨_, rfl, [5, 26], [(5, pt p9 0), (26, .slice A19 ((rV wr rest 8).length) c20)], by kernel_rfl, ?_⟩
 refine RL.call (j := 4) (Backward_calls A19 ((rV wr rest 8).length) c20 w23) (by kernel_rfl) rfl (fun e_ w29 hR => ?_)
 obtain ⟨B26, rfl, H28⟩ := hR
 have H27 : Hp w S [.blk p [.slice A17 ((rR wr rest 8).length) c18, .bool (!(rOK wr rest 8))] 107, .row R N C 5 1 (by8 whole), .row A19 ((rV wr rest 8).length) c20 5 1 (by8 (rV wr rest 8)), .blk p9 [lu 0] 31, .blk B26 [.slice A19 ((rV wr rest 8).length) c20] 38] w29 := H24.callNew H28
 refine ⟨_, rfl, [5, 27], [(5, pt p9 0), (27, .func (.func 73) #[] #[pt B26 0])], by kernel_rfl, ?_⟩
 refine RL.k rfl hK16 (fun _ _ h => h) ?_
 refine RG.block ?_
 refine RG.fit [5, 27] (M' := [(5, pt p9 0), (27, .func (.func 73) #[] #[pt B26 0])]) (by kernel_rfl) ?_
 refine RG.range H27 (gf := 73) (lb := #[pt B26 0]) rfl (enters_of Try.func73 (by kernel_rfl) rfl) (Xt := Nat) (fun k s => s = getB ((rV wr rest 8).drop ((rV wr rest 8).length - k))) (fun k s => [.blk p [.slice A17 ((rR wr rest 8).length) c18, .bool (!(rOK wr rest 8))] 107, .row R N C 5 1 (by8 whole), .row A19 ((rV wr rest 8).length) c20 5 1 (by8 (rV wr rest 8)), .blk p9 [vu s] 31, .blk B26 [.slice A19 ((rV wr rest 8).length) c20] 38]) (fun s => False) (fun s => []) (N := (rV wr rest 8).length) (enc := fun k => #[vi ((rV wr rest 8).length - 1 - k), lb (((rV wr rest 8).getD ((rV wr rest 8).length - 1 - k) 0).toNat : Int)]) (Backward_iter (rV wr rest 8) (Nat.le_trans (show (rV wr rest 8).length ≤ 8 from (Nat.le_trans (rV_le wr rest 8) (by decide))) (by decide)) A19 c20 B26) (fun _ => rfl) 0 (by rw [Nat.sub_zero, List.drop_length]; rfl) rfl (fun k s E W hx HW => ⟨(HW.blkAt 4 rfl).cell 0, HW.rdRow 2 rfl⟩) (fun k => [(29, lb (((rV wr rest 8).getD ((rV wr rest 8).length - 1 - k) 0).toNat : Int)), (28, vi ((rV wr rest 8).length - 1 - k)), (5, pt p9 0), (27, .func (.func 73) #[] #[pt B26 0])]) (fun _ => rfl) ?_ ?_ ?_
 · skip
   rintro D33 l34 oR35 oB36 k s w30 K37 hk38 hx31 H32 hK39
   have hs1 := hx31
   have hk9 := hk38
   have hVl : (rV wr rest 8).length ≤ 8 := (Nat.le_trans (rV_le wr rest 8) (by decide))
   have hs56 : s < 72057594037927936 := by rw [hs1]; exact acc_lt (by omega)
   have hxb := UInt8.toNat_lt ((rV wr rest 8).getD ((rV wr rest 8).length - 1 - k) 0)
   refine RG.region (by kernel_rfl) ?_
   refine RL.run (j := 1) 1 [5, 7] [(5, pt p9 0), (7, lb (((rV wr rest 8).getD ((rV wr rest 8).length - 1 - k) 0).toNat : Int))] (by kernel_rfl) rfl ?_
   refine RL.done rfl (fun F_ hF_ hM_ => hK39 F_ _ [.blk p [.slice A17 ((rR wr rest 8).length) c18, .bool (!(rOK wr rest 8))] 107, .row R N C 5 1 (by8 whole), .row A19 ((rV wr rest 8).length) c20 5 1 (by8 (rV wr rest 8)), .blk p9 [vu s] 31, .blk B26 [.slice A19 ((rV wr rest 8).length) c20] 38] _ hF_ hM_ H32 ?_)
   intro w40 H41
   refine RG.block ?_
   refine RG.region (by kernel_rfl) ?_
   refine RL.sem (j := 1) (H41.ld (o := 0) (ty := 31) (v := vu s) 3 rfl (by kernel_rfl) rfl) [5, 7, 30] [(5, pt p9 0), (7, lb (((rV wr rest 8).getD ((rV wr rest 8).length - 1 - k) 0).toNat : Int)), (30, vu s)] (by kernel_rfl) (by kernel_rfl) rfl ?_
   refine RL.run (j := 5) 4 [5, 34] [(5, pt p9 0), (34, lu (Go.bits .or .u64 (IntKind.u64.wrap ((s : Int) * 2 ^ 8)) (IntKind.u64.wrap (((rV wr rest 8).getD ((rV wr rest 8).length - 1 - k) 0).toNat : Int))))] (by kernel_rfl) rfl ?_
   have e42 : (IntKind.u64.wrap ((s : Int) * 2 ^ 8)) = ((s * 2 ^ 8 : Nat) : Int) := by rw [n_shl, Nat.mod_eq_of_lt (by simp only [K]; omega)]
   have e43 : (IntKind.u64.wrap (((rV wr rest 8).getD ((rV wr rest 8).length - 1 - k) 0).toNat : Int)) = (((rV wr rest 8).getD ((rV wr rest 8).length - 1 - k) 0).toNat : Int) := u8_up_u64 _
   have e44 : (Go.bits .or .u64 ((s * 2 ^ 8 : Nat) : Int) (((rV wr rest 8).getD ((rV wr rest 8).length - 1 - k) 0).toNat : Int)) = ((((rV wr rest 8).getD ((rV wr rest 8).length - 1 - k) 0).toNat + 256 * s : Nat) : Int) := or_low hs56 hxb
   rw [e42, e43, e44]
   clear e42 e43 e44
   obtain ⟨w45, r46, H47⟩ := H41.st (P := Try.prog) (o := 0) (ty := 31) (v := vu (((rV wr rest 8).getD ((rV wr rest 8).length - 1 - k) 0).toNat + 256 * s)) 3 rfl (by kernel_rfl) (by simp) rfl
   refine RL.semU (j := 6) r46 [] [] (by kernel_rfl) rfl rfl rfl ?_
   exact RL.done rfl (fun F_ hF_ hM_ => ⟨((((rV wr rest 8).getD ((rV wr rest 8).length - 1 - k) 0)).toNat + 256 * s), (by rw [hs1]; exact acc_step hk9), H47⟩)
 · skip
   rintro D51 s w48 hx49 H50
   refine RG.kk hK14 (fun _ _ h => h) ?_
   rw [Nat.sub_self, List.drop_zero] at hx49
   have hs1 := hx49
   refine RG.seqK fun K52 hK53 => ?_
   refine RG.region (by kernel_rfl) ?_
   refine RL.sem (j := 1) (H50.ld (o := 0) (ty := 31) (v := vu s) 3 rfl (by kernel_rfl) rfl) [35] [(35, vu s)] (by kernel_rfl) (by kernel_rfl) rfl ?_
   refine RL.run (j := 2) 1 [4] [(4, vu s)] (by kernel_rfl) rfl ?_
   refine RL.k rfl hK53 (fun _ _ h => h) ?_
   refine RG.ret ?_
   have hD54 := H50.objAt 5 rfl
   have H55 : Hp w S [.blk p [.slice A17 ((rR wr rest 8).length) c18, .bool (!(rOK wr rest 8))] 107, .row R N C 5 1 (by8 whole), .row A19 ((rV wr rest 8).length) c20 5 1 (by8 (rV wr rest 8)), .blk p9 [vu s] 31, .blk B26 [.slice A19 ((rV wr rest 8).length) c20] 38, .obj D51 (.deferred none)] (World.putObj w48 D51 (.deferred none)) := H50.putObj 5 (.deferred none) rfl
   intro F_ hF_ hM_
   refine hRet _ _ (postK_1 hD54 rfl (RV.tmp rfl) ?_ F_ hF_ hM_)
   have H56 : Hp w S [.blk p [.slice A17 ((rR wr rest 8).length) c18, .bool (!(rOK wr rest 8))] 107, .row R N C 5 1 (by8 whole)] (World.putObj w48 D51 (.deferred none)) := H55.sub (List.Sublist.cons_cons _ (List.Sublist.cons_cons _ (List.Sublist.cons _ (List.Sublist.cons _ (List.Sublist.cons _ (List.Sublist.cons _ (List.Sublist.slnil)))))))
   rw [← hs1]
   exact ⟨_, _, rfl, H56, hC21, hL22⟩
 · skip
   rintro D60 s w57 hx58 H59
   exact hx58.elim
theorem End_calls (S : List Nat) (p : Nat) (A : Option Addr) (k cap : Nat) (wr : Bool) (R : Option Addr) (N C : Nat) (whole rest : List UInt8) (w : World) (h0 : Hp w S [.blk p [.slice A k cap, .bool wr] 107, .row R N C 5 1 (by8 whole)] w) (hk : k = rest.length) : Calls Try.prog 41 #[pt p 0] w fun e w' => e = .returned (.bool (!wr && (rest.length == 0))) ∧ Hp w S [.blk p [.slice A k cap, .bool wr] 107, .row R N C 5 1 (by8 whole)] w' := by
 refine calls_G (args := [pt p 0]) Try.func41 rfl Try.ntmps41 rfl ?_
 intro Q0 hRet hNor hPan
 have H := h0
 refine G.sr fun K1 hK2 => ?_
 refine GL.r 1 1 [(0, pt p 0)] ?_
 refine GL.q hK2 ?_
 refine G.sr fun K3 hK4 => ?_
 refine GL.r 1 1 [(0, pt p 0), (3, pt p 0)] ?_
 refine GL.call (j := 2) (Wrong_calls (ids [.blk p [.slice A k cap, .bool wr] 107, .row R N C 5 1 (by8 whole)]) p A k cap wr R N C whole w (Hp.startL (A := [.blk p [.slice A k cap, .bool wr] 107, .row R N C 5 1 (by8 whole)]) (B := []) H)) (by kernel_rfl) rfl (fun e_ w5 hR => ?_)
 obtain ⟨rfl, H7⟩ := hR
 have H6 : Hp w S [.blk p [.slice A k cap, .bool wr] 107, .row R N C 5 1 (by8 whole)] w5 := Hp.callL (A := [.blk p [.slice A k cap, .bool wr] 107, .row R N C 5 1 (by8 whole)]) (B := []) H H7
 refine ⟨_, rfl, [0, 4], [(0, pt p 0), (4, .bool wr)], by kernel_rfl, ?_⟩
 refine GL.r 4 2 [(0, pt p 0), (6, .bool (!wr))] ?_
 rcases (Bool.eq_false_or_eq_true wr).symm with hb8 | hb8
 · skip
   refine GL.eq (M' := [(0, pt p 0), (6, .bool true)]) (by first | (rw [hb8]; done) | (rw [hb8]; rfl)) ?_
   refine GL.r 7 3 [(6, .bool true), (9, pt p 0)] ?_
   refine GL.s 8 (H6.ld (o := 0) (ty := 38) (v := .slice A k cap) 0 rfl (by kernel_rfl) rfl) [(6, .bool true), (10, .slice A k cap)] ?_
   refine GL.r 12 4 [(2, .bool ((k : Int) == 0))] ?_
   refine GL.q hK4 ?_
   refine G.ret fun F_ hF_ hM_ => hRet _ _ (bodyPost_1 rfl (RV.tmp rfl) ?_ F_ hF_ hM_)
   have hwr : wr = false := by assumption
   have e0 : (((k : Int) == 0) : Bool) = (!wr && (rest.length == 0)) := by
     rw [hwr]
     show _ = (rest.length == 0)
     rw [Bool.eq_iff_iff]
     simp only [beq_iff_eq]
     omega
   rw [e0]
   exact ⟨rfl, H6⟩
 · skip
   refine GL.eq (M' := [(0, pt p 0), (6, .bool false)]) (by first | (rw [hb8]; done) | (rw [hb8]; rfl)) ?_
   refine GL.r 12 8 [(2, .bool false)] ?_
   refine GL.q hK4 ?_
   refine G.ret fun F_ hF_ hM_ => hRet _ _ (bodyPost_1 rfl (RV.tmp rfl) ?_ F_ hF_ hM_)
   have hwr : wr = true := by assumption
   have e0 : (false : Bool) = (!wr && (rest.length == 0)) := by
     rw [hwr]
     rfl
   rw [e0]
   exact ⟨rfl, H6⟩
end Go.Proofs.Ytcedmbdahbdmaaa
set_option maxRecDepth 100000
namespace Go.Proofs.Ytcedmbdahbdmaaa
open Go.RowKit
theorem CountSize_calls (x : Nat) (w : World) : Calls Try.prog 60 #[.int .u64 (x : Int)] w fun e w' => e = .returned (.int .i64 ((cntSz x : Nat) : Int)) ∧ Hp w [] [] w' := by
 refine calls_G (args := [vu x]) Try.func60 rfl Try.ntmps60 rfl ?_
 intro Q0 hRet hNor hPan
 have H := Hp.start w
 refine G.sr fun K1 hK2 => ?_
 refine GL.r 1 1 [(0, vu x)] ?_
 refine GL.q hK2 ?_
 refine G.seqK fun K3 hK4 => ?_
 refine G.block ?_
 refine G.sr fun K5 hK6 => ?_
 refine GL.r 3 3 [(0, vu x), (3, .bool (decide ((x : Int) < 253)))] ?_
 refine GL.q hK6 ?_
 cases hb7 : (decide ((x : Int) < 253))
 · skip
   have hb7f := of_decide_eq_false hb7
   refine G.no rfl ?_
   refine G.sr fun K8 hK9 => ?_
   refine GL.r 3 3 [(0, vu x), (6, .bool (decide ((x : Int) < 65536)))] ?_
   refine GL.q hK9 ?_
   cases hb10 : (decide ((x : Int) < 65536))
   · skip
     have hb10f := of_decide_eq_false hb10
     refine G.no rfl ?_
     refine G.sr fun K11 hK12 => ?_
     refine GL.r 3 3 [(9, .bool (decide ((x : Int) < 4294967296)))] ?_
     refine GL.q hK12 ?_
     cases hb13 : (decide ((x : Int) < 4294967296))
     · skip
       have hb13f := of_decide_eq_false hb13
       refine G.no rfl ?_
       refine G.skipK hK4 (fun _ _ h => h) ?_
       refine G.sr fun K14 hK15 => ?_
       refine GL.r 1 1 [(2, li 9)] ?_
       refine GL.q hK15 ?_
       refine G.ret fun F_ hF_ hM_ => hRet _ _ (bodyPost_1 rfl (RV.tmp rfl) ?_ F_ hF_ hM_)
       have e0 : cntSz x = 9 := by unfold cntSz; (repeat' split) <;> omega
       rw [e0]
       exact ⟨rfl, H.sub (List.nil_sublist _)⟩
     · skip
       have hb13f := of_decide_eq_true hb13
       refine G.yes rfl ?_
       refine G.sr fun K16 hK17 => ?_
       refine GL.r 1 1 [(2, li 5)] ?_
       refine GL.q hK17 ?_
       refine G.ret fun F_ hF_ hM_ => hRet _ _ (bodyPost_1 rfl (RV.tmp rfl) ?_ F_ hF_ hM_)
       have e0 : cntSz x = 5 := by unfold cntSz; (repeat' split) <;> omega
       rw [e0]
       exact ⟨rfl, H.sub (List.nil_sublist _)⟩
   · skip
     have hb10f := of_decide_eq_true hb10
     refine G.yes rfl ?_
     refine G.sr fun K18 hK19 => ?_
     refine GL.r 1 1 [(2, li 3)] ?_
     refine GL.q hK19 ?_
     refine G.ret fun F_ hF_ hM_ => hRet _ _ (bodyPost_1 rfl (RV.tmp rfl) ?_ F_ hF_ hM_)
     have e0 : cntSz x = 3 := by unfold cntSz; (repeat' split) <;> omega
     rw [e0]
     exact ⟨rfl, H.sub (List.nil_sublist _)⟩
 · skip
   have hb7f := of_decide_eq_true hb7
   refine G.yes rfl ?_
   refine G.sr fun K20 hK21 => ?_
   refine GL.r 1 1 [(2, li 1)] ?_
   refine GL.q hK21 ?_
   refine G.ret fun F_ hF_ hM_ => hRet _ _ (bodyPost_1 rfl (RV.tmp rfl) ?_ F_ hF_ hM_)
   have e0 : cntSz x = 1 := by unfold cntSz; (repeat' split) <;> omega
   rw [e0]
   exact ⟨rfl, H.sub (List.nil_sublist _)⟩
theorem WCount_calls (S : List Nat) (p : Nat) (A : Option Addr) (n c : Nat) (bs : List UInt8) (x : Nat) (w : World) (h0 : Hp w S [.blk p [.slice A n c] 114, .row A n c 5 1 (by8 bs)] w) (hn : n ≤ 900000) : Calls Try.prog 63 #[pt p 0, .int .u64 (x : Int)] w fun e w' => ∃ A c, e = .returned (.tuple #[]) ∧ Hp w S [.blk p [.slice A (n + cntSz x) c] 114, .row A (n + cntSz x) c 5 1 (by8 (bs ++ cnt x))] w' := by
 have hc9 := cntSz_le x
 refine calls_G (args := [pt p 0, vu x]) Try.func63 rfl Try.ntmps63 rfl ?_
 intro Q0 hRet hNor hPan
 have H := h0
 refine G.sr fun K1 hK2 => ?_
 refine GL.r 1 1 [(0, pt p 0), (1, vu x), (4, vu x)] ?_
 refine GL.call (j := 2) (CountSize_calls x w) (by kernel_rfl) rfl (fun e_ w3 hR => ?_)
 obtain ⟨rfl, H5⟩ := hR
 have H4 : Hp w S [.blk p [.slice A n c] 114, .row A n c 5 1 (by8 bs)] w3 := H.callNil H5
 refine ⟨_, rfl, [0, 1, 5], [(0, pt p 0), (1, vu x), (5, vi (cntSz x))], by kernel_rfl, ?_⟩
 refine GL.q hK2 ?_
 refine G.block ?_
 refine G.sr fun K6 hK7 => ?_
 refine GL.r 2 2 [(0, pt p 0), (1, vu x), (5, vi (cntSz x)), (11, .bool ((((cntSz x) : Nat) : Int) == 1))] ?_
 refine GL.q hK7 ?_
 cases hb8 : ((((cntSz x) : Nat) : Int) == 1)
 · skip
   have hb8f := ne_of_beq_false hb8
   refine G.no rfl ?_
   refine G.sr fun K9 hK10 => ?_
   refine GL.r 2 2 [(0, pt p 0), (1, vu x), (5, vi (cntSz x)), (16, .bool ((((cntSz x) : Nat) : Int) == 3))] ?_
   refine GL.q hK10 ?_
   cases hb11 : ((((cntSz x) : Nat) : Int) == 3)
   · skip
     have hb11f := ne_of_beq_false hb11
     refine G.no rfl ?_
     refine G.sr fun K12 hK13 => ?_
     refine GL.r 2 2 [(0, pt p 0), (1, vu x), (23, .bool ((((cntSz x) : Nat) : Int) == 5))] ?_
     refine GL.q hK13 ?_
     cases hb14 : ((((cntSz x) : Nat) : Int) == 5)
     · skip
       have hb14f := ne_of_beq_false hb14
       refine G.no rfl ?_
       refine G.sr fun K15 hK16 => ?_
       refine GL.r 1 1 [(0, pt p 0), (1, vu x), (6, pt p 0)] ?_
       refine GL.call (j := 2) (Put1_calls (ids [.blk p [.slice A n c] 114, .row A n c 5 1 (by8 bs)]) p A n c bs 255 w3 (Hp.startL (A := [.blk p [.slice A n c] 114, .row A n c 5 1 (by8 bs)]) (B := []) H4) (by omega)) (by kernel_rfl) rfl (fun e_ w19 hR => ?_)
       obtain ⟨A17, c18, rfl, H21⟩ := hR
       have H20 : Hp w S [.blk p [.slice A17 (n + 1) c18] 114, .row A17 (n + 1) c18 5 1 (by8 (bs ++ (putB 255 1)))] w19 := Hp.callL (A := [.blk p [.slice A n c] 114, .row A n c 5 1 (by8 bs)]) (B := []) H4 H21
       refine ⟨_, rfl, [0, 1], [(0, pt p 0), (1, vu x)], by kernel_rfl, ?_⟩
       refine GL.q hK16 ?_
       refine G.region ?_
       refine GL.r 2 2 [(8, pt p 0), (9, vu x)] ?_
       refine GL.call (j := 3) (Put8_calls (ids [.blk p [.slice A17 (n + 1) c18] 114, .row A17 (n + 1) c18 5 1 (by8 (bs ++ (putB 255 1)))]) p A17 (n + 1) c18 (bs ++ (putB 255 1)) x w19 (Hp.startL (A := [.blk p [.slice A17 (n + 1) c18] 114, .row A17 (n + 1) c18 5 1 (by8 (bs ++ (putB 255 1)))]) (B := []) H20) (by omega)) (by kernel_rfl) rfl (fun e_ w24 hR => ?_)
       obtain ⟨A22, c23, rfl, H26⟩ := hR
       have H25 : Hp w S [.blk p [.slice A22 ((n + 1) + 8) c23] 114, .row A22 ((n + 1) + 8) c23 5 1 (by8 ((bs ++ (putB 255 1)) ++ (putB x 8)))] w24 := Hp.callL (A := [.blk p [.slice A17 (n + 1) c18] 114, .row A17 (n + 1) c18 5 1 (by8 (bs ++ (putB 255 1)))]) (B := []) H20 H26
       refine ⟨_, rfl, [], [], by kernel_rfl, ?_⟩
       refine GL.done rfl ?_
       intro F_ hF_ hM_
       refine hNor _ _ (bodyPost_0 rfl  ?_ F_ hF_ hM_)
       have e0 : cntSz x = 9 ∧ cnt x = putB 255 1 ++ putB x 8 := by rcases cnt_cases x with ⟨_, a, b⟩ | ⟨_, _, a, b⟩ | ⟨_, _, a, b⟩ | ⟨_, a, b⟩ <;> first | exact ⟨a, b⟩ | (exfalso; omega)
       have HF := H25
       rw [List.append_assoc] at HF
       rw [e0.1, e0.2]
       exact ⟨_, _, rfl, HF⟩
     · skip
       have hb14f := eq_of_beq hb14
       refine G.yes rfl ?_
       refine G.sr fun K27 hK28 => ?_
       refine GL.r 1 1 [(0, pt p 0), (1, vu x), (25, pt p 0)] ?_
       refine GL.call (j := 2) (Put1_calls (ids [.blk p [.slice A n c] 114, .row A n c 5 1 (by8 bs)]) p A n c bs 254 w3 (Hp.startL (A := [.blk p [.slice A n c] 114, .row A n c 5 1 (by8 bs)]) (B := []) H4) (by omega)) (by kernel_rfl) rfl (fun e_ w31 hR => ?_)
       obtain ⟨A29, c30, rfl, H33⟩ := hR
       have H32 : Hp w S [.blk p [.slice A29 (n + 1) c30] 114, .row A29 (n + 1) c30 5 1 (by8 (bs ++ (putB 254 1)))] w31 := Hp.callL (A := [.blk p [.slice A n c] 114, .row A n c 5 1 (by8 bs)]) (B := []) H4 H33
       refine ⟨_, rfl, [0, 1], [(0, pt p 0), (1, vu x)], by kernel_rfl, ?_⟩
       refine GL.q hK28 ?_
       refine G.region ?_
       refine GL.r 2 2 [(27, pt p 0), (28, vu x)] ?_
       refine GL.call (j := 3) (Put4_calls (ids [.blk p [.slice A29 (n + 1) c30] 114, .row A29 (n + 1) c30 5 1 (by8 (bs ++ (putB 254 1)))]) p A29 (n + 1) c30 (bs ++ (putB 254 1)) x w31 (Hp.startL (A := [.blk p [.slice A29 (n + 1) c30] 114, .row A29 (n + 1) c30 5 1 (by8 (bs ++ (putB 254 1)))]) (B := []) H32) (by omega)) (by kernel_rfl) rfl (fun e_ w36 hR => ?_)
       obtain ⟨A34, c35, rfl, H38⟩ := hR
       have H37 : Hp w S [.blk p [.slice A34 ((n + 1) + 4) c35] 114, .row A34 ((n + 1) + 4) c35 5 1 (by8 ((bs ++ (putB 254 1)) ++ (putB x 4)))] w36 := Hp.callL (A := [.blk p [.slice A29 (n + 1) c30] 114, .row A29 (n + 1) c30 5 1 (by8 (bs ++ (putB 254 1)))]) (B := []) H32 H38
       refine ⟨_, rfl, [], [], by kernel_rfl, ?_⟩
       refine GL.done rfl ?_
       intro F_ hF_ hM_
       refine hNor _ _ (bodyPost_0 rfl  ?_ F_ hF_ hM_)
       have e0 : cntSz x = 5 ∧ cnt x = putB 254 1 ++ putB x 4 := by rcases cnt_cases x with ⟨_, a, b⟩ | ⟨_, _, a, b⟩ | ⟨_, _, a, b⟩ | ⟨_, a, b⟩ <;> first | exact ⟨a, b⟩ | (exfalso; omega)
       have HF := H37
       rw [List.append_assoc] at HF
       rw [e0.1, e0.2]
       exact ⟨_, _, rfl, HF⟩
   · skip
     have hb11f := eq_of_beq hb11
     refine G.yes rfl ?_
     refine G.sr fun K39 hK40 => ?_
     refine GL.r 1 1 [(0, pt p 0), (1, vu x), (18, pt p 0)] ?_
     refine GL.call (j := 2) (Put1_calls (ids [.blk p [.slice A n c] 114, .row A n c 5 1 (by8 bs)]) p A n c bs 253 w3 (Hp.startL (A := [.blk p [.slice A n c] 114, .row A n c 5 1 (by8 bs)]) (B := []) H4) (by omega)) (by kernel_rfl) rfl (fun e_ w43 hR => ?_)
     obtain ⟨A41, c42, rfl, H45⟩ := hR
     have H44 : Hp w S [.blk p [.slice A41 (n + 1) c42] 114, .row A41 (n + 1) c42 5 1 (by8 (bs ++ (putB 253 1)))] w43 := Hp.callL (A := [.blk p [.slice A n c] 114, .row A n c 5 1 (by8 bs)]) (B := []) H4 H45
     refine ⟨_, rfl, [0, 1], [(0, pt p 0), (1, vu x)], by kernel_rfl, ?_⟩
     refine GL.q hK40 ?_
     refine G.region ?_
     refine GL.r 2 2 [(20, pt p 0), (21, vu x)] ?_
     refine GL.call (j := 3) (Put2_calls (ids [.blk p [.slice A41 (n + 1) c42] 114, .row A41 (n + 1) c42 5 1 (by8 (bs ++ (putB 253 1)))]) p A41 (n + 1) c42 (bs ++ (putB 253 1)) x w43 (Hp.startL (A := [.blk p [.slice A41 (n + 1) c42] 114, .row A41 (n + 1) c42 5 1 (by8 (bs ++ (putB 253 1)))]) (B := []) H44) (by omega)) (by kernel_rfl) rfl (fun e_ w48 hR => ?_)
     obtain ⟨A46, c47, rfl, H50⟩ := hR
     have H49 : Hp w S [.blk p [.slice A46 ((n + 1) + 2) c47] 114, .row A46 ((n + 1) + 2) c47 5 1 (by8 ((bs ++ (putB 253 1)) ++ (putB x 2)))] w48 := Hp.callL (A := [.blk p [.slice A41 (n + 1) c42] 114, .row A41 (n + 1) c42 5 1 (by8 (bs ++ (putB 253 1)))]) (B := []) H44 H50
     refine ⟨_, rfl, [], [], by kernel_rfl, ?_⟩
     refine GL.done rfl ?_
     intro F_ hF_ hM_
     refine hNor _ _ (bodyPost_0 rfl  ?_ F_ hF_ hM_)
     have e0 : cntSz x = 3 ∧ cnt x = putB 253 1 ++ putB x 2 := by rcases cnt_cases x with ⟨_, a, b⟩ | ⟨_, _, a, b⟩ | ⟨_, _, a, b⟩ | ⟨_, a, b⟩ <;> first | exact ⟨a, b⟩ | (exfalso; omega)
     have HF := H49
     rw [List.append_assoc] at HF
     rw [e0.1, e0.2]
     exact ⟨_, _, rfl, HF⟩
 · skip
   have hb8f := eq_of_beq hb8
   refine G.yes rfl ?_
   refine G.region ?_
   refine GL.r 2 2 [(13, pt p 0), (14, vu x)] ?_
   refine GL.call (j := 3) (Put1_calls (ids [.blk p [.slice A n c] 114, .row A n c 5 1 (by8 bs)]) p A n c bs x w3 (Hp.startL (A := [.blk p [.slice A n c] 114, .row A n c 5 1 (by8 bs)]) (B := []) H4) (by omega)) (by kernel_rfl) rfl (fun e_ w53 hR => ?_)
   obtain ⟨A51, c52, rfl, H55⟩ := hR
   have H54 : Hp w S [.blk p [.slice A51 (n + 1) c52] 114, .row A51 (n + 1) c52 5 1 (by8 (bs ++ (putB x 1)))] w53 := Hp.callL (A := [.blk p [.slice A n c] 114, .row A n c 5 1 (by8 bs)]) (B := []) H4 H55
   refine ⟨_, rfl, [], [], by kernel_rfl, ?_⟩
   refine GL.done rfl ?_
   intro F_ hF_ hM_
   refine hNor _ _ (bodyPost_0 rfl  ?_ F_ hF_ hM_)
   have e0 : cntSz x = 1 ∧ cnt x = putB x 1 := by rcases cnt_cases x with ⟨_, a, b⟩ | ⟨_, _, a, b⟩ | ⟨_, _, a, b⟩ | ⟨_, a, b⟩ <;> first | exact ⟨a, b⟩ | (exfalso; omega)
   have HF := H54
   rw [e0.1, e0.2]
   exact ⟨_, _, rfl, HF⟩
theorem WRaw_calls (S : List Nat) (p : Nat) (A : Option Addr) (n c : Nat) (bs : List UInt8) (B : Option Addr) (m d : Nat) (ys : List UInt8) (w : World) (h0 : Hp w S [.blk p [.slice A n c] 114, .row A n c 5 1 (by8 bs)] w) (hn : n ≤ 1000000) (hx : RdO w S B (by8 ys)) (hm : m = ys.length) (hmb : m ≤ 100000) : Calls Try.prog 64 #[pt p 0, .slice B m d] w fun e w' => ∃ A c, e = .returned (.tuple #[]) ∧ Hp w S [.blk p [.slice A (n + m) c] 114, .row A (n + m) c 5 1 (by8 (bs ++ ys))] w' := by
 refine calls_G (args := [pt p 0, .slice B m d]) Try.func64 rfl Try.ntmps64 rfl ?_
 intro Q0 hRet hNor hPan
 have H := h0
 refine G.sr fun K1 hK2 => ?_
 refine GL.r 2 2 [(0, pt p 0), (1, .slice B m d), (5, .bool true)] ?_
 refine GL.q hK2 ?_
 refine G.yes rfl ?_
 refine G.region ?_
 refine GL.r 4 4 [(1, .slice B m d), (6, pt p 0), (9, pt p 0)] ?_
 refine GL.s 5 (H.ld (o := 0) (ty := 38) (v := .slice A n c) 0 rfl (by kernel_rfl) rfl) [(1, .slice B m d), (6, pt p 0), (10, .slice A n c)] ?_
 refine GL.r 6 1 [(6, pt p 0), (10, .slice A n c), (11, .slice B m d)] ?_
 obtain ⟨A3, c4, w5, r6, H7⟩ := H.append (P := Try.prog) (e := 5) (sz := 1) (by_ := 1) (n := n) (c := c) (m := m) (d := d) (t := 38) (ty := 38) (xs := by8 bs) (news := by8 ys) 1 rfl (by kernel_rfl) (hx.hp H) (by first | (simp [by8_length]; done) | (rw [by8_length]; omega) | (rw [by8_length, putB_length])) (by8_one _) (by omega) (by simp only [maxLen]; omega)
 rw [← by8_append] at H7
 refine GL.s 7 (r6) [(6, pt p 0), (12, .slice A3 (n + m) c4)] ?_
 refine GL.r 9 2 [(12, .slice A3 (n + m) c4), (14, pt p 0)] ?_
 obtain ⟨w8, r9, H10⟩ := H7.st (P := Try.prog) (o := 0) (ty := 38) (v := .slice A3 (n + m) c4) 0 rfl (by kernel_rfl) (by simp) rfl
 refine GL.u 10 r9 [] ?_
 refine GL.done rfl ?_
 intro F_ hF_ hM_
 refine hNor _ _ (bodyPost_0 rfl  ?_ F_ hF_ hM_)
 exact ⟨_, _, rfl, H10⟩
theorem WCounted_calls (S : List Nat) (p : Nat) (A : Option Addr) (n c : Nat) (bs : List UInt8) (B : Option Addr) (m d : Nat) (ys : List UInt8) (w : World) (h0 : Hp w S [.blk p [.slice A n c] 114, .row A n c 5 1 (by8 bs)] w) (hn : n ≤ 800000) (hx : RdO w S B (by8 ys)) (hm : m = ys.length) (hmb : m ≤ 100000) : Calls Try.prog 65 #[pt p 0, .slice B m d] w fun e w' => ∃ A c, e = .returned (.tuple #[]) ∧ Hp w S [.blk p [.slice A (n + (cntSz m + m)) c] 114, .row A (n + (cntSz m + m)) c 5 1 (by8 (bs ++ (cnt m ++ ys)))] w' := by
 refine calls_G (args := [pt p 0, .slice B m d]) Try.func65 rfl Try.ntmps65 rfl ?_
 intro Q0 hRet hNor hPan
 have H := h0
 refine G.sr fun K1 hK2 => ?_
 refine GL.r 4 4 [(0, pt p 0), (1, .slice B m d), (4, pt p 0), (7, lu (IntKind.u64.wrap (m : Int)))] ?_
 have e3 : (IntKind.u64.wrap (m : Int)) = (m : Int) := in_u64 (by omega)
 rw [e3]
 clear e3
 have hcA4 := cntSz_le m
 refine GL.call (j := 5) (WCount_calls (ids [.blk p [.slice A n c] 114, .row A n c 5 1 (by8 bs)]) p A n c bs m w (Hp.startL (A := [.blk p [.slice A n c] 114, .row A n c 5 1 (by8 bs)]) (B := []) H) (by omega)) (by kernel_rfl) rfl (fun e_ w6 hR => ?_)
 obtain ⟨A4, c5, rfl, H8⟩ := hR
 have H7 : Hp w S [.blk p [.slice A4 (n + cntSz m) c5] 114, .row A4 (n + cntSz m) c5 5 1 (by8 (bs ++ cnt m))] w6 := Hp.callL (A := [.blk p [.slice A n c] 114, .row A n c 5 1 (by8 bs)]) (B := []) H H8
 refine ⟨_, rfl, [0, 1], [(0, pt p 0), (1, .slice B m d)], by kernel_rfl, ?_⟩
 refine GL.q hK2 ?_
 refine G.region ?_
 refine GL.r 2 2 [(9, pt p 0), (10, .slice B m d)] ?_
 refine GL.call (j := 3) (WRaw_calls (ids [.blk p [.slice A4 (n + cntSz m) c5] 114, .row A4 (n + cntSz m) c5 5 1 (by8 (bs ++ cnt m))]) p A4 (n + cntSz m) c5 (bs ++ cnt m) B m d ys w6 (Hp.startL (A := [.blk p [.slice A4 (n + cntSz m) c5] 114, .row A4 (n + cntSz m) c5 5 1 (by8 (bs ++ cnt m))]) (B := []) H7) (by omega) (RdO.mid (A' := [.blk p [.slice A4 (n + cntSz m) c5] 114, .row A4 (n + cntSz m) c5 5 1 (by8 (bs ++ cnt m))]) (B' := []) hx H7) (by omega) (by omega)) (by kernel_rfl) rfl (fun e_ w11 hR => ?_)
 obtain ⟨A9, c10, rfl, H13⟩ := hR
 have H12 : Hp w S [.blk p [.slice A9 ((n + cntSz m) + m) c10] 114, .row A9 ((n + cntSz m) + m) c10 5 1 (by8 ((bs ++ cnt m) ++ ys))] w11 := Hp.callL (A := [.blk p [.slice A4 (n + cntSz m) c5] 114, .row A4 (n + cntSz m) c5 5 1 (by8 (bs ++ cnt m))]) (B := []) H7 H13
 refine ⟨_, rfl, [], [], by kernel_rfl, ?_⟩
 refine GL.done rfl ?_
 intro F_ hF_ hM_
 refine hNor _ _ (bodyPost_0 rfl  ?_ F_ hF_ hM_)
 have HF := H12
 rw [List.append_assoc, Nat.add_assoc] at HF
 exact ⟨_, _, rfl, HF⟩
end Go.Proofs.Ytcedmbdahbdmaaa
set_option maxRecDepth 100000
namespace Go.Proofs.Ytcedmbdahbdmaaa
open Go.RowKit
def txK (ins : List TIn) (outs : List TOut) : Nat := if ins.length = 0 ∨ outs.length = 0 then 16 else if 64 < ins.length ∨ 64 < outs.length ∨ (∃ x ∈ ins, 520 < x.kb.length) ∨ (∃ x ∈ outs, 520 < x.lb.length) then 3 else 0
theorem txK_zero {ins : List TIn} {outs : List TOut} : txK ins outs = 0 ↔ (ins.length ≠ 0 ∧ outs.length ≠ 0) ∧ ins.length ≤ 64 ∧ outs.length ≤ 64 ∧ (∀ x ∈ ins, x.kb.length ≤ 520) ∧ (∀ x ∈ outs, x.lb.length ≤ 520) := by
 unfold txK
 constructor
 · intro h
   split at h
   · cases h
   · split at h
     · cases h
     · rename_i h1 h2
       refine ⟨by omega, by omega, by omega, fun x hx => ?_, fun x hx => ?_⟩
       · exact Nat.not_lt.1 fun h => h2 (.inr (.inr (.inl ⟨x, hx, h⟩)))
       · exact Nat.not_lt.1 fun h => h2 (.inr (.inr (.inr ⟨x, hx, h⟩)))
 · rintro ⟨h1, h2, h3, h4, h5⟩
   rw [if_neg (by omega), if_neg]
   rintro (h | h | ⟨x, hx, h⟩ | ⟨x, hx, h⟩)
   · omega
   · omega
   · have := h4 x hx
     omega
   · have := h5 x hx
     omega
theorem check_calls (v : Nat) (ins : List TIn) (A : Option Addr) (ca : Nat) (outs : List TOut) (B : Option Addr) (cb : Nat) (lt : Nat) (w : World) (hv : v < 4294967296) (hlt : lt < 4294967296) (hIns : RdS w A (insC ins)) (hI : ∀ x ∈ ins, x.Ok w []) (hOuts : RdS w B (outsC outs)) (hO : ∀ x ∈ outs, x.Ok w []) (hni : ins.length ≤ maxLen) (hno : outs.length ≤ maxLen) : Calls Try.prog 47 #[.agg #[.int .u32 (v : Int), .slice A ins.length ca, .slice B outs.length cb, .int .u32 (lt : Int)]] w fun e w' => e = .returned (.int .i64 ((txK ins outs : Nat) : Int)) ∧ Hp w [] [] w' := by
 have hni_ : ins.length ≤ 9223372036854775807 := hni
 have hno_ : outs.length ≤ 9223372036854775807 := hno
 refine calls_G (args := [.agg #[vw v, .slice A ins.length ca, .slice B outs.length cb, vw lt]]) Try.func47 rfl Try.ntmps47 rfl ?_
 intro Q0 hRet hNor hPan
 have H := Hp.start w
 refine G.sr fun K1 hK2 => ?_
 obtain ⟨p3, w4, r5, H6⟩ := H.box (P := Try.prog) 26 [vw v, .slice A ins.length ca, .slice B outs.length cb, vw lt] (.agg #[vw v, .slice A ins.length ca, .slice B outs.length cb, vw lt]) rfl
 refine GL.s 1 (r5) [(1, pt p3 0)] ?_
 refine GL.r 2 1 [(1, pt p3 0)] ?_
 refine GL.q hK2 ?_
 refine G.seqK fun K7 hK8 => ?_
 refine G.sr fun K9 hK10 => ?_
 refine GL.r 1 1 [(1, pt p3 0), (7, pt p3 1)] ?_
 refine GL.s 2 (H6.ld (o := 1) (ty := 23) (v := .slice A ins.length ca) 0 rfl (by kernel_rfl) rfl) [(1, pt p3 0), (8, .slice A ins.length ca)] ?_
 refine GL.r 5 3 [(1, pt p3 0), (11, .bool ((ins.length : Int) == 0))] ?_
 cases hb11 : ((ins.length : Int) == 0)
 · skip
   have hb11f := ne_of_beq_false hb11
   refine GL.r 6 1 [(1, pt p3 0), (11, .bool false), (12, pt p3 2)] ?_
   refine GL.s 7 (H6.ld (o := 2) (ty := 24) (v := .slice B outs.length cb) 0 rfl (by kernel_rfl) rfl) [(1, pt p3 0), (11, .bool false), (13, .slice B outs.length cb)] ?_
   refine GL.r 10 3 [(1, pt p3 0), (16, .bool ((outs.length : Int) == 0))] ?_
   refine GL.q hK10 ?_
   cases hb12 : ((outs.length : Int) == 0)
   · skip
     have hb12f := ne_of_beq_false hb12
     refine G.no rfl ?_
     refine G.skipK hK8 (fun _ _ h => h) ?_
     refine G.seqK fun K13 hK14 => ?_
     refine G.sr fun K15 hK16 => ?_
     refine GL.r 1 1 [(1, pt p3 0), (17, pt p3 1)] ?_
     refine GL.s 2 (H6.ld (o := 1) (ty := 23) (v := .slice A ins.length ca) 0 rfl (by kernel_rfl) rfl) [(1, pt p3 0), (18, .slice A ins.length ca)] ?_
     refine GL.r 5 3 [(1, pt p3 0), (21, .bool (decide (64 < (ins.length : Int))))] ?_
     cases hb17 : (decide (64 < (ins.length : Int)))
     · skip
       have hb17f := of_decide_eq_false hb17
       refine GL.r 6 1 [(1, pt p3 0), (21, .bool false), (22, pt p3 2)] ?_
       refine GL.s 7 (H6.ld (o := 2) (ty := 24) (v := .slice B outs.length cb) 0 rfl (by kernel_rfl) rfl) [(1, pt p3 0), (21, .bool false), (23, .slice B outs.length cb)] ?_
       refine GL.r 10 3 [(1, pt p3 0), (26, .bool (decide (64 < (outs.length : Int))))] ?_
       refine GL.q hK16 ?_
       cases hb18 : (decide (64 < (outs.length : Int)))
       · skip
         have hb18f := of_decide_eq_false hb18
         refine G.no rfl ?_
         refine G.skipK hK14 (fun _ _ h => h) ?_
         refine G.seqK fun K19 hK20 => ?_
         refine G.sr fun K21 hK22 => ?_
         refine GL.r 1 1 [(1, pt p3 0), (27, pt p3 1)] ?_
         refine GL.s 2 (H6.ld (o := 1) (ty := 23) (v := .slice A ins.length ca) 0 rfl (by kernel_rfl) rfl) [(1, pt p3 0), (28, .slice A ins.length ca)] ?_
         refine GL.r 4 2 [(1, pt p3 0), (28, .slice A ins.length ca), (29, vi ins.length), (30, li 0)] ?_
         refine GL.q hK22 ?_
         refine G.block ?_
         refine G.fit [1, 28, 29, 30] (M' := [(1, pt p3 0), (28, .slice A ins.length ca), (29, vi ins.length), (30, li 0)]) (by kernel_rfl) ?_
         refine G.loop (X := Nat) (fun i => [(1, pt p3 0), (28, .slice A ins.length ca), (29, vi ins.length), (30, vi i)]) (fun i w_ => (i ≤ ins.length ∧ (∀ y ∈ ins.take i, y.kb.length ≤ 520)) ∧ Hp w [] [.blk p3 [vw v, .slice A ins.length ca, .slice B outs.length cb, vw lt] 26] w_) (fun i => ins.length - i) 0 [1, 28, 29, 30] (by kernel_rfl) ⟨⟨Nat.zero_le _, fun y hy => by simp at hy⟩, H6⟩ ?_
         rintro i w23 ⟨hi24, H25⟩
         refine G.eq (M' := [(1, pt p3 0), (28, .slice A ins.length ca), (29, vi ins.length), (30, vi i)]) rfl ?_
         obtain ⟨hil, hia⟩ := hi24
         refine G.sr fun K26 hK27 => ?_
         refine GL.r 1 1 [(1, pt p3 0), (28, .slice A ins.length ca), (29, vi ins.length), (30, vi i), (31, .bool (decide ((i : Int) < (ins.length : Int))))] ?_
         refine GL.q hK27 ?_
         refine G.seqK fun K28 hK29 => ?_
         cases hb30 : (decide ((i : Int) < (ins.length : Int)))
         · skip
           have hb30f := of_decide_eq_false hb30
           refine G.no rfl ?_
           refine G.exitK hK20 (fun _ _ h => h) ?_
           refine G.seqK fun K31 hK32 => ?_
           refine G.sr fun K33 hK34 => ?_
           refine GL.r 1 1 [(39, pt p3 2)] ?_
           refine GL.s 2 (H25.ld (o := 2) (ty := 24) (v := .slice B outs.length cb) 0 rfl (by kernel_rfl) rfl) [(40, .slice B outs.length cb)] ?_
           refine GL.r 4 2 [(40, .slice B outs.length cb), (41, vi outs.length), (42, li 0)] ?_
           refine GL.q hK34 ?_
           refine G.block ?_
           have hall1 := take_done hia (by omega)
           refine G.fit [40, 41, 42] (M' := [(40, .slice B outs.length cb), (41, vi outs.length), (42, li 0)]) (by kernel_rfl) ?_
           refine G.loop (X := Nat) (fun j => [(40, .slice B outs.length cb), (41, vi outs.length), (42, vi j)]) (fun j w_ => (j ≤ outs.length ∧ (∀ y ∈ outs.take j, y.lb.length ≤ 520)) ∧ Hp w [] [.blk p3 [vw v, .slice A ins.length ca, .slice B outs.length cb, vw lt] 26] w_) (fun j => outs.length - j) 0 [40, 41, 42] (by kernel_rfl) ⟨⟨Nat.zero_le _, fun y hy => by simp at hy⟩, H25⟩ ?_
           rintro j w35 ⟨hi36, H37⟩
           refine G.eq (M' := [(40, .slice B outs.length cb), (41, vi outs.length), (42, vi j)]) rfl ?_
           obtain ⟨hjl, hja⟩ := hi36
           refine G.sr fun K38 hK39 => ?_
           refine GL.r 1 1 [(40, .slice B outs.length cb), (41, vi outs.length), (42, vi j), (43, .bool (decide ((j : Int) < (outs.length : Int))))] ?_
           refine GL.q hK39 ?_
           refine G.seqK fun K40 hK41 => ?_
           cases hb42 : (decide ((j : Int) < (outs.length : Int)))
           · skip
             have hb42f := of_decide_eq_false hb42
             refine G.no rfl ?_
             refine G.exitK hK32 (fun _ _ h => h) ?_
             refine G.sr fun K43 hK44 => ?_
             refine GL.r 1 1 [(2, li 0)] ?_
             refine GL.q hK44 ?_
             refine G.ret fun F_ hF_ hM_ => hRet _ _ (bodyPost_1 rfl (RV.tmp rfl) ?_ F_ hF_ hM_)
             have e0 : txK ins outs = 0 := txK_zero.2 ⟨by omega, by omega, by omega, hall1, take_done hja (by omega)⟩
             rw [e0]
             exact ⟨rfl, H37.sub (List.nil_sublist _)⟩
           · skip
             have hb42f := of_decide_eq_true hb42
             refine G.yes rfl ?_
             refine G.skipK hK41 (fun _ _ h => h) ?_
             refine G.seqK fun K45 hK46 => ?_
             refine G.block ?_
             refine G.sr fun K47 hK48 => ?_
             obtain ⟨x49, hx50⟩ : ∃ x, outs[j]? = some x := ⟨_, List.getElem?_eq_getElem (by omega)⟩
             have hok51 := hO x49 (List.mem_of_getElem? hx50)
             refine GL.s 1 (run_idxRdN (P := Try.prog) (k := .i64) (t := 24) (sz := 2) (A := B) (len := outs.length) (cap := cb) (j := j) (by kernel_rfl) rfl (hOuts.hp H37) (outsC_length _) (by decide) (by omega)) [(40, .slice B outs.length cb), (41, vi outs.length), (42, vi j), (44, .pointer (Option.map (fun x => Addr.add x (j * 2)) B))] ?_
             refine GL.s 2 (run_ldRdA (P := Try.prog) (ty := 40) (A := B) (o := (j * 2)) (m := 2) (sub := [vu x49.pv, .slice x49.B x49.lb.length x49.lc]) (by kernel_rfl) (hOuts.hp H37) (outsC_cut hx50) (rfl) (by decide)) [(40, .slice B outs.length cb), (41, vi outs.length), (42, vi j), (45, .agg #[vu x49.pv, .slice x49.B x49.lb.length x49.lc])] ?_
             obtain ⟨p52, w53, r54, H55⟩ := H37.alloc (P := Try.prog) 40 [lu 0, .slice none 0 0] (by kernel_rfl)
             refine GL.s 3 (r54) [(6, pt p52 0), (40, .slice B outs.length cb), (41, vi outs.length), (42, vi j), (45, .agg #[vu x49.pv, .slice x49.B x49.lb.length x49.lc])] ?_
             obtain ⟨w56, r57, H58⟩ := H55.stA (P := Try.prog) (o := 0) (vs := [vu x49.pv, .slice x49.B x49.lb.length x49.lc]) (ty := 40) (m := 2) 1 rfl (by kernel_rfl) rfl (by simp) (by simp [Value.oneCell'])
             refine GL.u 4 r57 [(6, pt p52 0), (40, .slice B outs.length cb), (41, vi outs.length), (42, vi j)] ?_
             refine GL.q hK48 ?_
             refine G.sr fun K59 hK60 => ?_
             refine GL.r 1 1 [(40, .slice B outs.length cb), (41, vi outs.length), (42, vi j), (46, pt p52 1)] ?_
             refine GL.s 2 (H58.ld (o := 1) (ty := 38) (v := .slice x49.B x49.lb.length x49.lc) 1 rfl (by kernel_rfl) rfl) [(40, .slice B outs.length cb), (41, vi outs.length), (42, vi j), (47, .slice x49.B x49.lb.length x49.lc)] ?_
             refine GL.r 4 2 [(40, .slice B outs.length cb), (41, vi outs.length), (42, vi j), (49, .bool (decide (520 < (x49.lb.length : Int))))] ?_
             refine GL.q hK60 ?_
             cases hb61 : (decide (520 < (x49.lb.length : Int)))
             · skip
               have hb61f := of_decide_eq_false hb61
               refine G.no rfl ?_
               refine G.skipK hK46 (fun _ _ h => h) ?_
               refine G.region ?_
               refine GL.r 2 2 [(40, .slice B outs.length cb), (41, vi outs.length), (42, li (IntKind.i64.wrap ((j : Int) + 1)))] ?_
               have e62 : (IntKind.i64.wrap ((j : Int) + 1)) = ((j + 1 : Nat) : Int) := by rw [in_i64 (by omega)]; omega
               rw [e62]
               clear e62
               have H63 : Hp w [] [.blk p3 [vw v, .slice A ins.length ca, .slice B outs.length cb, vw lt] 26] w56 := H58.sub (List.Sublist.cons_cons _ (List.Sublist.cons _ (List.Sublist.slnil)))
               refine GL.fit (ts := [40, 41, 42]) (M' := [(40, .slice B outs.length cb), (41, vi outs.length), (42, vi (j + 1))]) (by kernel_rfl) ?_
               refine GL.eq (M' := [(40, .slice B outs.length cb), (41, vi outs.length), (42, vi (j + 1))]) (by rfl) ?_
               exact GL.again (j + 1) [40, 41, 42] rfl (by kernel_rfl) (by show outs.length - (j + 1) < outs.length - j; omega) ⟨⟨by omega, take_all hja hx50 (by omega)⟩, H63⟩
             · skip
               have hb61f := of_decide_eq_true hb61
               refine G.yes rfl ?_
               refine G.sr fun K64 hK65 => ?_
               refine GL.r 1 1 [(2, li 3)] ?_
               refine GL.q hK65 ?_
               refine G.ret fun F_ hF_ hM_ => hRet _ _ (bodyPost_1 rfl (RV.tmp rfl) ?_ F_ hF_ hM_)
               have e0 : txK ins outs = 3 := by rw [txK, if_neg (by omega), if_pos (.inr (.inr (.inr ⟨x49, List.mem_of_getElem? hx50, by omega⟩)))]
               rw [e0]
               exact ⟨rfl, H58.sub (List.nil_sublist _)⟩
         · skip
           have hb30f := of_decide_eq_true hb30
           refine G.yes rfl ?_
           refine G.skipK hK29 (fun _ _ h => h) ?_
           refine G.seqK fun K66 hK67 => ?_
           refine G.block ?_
           refine G.sr fun K68 hK69 => ?_
           obtain ⟨x70, hx71⟩ : ∃ x, ins[i]? = some x := ⟨_, List.getElem?_eq_getElem (by omega)⟩
           have hok72 := hI x70 (List.mem_of_getElem? hx71)
           refine GL.s 1 (run_idxRdN (P := Try.prog) (k := .i64) (t := 23) (sz := 35) (A := A) (len := ins.length) (cap := ca) (j := i) (by kernel_rfl) rfl (hIns.hp H25) (insC_length (fun x_ h_ => (hI x_ h_).1)) (by decide) (by omega)) [(1, pt p3 0), (28, .slice A ins.length ca), (29, vi ins.length), (30, vi i), (32, .pointer (Option.map (fun x => Addr.add x (i * 35)) A))] ?_
           refine GL.s 2 (run_ldRdA (P := Try.prog) (ty := 53) (A := A) (o := (i * 35)) (m := 35) (sub := x70.cells) (by kernel_rfl) (hIns.hp H25) (insC_cut (fun x_ h_ => (hI x_ h_).1) hx71) (TIn.cells_length hok72.1) (by decide)) [(1, pt p3 0), (28, .slice A ins.length ca), (29, vi ins.length), (30, vi i), (33, .agg (x70.cells).toArray)] ?_
           obtain ⟨p73, w74, r75, H76⟩ := H25.alloc (P := Try.prog) 53 (TIn.nil.cells) (by kernel_rfl)
           refine GL.s 3 (r75) [(1, pt p3 0), (4, pt p73 0), (28, .slice A ins.length ca), (29, vi ins.length), (30, vi i), (33, .agg (x70.cells).toArray)] ?_
           obtain ⟨w77, r78, H79⟩ := H76.stA (P := Try.prog) (o := 0) (vs := x70.cells) (ty := 53) (m := 35) 1 rfl (by kernel_rfl) (TIn.cells_length hok72.1) (by rw [Nat.zero_add, TIn.cells_length rfl]; exact Nat.le_refl _) TIn.cells_one
           rw [tx_whole (TIn.cells_length rfl)] at H79
           refine GL.u 4 r78 [(1, pt p3 0), (4, pt p73 0), (28, .slice A ins.length ca), (29, vi ins.length), (30, vi i)] ?_
           refine GL.q hK69 ?_
           refine G.sr fun K80 hK81 => ?_
           refine GL.r 1 1 [(1, pt p3 0), (28, .slice A ins.length ca), (29, vi ins.length), (30, vi i), (34, pt p73 33)] ?_
           refine GL.s 2 (H79.ld (o := 33) (ty := 38) (v := .slice x70.B x70.kb.length x70.kc) 1 rfl (by kernel_rfl) (TIn.cells_key hok72.1)) [(1, pt p3 0), (28, .slice A ins.length ca), (29, vi ins.length), (30, vi i), (35, .slice x70.B x70.kb.length x70.kc)] ?_
           refine GL.r 4 2 [(1, pt p3 0), (28, .slice A ins.length ca), (29, vi ins.length), (30, vi i), (37, .bool (decide (520 < (x70.kb.length : Int))))] ?_
           refine GL.q hK81 ?_
           cases hb82 : (decide (520 < (x70.kb.length : Int)))
           · skip
             have hb82f := of_decide_eq_false hb82
             refine G.no rfl ?_
             refine G.skipK hK67 (fun _ _ h => h) ?_
             refine G.region ?_
             refine GL.r 2 2 [(1, pt p3 0), (28, .slice A ins.length ca), (29, vi ins.length), (30, li (IntKind.i64.wrap ((i : Int) + 1)))] ?_
             have e83 : (IntKind.i64.wrap ((i : Int) + 1)) = ((i + 1 : Nat) : Int) := by rw [in_i64 (by omega)]; omega
             rw [e83]
             clear e83
             have H84 : Hp w [] [.blk p3 [vw v, .slice A ins.length ca, .slice B outs.length cb, vw lt] 26] w77 := H79.sub (List.Sublist.cons_cons _ (List.Sublist.cons _ (List.Sublist.slnil)))
             refine GL.fit (ts := [1, 28, 29, 30]) (M' := [(1, pt p3 0), (28, .slice A ins.length ca), (29, vi ins.length), (30, vi (i + 1))]) (by kernel_rfl) ?_
             refine GL.eq (M' := [(1, pt p3 0), (28, .slice A ins.length ca), (29, vi ins.length), (30, vi (i + 1))]) (by rfl) ?_
             exact GL.again (i + 1) [1, 28, 29, 30] rfl (by kernel_rfl) (by show ins.length - (i + 1) < ins.length - i; omega) ⟨⟨by omega, take_all hia hx71 (by omega)⟩, H84⟩
           · skip
             have hb82f := of_decide_eq_true hb82
             refine G.yes rfl ?_
             refine G.sr fun K85 hK86 => ?_
             refine GL.r 1 1 [(2, li 3)] ?_
             refine GL.q hK86 ?_
             refine G.ret fun F_ hF_ hM_ => hRet _ _ (bodyPost_1 rfl (RV.tmp rfl) ?_ F_ hF_ hM_)
             have e0 : txK ins outs = 3 := by rw [txK, if_neg (by omega), if_pos (.inr (.inr (.inl ⟨x70, List.mem_of_getElem? hx71, by omega⟩)))]
             rw [e0]
             exact ⟨rfl, H79.sub (List.nil_sublist _)⟩
       · skip
         have hb18f := of_decide_eq_true hb18
         refine G.yes rfl ?_
         refine G.sr fun K87 hK88 => ?_
         refine GL.r 1 1 [(2, li 3)] ?_
         refine GL.q hK88 ?_
         refine G.ret fun F_ hF_ hM_ => hRet _ _ (bodyPost_1 rfl (RV.tmp rfl) ?_ F_ hF_ hM_)
         have e0 : txK ins outs = 3 := by rw [txK, if_neg (by omega), if_pos (by first | exact .inl (by omega) | exact .inr (.inl (by omega)))]
         rw [e0]
         exact ⟨rfl, H6.sub (List.nil_sublist _)⟩
     · skip
       have hb17f := of_decide_eq_true hb17
       refine GL.r 10 5 [(1, pt p3 0), (26, .bool true)] ?_
       refine GL.q hK16 ?_
       refine G.yes rfl ?_
       refine G.sr fun K89 hK90 => ?_
       refine GL.r 1 1 [(2, li 3)] ?_
       refine GL.q hK90 ?_
       refine G.ret fun F_ hF_ hM_ => hRet _ _ (bodyPost_1 rfl (RV.tmp rfl) ?_ F_ hF_ hM_)
       have e0 : txK ins outs = 3 := by rw [txK, if_neg (by omega), if_pos (by first | exact .inl (by omega) | exact .inr (.inl (by omega)))]
       rw [e0]
       exact ⟨rfl, H6.sub (List.nil_sublist _)⟩
   · skip
     have hb12f := eq_of_beq hb12
     refine G.yes rfl ?_
     refine G.sr fun K91 hK92 => ?_
     refine GL.r 1 1 [(2, li 16)] ?_
     refine GL.q hK92 ?_
     refine G.ret fun F_ hF_ hM_ => hRet _ _ (bodyPost_1 rfl (RV.tmp rfl) ?_ F_ hF_ hM_)
     have e0 : txK ins outs = 16 := if_pos (by omega)
     rw [e0]
     exact ⟨rfl, H6.sub (List.nil_sublist _)⟩
 · skip
   have hb11f := eq_of_beq hb11
   refine GL.r 10 5 [(1, pt p3 0), (16, .bool true)] ?_
   refine GL.q hK10 ?_
   refine G.yes rfl ?_
   refine G.sr fun K93 hK94 => ?_
   refine GL.r 1 1 [(2, li 16)] ?_
   refine GL.q hK94 ?_
   refine G.ret fun F_ hF_ hM_ => hRet _ _ (bodyPost_1 rfl (RV.tmp rfl) ?_ F_ hF_ hM_)
   have e0 : txK ins outs = 16 := if_pos (by omega)
   rw [e0]
   exact ⟨rfl, H6.sub (List.nil_sublist _)⟩
end Go.Proofs.Ytcedmbdahbdmaaa
namespace Go.Proofs.Ytcedmbdahbdmaaa
open Go.RowKit
theorem rOK_cases (wr : Bool) (rest : List UInt8) (n : Nat) : (rOK wr rest n = true ∧ wr = false ∧ n ≤ rest.length) ∨ (rOK wr rest n = false ∧ rV wr rest n = [] ∧ rR wr rest n = []) := by
 by_cases h : wr = true ∨ rest.length < n
 · exact .inr (rOK_false h)
 · have hw : wr = false := by cases wr <;> simp_all
   subst hw
   exact .inl ⟨(rOK_true (by omega)).1, rfl, by omega⟩
end Go.Proofs.Ytcedmbdahbdmaaa
namespace Go.Proofs.Ytcedmbdahbdmaaa
open Go.RowKit
section
variable {P : Program} {w0 w w' : World} {S : List Nat} {L A' B' : List Ent}
theorem RdO.blk (H : Hp w0 S (A' ++ B') w) (i : Nat) {b o : Nat} {cs : List Value} {t : TypeId} (n : Nat) {xs : List Value} (hL : B'[i]? = some (.blk b cs t)) (hx : (cs.drop o).take n = xs) : RdO w (ids A') (some ⟨b, o, none⟩) xs := by
 have hb : Blk w b cs t := H.ents _ (List.mem_append_right _ (List.mem_of_getElem? hL))
 have hnd := H.nd
 rw [ids_append] at hnd
 obtain ⟨_, _, n3⟩ := List.nodup_append.1 hnd
 intro W hs hk
 have hb' : Blk W b cs t := hb.same (hk b hb.lt (fun hin => n3 _ hin _ (ids_mem (List.mem_of_getElem? hL) (by simp [Ent.ids])) rfl))
 exact RdS.blk hb' o n hx
end
end Go.Proofs.Ytcedmbdahbdmaaa
set_option maxRecDepth 100000
namespace Go.Proofs.Ytcedmbdahbdmaaa
open Go.RowKit
theorem write_calls (v : Nat) (ins : List TIn) (A : Option Addr) (ca : Nat) (outs : List TOut) (B : Option Addr) (cb : Nat) (lt : Nat) (w : World) (hv : v < 4294967296) (hlt : lt < 4294967296) (hIns : RdS w A (insC ins)) (hI : ∀ x ∈ ins, x.Ok w []) (hOuts : RdS w B (outsC outs)) (hO : ∀ x ∈ outs, x.Ok w []) (hni : ins.length ≤ maxLen) (hno : outs.length ≤ maxLen) (hK : txK ins outs = 0) : Calls Try.prog 48 #[.agg #[.int .u32 (v : Int), .slice A ins.length ca, .slice B outs.length cb, .int .u32 (lt : Int)]] w fun e w' => ∃ A' n' c', e = .returned (.slice A' n' c') ∧ Hp w [] [.row A' n' c' 5 1 (by8 (txB v ins outs lt))] w' := by
 have hni_ : ins.length ≤ 9223372036854775807 := hni
 have hno_ : outs.length ≤ 9223372036854775807 := hno
 obtain ⟨_, h2, h3, h4, h5⟩ := txK_zero.1 hK
 refine calls_G (args := [.agg #[vw v, .slice A ins.length ca, .slice B outs.length cb, vw lt]]) Try.func48 rfl Try.ntmps48 rfl ?_
 intro Q0 hRet hNor hPan
 have H := Hp.start w
 refine G.sr fun K1 hK2 => ?_
 obtain ⟨p3, w4, r5, H6⟩ := H.box (P := Try.prog) 26 [vw v, .slice A ins.length ca, .slice B outs.length cb, vw lt] (.agg #[vw v, .slice A ins.length ca, .slice B outs.length cb, vw lt]) rfl
 refine GL.s 1 (r5) [(1, pt p3 0)] ?_
 refine GL.r 2 1 [(1, pt p3 0)] ?_
 refine GL.q hK2 ?_
 refine G.sr fun K7 hK8 => ?_
 obtain ⟨p9, w10, r11, H12⟩ := H6.alloc (P := Try.prog) 114 [.slice none 0 0] (by kernel_rfl)
 refine GL.s 1 (r11) [(1, pt p3 0), (3, pt p9 0)] ?_
 refine GL.q hK8 ?_
 refine G.sr fun K13 hK14 => ?_
 refine GL.r 1 1 [(1, pt p3 0), (3, pt p9 0), (8, pt p3 0)] ?_
 refine GL.s 2 (H12.ld (o := 0) (ty := 22) (v := vw v) 0 rfl (by kernel_rfl) rfl) [(1, pt p3 0), (3, pt p9 0), (9, vw v)] ?_
 refine GL.r 3 1 [(1, pt p3 0), (3, pt p9 0), (10, lu (IntKind.u64.wrap (v : Int)))] ?_
 have e15 : (IntKind.u64.wrap (v : Int)) = (v : Int) := in_u64 (by omega)
 rw [e15]
 clear e15
 have H16 := H12.rowNil 5 1
 have H19 := (Hp.reorder (L' := [.blk p9 [.slice none 0 0] 114, .row none 0 0 5 1 (by8 ([] : List UInt8)), .blk p3 [vw v, .slice A ins.length ca, .slice B outs.length cb, vw lt] 26]) H16 (List.Perm.trans (List.Perm.swap _ _ _) (List.Perm.cons _ (List.Perm.trans (List.Perm.swap _ _ _) (List.Perm.refl _)))))
 refine GL.call (j := 4) (Put4_calls (ids [.blk p9 [.slice none 0 0] 114, .row none 0 0 5 1 (by8 ([] : List UInt8))]) p9 none 0 0 ([] : List UInt8) v w10 (Hp.startL (A := [.blk p9 [.slice none 0 0] 114, .row none 0 0 5 1 (by8 ([] : List UInt8))]) (B := [.blk p3 [vw v, .slice A ins.length ca, .slice B outs.length cb, vw lt] 26]) H19) (by omega)) (by kernel_rfl) rfl (fun e_ w20 hR => ?_)
 obtain ⟨A17, c18, rfl, H22⟩ := hR
 have H21 : Hp w [] [.blk p9 [.slice A17 4 c18] 114, .row A17 4 c18 5 1 (by8 (putB v 4)), .blk p3 [vw v, .slice A ins.length ca, .slice B outs.length cb, vw lt] 26] w20 := Hp.callL (A := [.blk p9 [.slice none 0 0] 114, .row none 0 0 5 1 (by8 ([] : List UInt8))]) (B := [.blk p3 [vw v, .slice A ins.length ca, .slice B outs.length cb, vw lt] 26]) H19 H22
 refine ⟨_, rfl, [1, 3], [(1, pt p3 0), (3, pt p9 0)], by kernel_rfl, ?_⟩
 refine GL.q hK14 ?_
 refine G.sr fun K23 hK24 => ?_
 refine GL.r 1 1 [(1, pt p3 0), (3, pt p9 0), (12, pt p3 1)] ?_
 refine GL.s 2 (H21.ld (o := 1) (ty := 23) (v := .slice A ins.length ca) 2 rfl (by kernel_rfl) rfl) [(1, pt p3 0), (3, pt p9 0), (13, .slice A ins.length ca)] ?_
 refine GL.r 4 2 [(1, pt p3 0), (3, pt p9 0), (15, lu (IntKind.u64.wrap (ins.length : Int)))] ?_
 have e25 : (IntKind.u64.wrap (ins.length : Int)) = (ins.length : Int) := in_u64 (by omega)
 rw [e25]
 clear e25
 have hcA26 := cntSz_le ins.length
 refine GL.call (j := 5) (WCount_calls (ids [.blk p9 [.slice A17 4 c18] 114, .row A17 4 c18 5 1 (by8 (putB v 4))]) p9 A17 4 c18 (putB v 4) ins.length w20 (Hp.startL (A := [.blk p9 [.slice A17 4 c18] 114, .row A17 4 c18 5 1 (by8 (putB v 4))]) (B := [.blk p3 [vw v, .slice A ins.length ca, .slice B outs.length cb, vw lt] 26]) H21) (by omega)) (by kernel_rfl) rfl (fun e_ w28 hR => ?_)
 obtain ⟨A26, c27, rfl, H30⟩ := hR
 have H29 : Hp w [] [.blk p9 [.slice A26 (4 + cntSz ins.length) c27] 114, .row A26 (4 + cntSz ins.length) c27 5 1 (by8 ((putB v 4) ++ cnt ins.length)), .blk p3 [vw v, .slice A ins.length ca, .slice B outs.length cb, vw lt] 26] w28 := Hp.callL (A := [.blk p9 [.slice A17 4 c18] 114, .row A17 4 c18 5 1 (by8 (putB v 4))]) (B := [.blk p3 [vw v, .slice A ins.length ca, .slice B outs.length cb, vw lt] 26]) H21 H30
 refine ⟨_, rfl, [1, 3], [(1, pt p3 0), (3, pt p9 0)], by kernel_rfl, ?_⟩
 refine GL.q hK24 ?_
 refine G.seqK fun K31 hK32 => ?_
 refine G.sr fun K33 hK34 => ?_
 refine GL.r 1 1 [(1, pt p3 0), (3, pt p9 0), (17, pt p3 1)] ?_
 refine GL.s 2 (H29.ld (o := 1) (ty := 23) (v := .slice A ins.length ca) 2 rfl (by kernel_rfl) rfl) [(1, pt p3 0), (3, pt p9 0), (18, .slice A ins.length ca)] ?_
 refine GL.r 4 2 [(1, pt p3 0), (3, pt p9 0), (18, .slice A ins.length ca), (19, vi ins.length), (20, li 0)] ?_
 refine GL.q hK34 ?_
 refine G.block ?_
 refine G.fit [1, 3, 18, 19, 20] (M' := [(1, pt p3 0), (3, pt p9 0), (18, .slice A ins.length ca), (19, vi ins.length), (20, li 0)]) (by kernel_rfl) ?_
 refine G.loop (X := Nat × Option Addr × Nat × Nat × List UInt8) (fun ⟨i, A_i, c_i, m_i, b_i⟩ => [(1, pt p3 0), (3, pt p9 0), (18, .slice A ins.length ca), (19, vi ins.length), (20, vi i)]) (fun ⟨i, A_i, c_i, m_i, b_i⟩ w_ => (i ≤ ins.length ∧ b_i = ((putB v 4) ++ cnt ins.length) ++ insB (ins.take i) ∧ m_i ≤ (4 + cntSz ins.length) + 600 * i) ∧ Hp w [] [.blk p9 [.slice A_i m_i c_i] 114, .row A_i m_i c_i 5 1 (by8 b_i), .blk p3 [vw v, .slice A ins.length ca, .slice B outs.length cb, vw lt] 26] w_) (fun ⟨i, A_i, c_i, m_i, b_i⟩ => ins.length - i) ⟨0, A26, c27, (4 + cntSz ins.length), ((putB v 4) ++ cnt ins.length)⟩ [1, 3, 18, 19, 20] (by kernel_rfl) ⟨⟨Nat.zero_le _, by rw [List.take_zero]; exact (List.append_nil _).symm, by omega⟩, H29⟩ ?_
 rintro ⟨i, A_i, c_i, m_i, b_i⟩ w36 ⟨hi37, H38⟩
 refine G.eq (M' := [(1, pt p3 0), (3, pt p9 0), (18, .slice A ins.length ca), (19, vi ins.length), (20, vi i)]) rfl ?_
 obtain ⟨hil, hbi, hmi⟩ := hi37
 refine G.sr fun K39 hK40 => ?_
 refine GL.r 1 1 [(1, pt p3 0), (3, pt p9 0), (18, .slice A ins.length ca), (19, vi ins.length), (20, vi i), (21, .bool (decide ((i : Int) < (ins.length : Int))))] ?_
 refine GL.q hK40 ?_
 refine G.seqK fun K41 hK42 => ?_
 cases hb43 : (decide ((i : Int) < (ins.length : Int)))
 · skip
   have hb43f := of_decide_eq_false hb43
   refine G.no rfl ?_
   refine G.exitK hK32 (fun _ _ h => h) ?_
   refine G.sr fun K44 hK45 => ?_
   refine GL.r 1 1 [(1, pt p3 0), (3, pt p9 0), (39, pt p3 2)] ?_
   refine GL.s 2 (H38.ld (o := 2) (ty := 24) (v := .slice B outs.length cb) 2 rfl (by kernel_rfl) rfl) [(1, pt p3 0), (3, pt p9 0), (40, .slice B outs.length cb)] ?_
   refine GL.r 4 2 [(1, pt p3 0), (3, pt p9 0), (42, lu (IntKind.u64.wrap (outs.length : Int)))] ?_
   have e46 : (IntKind.u64.wrap (outs.length : Int)) = (outs.length : Int) := in_u64 (by omega)
   rw [e46]
   clear e46
   have hcA47 := cntSz_le outs.length
   refine GL.call (j := 5) (WCount_calls (ids [.blk p9 [.slice A_i m_i c_i] 114, .row A_i m_i c_i 5 1 (by8 b_i)]) p9 A_i m_i c_i b_i outs.length w36 (Hp.startL (A := [.blk p9 [.slice A_i m_i c_i] 114, .row A_i m_i c_i 5 1 (by8 b_i)]) (B := [.blk p3 [vw v, .slice A ins.length ca, .slice B outs.length cb, vw lt] 26]) H38) (by omega)) (by kernel_rfl) rfl (fun e_ w49 hR => ?_)
   obtain ⟨A47, c48, rfl, H51⟩ := hR
   have H50 : Hp w [] [.blk p9 [.slice A47 (m_i + cntSz outs.length) c48] 114, .row A47 (m_i + cntSz outs.length) c48 5 1 (by8 (b_i ++ cnt outs.length)), .blk p3 [vw v, .slice A ins.length ca, .slice B outs.length cb, vw lt] 26] w49 := Hp.callL (A := [.blk p9 [.slice A_i m_i c_i] 114, .row A_i m_i c_i 5 1 (by8 b_i)]) (B := [.blk p3 [vw v, .slice A ins.length ca, .slice B outs.length cb, vw lt] 26]) H38 H51
   refine ⟨_, rfl, [1, 3], [(1, pt p3 0), (3, pt p9 0)], by kernel_rfl, ?_⟩
   refine GL.q hK45 ?_
   refine G.seqK fun K52 hK53 => ?_
   refine G.sr fun K54 hK55 => ?_
   refine GL.r 1 1 [(1, pt p3 0), (3, pt p9 0), (44, pt p3 2)] ?_
   refine GL.s 2 (H50.ld (o := 2) (ty := 24) (v := .slice B outs.length cb) 2 rfl (by kernel_rfl) rfl) [(1, pt p3 0), (3, pt p9 0), (45, .slice B outs.length cb)] ?_
   refine GL.r 4 2 [(1, pt p3 0), (3, pt p9 0), (45, .slice B outs.length cb), (46, vi outs.length), (47, li 0)] ?_
   refine GL.q hK55 ?_
   refine G.block ?_
   refine G.fit [1, 3, 45, 46, 47] (M' := [(1, pt p3 0), (3, pt p9 0), (45, .slice B outs.length cb), (46, vi outs.length), (47, li 0)]) (by kernel_rfl) ?_
   refine G.loop (X := Nat × Option Addr × Nat × Nat × List UInt8) (fun ⟨j, A_j, c_j, m_j, b_j⟩ => [(1, pt p3 0), (3, pt p9 0), (45, .slice B outs.length cb), (46, vi outs.length), (47, vi j)]) (fun ⟨j, A_j, c_j, m_j, b_j⟩ w_ => (j ≤ outs.length ∧ b_j = (b_i ++ cnt outs.length) ++ outsB (outs.take j) ∧ m_j ≤ (m_i + cntSz outs.length) + 600 * j) ∧ Hp w [] [.blk p9 [.slice A_j m_j c_j] 114, .row A_j m_j c_j 5 1 (by8 b_j), .blk p3 [vw v, .slice A ins.length ca, .slice B outs.length cb, vw lt] 26] w_) (fun ⟨j, A_j, c_j, m_j, b_j⟩ => outs.length - j) ⟨0, A47, c48, (m_i + cntSz outs.length), (b_i ++ cnt outs.length)⟩ [1, 3, 45, 46, 47] (by kernel_rfl) ⟨⟨Nat.zero_le _, by rw [List.take_zero]; exact (List.append_nil _).symm, by omega⟩, H50⟩ ?_
   rintro ⟨j, A_j, c_j, m_j, b_j⟩ w57 ⟨hi58, H59⟩
   refine G.eq (M' := [(1, pt p3 0), (3, pt p9 0), (45, .slice B outs.length cb), (46, vi outs.length), (47, vi j)]) rfl ?_
   obtain ⟨hjl, hbj, hmj⟩ := hi58
   refine G.sr fun K60 hK61 => ?_
   refine GL.r 1 1 [(1, pt p3 0), (3, pt p9 0), (45, .slice B outs.length cb), (46, vi outs.length), (47, vi j), (48, .bool (decide ((j : Int) < (outs.length : Int))))] ?_
   refine GL.q hK61 ?_
   refine G.seqK fun K62 hK63 => ?_
   cases hb64 : (decide ((j : Int) < (outs.length : Int)))
   · skip
     have hb64f := of_decide_eq_false hb64
     refine G.no rfl ?_
     refine G.exitK hK53 (fun _ _ h => h) ?_
     refine G.sr fun K65 hK66 => ?_
     refine GL.r 1 1 [(3, pt p9 0), (58, pt p3 3)] ?_
     refine GL.s 2 (H59.ld (o := 3) (ty := 22) (v := vw lt) 2 rfl (by kernel_rfl) rfl) [(3, pt p9 0), (59, vw lt)] ?_
     refine GL.r 3 1 [(3, pt p9 0), (60, lu (IntKind.u64.wrap (lt : Int)))] ?_
     have e67 : (IntKind.u64.wrap (lt : Int)) = (lt : Int) := in_u64 (by omega)
     rw [e67]
     clear e67
     refine GL.call (j := 4) (Put4_calls (ids [.blk p9 [.slice A_j m_j c_j] 114, .row A_j m_j c_j 5 1 (by8 b_j)]) p9 A_j m_j c_j b_j lt w57 (Hp.startL (A := [.blk p9 [.slice A_j m_j c_j] 114, .row A_j m_j c_j 5 1 (by8 b_j)]) (B := [.blk p3 [vw v, .slice A ins.length ca, .slice B outs.length cb, vw lt] 26]) H59) (by omega)) (by kernel_rfl) rfl (fun e_ w70 hR => ?_)
     obtain ⟨A68, c69, rfl, H72⟩ := hR
     have H71 : Hp w [] [.blk p9 [.slice A68 (m_j + 4) c69] 114, .row A68 (m_j + 4) c69 5 1 (by8 (b_j ++ (putB lt 4))), .blk p3 [vw v, .slice A ins.length ca, .slice B outs.length cb, vw lt] 26] w70 := Hp.callL (A := [.blk p9 [.slice A_j m_j c_j] 114, .row A_j m_j c_j 5 1 (by8 b_j)]) (B := [.blk p3 [vw v, .slice A ins.length ca, .slice B outs.length cb, vw lt] 26]) H59 H72
     refine ⟨_, rfl, [3], [(3, pt p9 0)], by kernel_rfl, ?_⟩
     refine GL.q hK66 ?_
     refine G.sr fun K73 hK74 => ?_
     refine GL.call (j := 1) (WBytes_calls (ids [.blk p9 [.slice A68 (m_j + 4) c69] 114, .row A68 (m_j + 4) c69 5 1 (by8 (b_j ++ (putB lt 4)))]) p9 A68 (m_j + 4) c69 (b_j ++ (putB lt 4)) w70 (Hp.startL (A := [.blk p9 [.slice A68 (m_j + 4) c69] 114, .row A68 (m_j + 4) c69 5 1 (by8 (b_j ++ (putB lt 4)))]) (B := [.blk p3 [vw v, .slice A ins.length ca, .slice B outs.length cb, vw lt] 26]) H71) (by omega)) (by kernel_rfl) rfl (fun e_ w77 hR => ?_)
     obtain ⟨A75, c76, rfl, H79⟩ := hR
     have H78 : Hp w [] [.blk p9 [.slice A68 (m_j + 4) c69] 114, .row A68 (m_j + 4) c69 5 1 (by8 (b_j ++ (putB lt 4))), .row A75 (m_j + 4) c76 5 1 (by8 (b_j ++ (putB lt 4))), .blk p3 [vw v, .slice A ins.length ca, .slice B outs.length cb, vw lt] 26] w77 := Hp.callL (A := [.blk p9 [.slice A68 (m_j + 4) c69] 114, .row A68 (m_j + 4) c69 5 1 (by8 (b_j ++ (putB lt 4)))]) (B := [.blk p3 [vw v, .slice A ins.length ca, .slice B outs.length cb, vw lt] 26]) H71 H79
     refine ⟨_, rfl, [62], [(62, .slice A75 (m_j + 4) c76)], by kernel_rfl, ?_⟩
     refine GL.r 2 1 [(2, .slice A75 (m_j + 4) c76)] ?_
     refine GL.q hK74 ?_
     refine G.ret fun F_ hF_ hM_ => hRet _ _ (bodyPost_1 rfl (RV.tmp rfl) ?_ F_ hF_ hM_)
     have H80 : Hp w [] [.row A75 (m_j + 4) c76 5 1 (by8 (b_j ++ (putB lt 4)))] w77 := H78.sub (List.Sublist.cons _ (List.Sublist.cons _ (List.Sublist.cons_cons _ (List.Sublist.cons _ (List.Sublist.slnil)))))
     have HF := H80
     have eB : (b_j ++ (putB lt 4)) = txB v ins outs lt := by rw [hbj, hbi, List.take_of_length_le (show ins.length ≤ i by omega), List.take_of_length_le (show outs.length ≤ j by omega)]; simp only [txB, List.append_assoc, List.nil_append]
     rw [eB] at HF
     exact ⟨_, _, _, rfl, HF⟩
   · skip
     have hb64f := of_decide_eq_true hb64
     refine G.yes rfl ?_
     refine G.skipK hK63 (fun _ _ h => h) ?_
     refine G.seqK fun K81 hK82 => ?_
     refine G.block ?_
     refine G.sr fun K83 hK84 => ?_
     obtain ⟨x85, hx86⟩ : ∃ x, outs[j]? = some x := ⟨_, List.getElem?_eq_getElem (by omega)⟩
     have hok87 := hO x85 (List.mem_of_getElem? hx86)
     have hpvx85 := hok87.1
     have hllx85 := h5 x85 (List.mem_of_getElem? hx86)
     refine GL.s 1 (run_idxRdN (P := Try.prog) (k := .i64) (t := 24) (sz := 2) (A := B) (len := outs.length) (cap := cb) (j := j) (by kernel_rfl) rfl (hOuts.hp H59) (outsC_length _) (by decide) (by omega)) [(1, pt p3 0), (3, pt p9 0), (45, .slice B outs.length cb), (46, vi outs.length), (47, vi j), (49, .pointer (Option.map (fun x => Addr.add x (j * 2)) B))] ?_
     refine GL.s 2 (run_ldRdA (P := Try.prog) (ty := 40) (A := B) (o := (j * 2)) (m := 2) (sub := [vu x85.pv, .slice x85.B x85.lb.length x85.lc]) (by kernel_rfl) (hOuts.hp H59) (outsC_cut hx86) (rfl) (by decide)) [(1, pt p3 0), (3, pt p9 0), (45, .slice B outs.length cb), (46, vi outs.length), (47, vi j), (50, .agg #[vu x85.pv, .slice x85.B x85.lb.length x85.lc])] ?_
     obtain ⟨p88, w89, r90, H91⟩ := H59.alloc (P := Try.prog) 40 [lu 0, .slice none 0 0] (by kernel_rfl)
     refine GL.s 3 (r90) [(1, pt p3 0), (3, pt p9 0), (7, pt p88 0), (45, .slice B outs.length cb), (46, vi outs.length), (47, vi j), (50, .agg #[vu x85.pv, .slice x85.B x85.lb.length x85.lc])] ?_
     obtain ⟨w92, r93, H94⟩ := H91.stA (P := Try.prog) (o := 0) (vs := [vu x85.pv, .slice x85.B x85.lb.length x85.lc]) (ty := 40) (m := 2) 3 rfl (by kernel_rfl) rfl (by simp) (by simp [Value.oneCell'])
     refine GL.u 4 r93 [(1, pt p3 0), (3, pt p9 0), (7, pt p88 0), (45, .slice B outs.length cb), (46, vi outs.length), (47, vi j)] ?_
     refine GL.q hK84 ?_
     refine G.sr fun K95 hK96 => ?_
     refine GL.r 1 1 [(1, pt p3 0), (3, pt p9 0), (7, pt p88 0), (45, .slice B outs.length cb), (46, vi outs.length), (47, vi j), (51, pt p88 0)] ?_
     refine GL.s 2 (H94.ld (o := 0) (ty := 32) (v := vu x85.pv) 3 rfl (by kernel_rfl) rfl) [(1, pt p3 0), (3, pt p9 0), (7, pt p88 0), (45, .slice B outs.length cb), (46, vi outs.length), (47, vi j), (52, vu x85.pv)] ?_
     refine GL.call (j := 3) (Put8_calls (ids [.blk p9 [.slice A_j m_j c_j] 114, .row A_j m_j c_j 5 1 (by8 b_j)]) p9 A_j m_j c_j b_j x85.pv w92 (Hp.startL (A := [.blk p9 [.slice A_j m_j c_j] 114, .row A_j m_j c_j 5 1 (by8 b_j)]) (B := [.blk p3 [vw v, .slice A ins.length ca, .slice B outs.length cb, vw lt] 26, .blk p88 [vu x85.pv, .slice x85.B x85.lb.length x85.lc] 40]) H94) (by omega)) (by kernel_rfl) rfl (fun e_ w99 hR => ?_)
     obtain ⟨A97, c98, rfl, H101⟩ := hR
     have H100 : Hp w [] [.blk p9 [.slice A97 (m_j + 8) c98] 114, .row A97 (m_j + 8) c98 5 1 (by8 (b_j ++ (putB x85.pv 8))), .blk p3 [vw v, .slice A ins.length ca, .slice B outs.length cb, vw lt] 26, .blk p88 [vu x85.pv, .slice x85.B x85.lb.length x85.lc] 40] w99 := Hp.callL (A := [.blk p9 [.slice A_j m_j c_j] 114, .row A_j m_j c_j 5 1 (by8 b_j)]) (B := [.blk p3 [vw v, .slice A ins.length ca, .slice B outs.length cb, vw lt] 26, .blk p88 [vu x85.pv, .slice x85.B x85.lb.length x85.lc] 40]) H94 H101
     refine ⟨_, rfl, [1, 3, 7, 45, 46, 47], [(1, pt p3 0), (3, pt p9 0), (7, pt p88 0), (45, .slice B outs.length cb), (46, vi outs.length), (47, vi j)], by kernel_rfl, ?_⟩
     refine GL.q hK96 ?_
     refine G.region ?_
     refine GL.r 1 1 [(1, pt p3 0), (3, pt p9 0), (45, .slice B outs.length cb), (46, vi outs.length), (47, vi j), (54, pt p88 1)] ?_
     refine GL.s 2 (H100.ld (o := 1) (ty := 38) (v := .slice x85.B x85.lb.length x85.lc) 3 rfl (by kernel_rfl) rfl) [(1, pt p3 0), (3, pt p9 0), (45, .slice B outs.length cb), (46, vi outs.length), (47, vi j), (55, .slice x85.B x85.lb.length x85.lc)] ?_
     have hcA102 := cntSz_le x85.lb.length
     refine GL.call (j := 3) (WCounted_calls (ids [.blk p9 [.slice A97 (m_j + 8) c98] 114, .row A97 (m_j + 8) c98 5 1 (by8 (b_j ++ (putB x85.pv 8)))]) p9 A97 (m_j + 8) c98 (b_j ++ (putB x85.pv 8)) x85.B x85.lb.length x85.lc x85.lb w99 (Hp.startL (A := [.blk p9 [.slice A97 (m_j + 8) c98] 114, .row A97 (m_j + 8) c98 5 1 (by8 (b_j ++ (putB x85.pv 8)))]) (B := [.blk p3 [vw v, .slice A ins.length ca, .slice B outs.length cb, vw lt] 26, .blk p88 [vu x85.pv, .slice x85.B x85.lb.length x85.lc] 40]) H100) (by omega) (RdO.mid (A' := [.blk p9 [.slice A97 (m_j + 8) c98] 114, .row A97 (m_j + 8) c98 5 1 (by8 (b_j ++ (putB x85.pv 8)))]) (B' := [.blk p3 [vw v, .slice A ins.length ca, .slice B outs.length cb, vw lt] 26, .blk p88 [vu x85.pv, .slice x85.B x85.lb.length x85.lc] 40]) hok87.2.1 H100) (rfl) (by omega)) (by kernel_rfl) rfl (fun e_ w104 hR => ?_)
     obtain ⟨A102, c103, rfl, H106⟩ := hR
     have H105 : Hp w [] [.blk p9 [.slice A102 ((m_j + 8) + (cntSz x85.lb.length + x85.lb.length)) c103] 114, .row A102 ((m_j + 8) + (cntSz x85.lb.length + x85.lb.length)) c103 5 1 (by8 ((b_j ++ (putB x85.pv 8)) ++ (cnt x85.lb.length ++ x85.lb))), .blk p3 [vw v, .slice A ins.length ca, .slice B outs.length cb, vw lt] 26, .blk p88 [vu x85.pv, .slice x85.B x85.lb.length x85.lc] 40] w104 := Hp.callL (A := [.blk p9 [.slice A97 (m_j + 8) c98] 114, .row A97 (m_j + 8) c98 5 1 (by8 (b_j ++ (putB x85.pv 8)))]) (B := [.blk p3 [vw v, .slice A ins.length ca, .slice B outs.length cb, vw lt] 26, .blk p88 [vu x85.pv, .slice x85.B x85.lb.length x85.lc] 40]) H100 H106
     refine ⟨_, rfl, [1, 3, 45, 46, 47], [(1, pt p3 0), (3, pt p9 0), (45, .slice B outs.length cb), (46, vi outs.length), (47, vi j)], by kernel_rfl, ?_⟩
     refine GL.q hK82 ?_
     refine G.region ?_
     refine GL.r 2 2 [(1, pt p3 0), (3, pt p9 0), (45, .slice B outs.length cb), (46, vi outs.length), (47, li (IntKind.i64.wrap ((j : Int) + 1)))] ?_
     have e107 : (IntKind.i64.wrap ((j : Int) + 1)) = ((j + 1 : Nat) : Int) := by rw [in_i64 (by omega)]; omega
     rw [e107]
     clear e107
     have H108 : Hp w [] [.blk p9 [.slice A102 ((m_j + 8) + (cntSz x85.lb.length + x85.lb.length)) c103] 114, .row A102 ((m_j + 8) + (cntSz x85.lb.length + x85.lb.length)) c103 5 1 (by8 ((b_j ++ (putB x85.pv 8)) ++ (cnt x85.lb.length ++ x85.lb))), .blk p3 [vw v, .slice A ins.length ca, .slice B outs.length cb, vw lt] 26] w104 := H105.sub (List.Sublist.cons_cons _ (List.Sublist.cons_cons _ (List.Sublist.cons_cons _ (List.Sublist.cons _ (List.Sublist.slnil)))))
     refine GL.fit (ts := [1, 3, 45, 46, 47]) (M' := [(1, pt p3 0), (3, pt p9 0), (45, .slice B outs.length cb), (46, vi outs.length), (47, vi (j + 1))]) (by kernel_rfl) ?_
     refine GL.eq (M' := [(1, pt p3 0), (3, pt p9 0), (45, .slice B outs.length cb), (46, vi outs.length), (47, vi (j + 1))]) (by rfl) ?_
     exact GL.again ⟨(j + 1), A102, c103, ((m_j + 8) + (cntSz x85.lb.length + x85.lb.length)), ((b_j ++ (putB x85.pv 8)) ++ (cnt x85.lb.length ++ x85.lb))⟩ [1, 3, 45, 46, 47] rfl (by kernel_rfl) (by show outs.length - (j + 1) < outs.length - j; omega) ⟨⟨by omega, by rw [hbj, outsB, outsB, flat_snoc hx86]; simp only [TOut.bytes, List.append_assoc], by omega⟩, H108⟩
 · skip
   have hb43f := of_decide_eq_true hb43
   refine G.yes rfl ?_
   refine G.skipK hK42 (fun _ _ h => h) ?_
   refine G.seqK fun K109 hK110 => ?_
   refine G.block ?_
   refine G.sr fun K111 hK112 => ?_
   obtain ⟨x113, hx114⟩ : ∃ x, ins[i]? = some x := ⟨_, List.getElem?_eq_getElem (by omega)⟩
   have hok115 := hI x113 (List.mem_of_getElem? hx114)
   have hfrx113 := hok115.1
   have hixx113 := hok115.2.1
   have hsqx113 := hok115.2.2.1
   have hklx113 := h4 x113 (List.mem_of_getElem? hx114)
   refine GL.s 1 (run_idxRdN (P := Try.prog) (k := .i64) (t := 23) (sz := 35) (A := A) (len := ins.length) (cap := ca) (j := i) (by kernel_rfl) rfl (hIns.hp H38) (insC_length (fun x_ h_ => (hI x_ h_).1)) (by decide) (by omega)) [(1, pt p3 0), (3, pt p9 0), (18, .slice A ins.length ca), (19, vi ins.length), (20, vi i), (22, .pointer (Option.map (fun x => Addr.add x (i * 35)) A))] ?_
   refine GL.s 2 (run_ldRdA (P := Try.prog) (ty := 53) (A := A) (o := (i * 35)) (m := 35) (sub := x113.cells) (by kernel_rfl) (hIns.hp H38) (insC_cut (fun x_ h_ => (hI x_ h_).1) hx114) (TIn.cells_length hok115.1) (by decide)) [(1, pt p3 0), (3, pt p9 0), (18, .slice A ins.length ca), (19, vi ins.length), (20, vi i), (23, .agg (x113.cells).toArray)] ?_
   obtain ⟨p116, w117, r118, H119⟩ := H38.alloc (P := Try.prog) 53 (TIn.nil.cells) (by kernel_rfl)
   refine GL.s 3 (r118) [(1, pt p3 0), (3, pt p9 0), (5, pt p116 0), (18, .slice A ins.length ca), (19, vi ins.length), (20, vi i), (23, .agg (x113.cells).toArray)] ?_
   obtain ⟨w120, r121, H122⟩ := H119.stA (P := Try.prog) (o := 0) (vs := x113.cells) (ty := 53) (m := 35) 3 rfl (by kernel_rfl) (TIn.cells_length hok115.1) (by rw [Nat.zero_add, TIn.cells_length rfl]; exact Nat.le_refl _) TIn.cells_one
   rw [tx_whole (TIn.cells_length rfl)] at H122
   refine GL.u 4 r121 [(1, pt p3 0), (3, pt p9 0), (5, pt p116 0), (18, .slice A ins.length ca), (19, vi ins.length), (20, vi i)] ?_
   refine GL.q hK112 ?_
   refine G.sr fun K123 hK124 => ?_
   refine GL.r 2 2 [(1, pt p3 0), (3, pt p9 0), (5, pt p116 0), (18, .slice A ins.length ca), (19, vi ins.length), (20, vi i), (25, .slice (some ⟨p116, 0, none⟩) 32 32)] ?_
   refine GL.call (j := 3) (WRaw_calls (ids [.blk p9 [.slice A_i m_i c_i] 114, .row A_i m_i c_i 5 1 (by8 b_i)]) p9 A_i m_i c_i b_i (some ⟨p116, 0, none⟩) 32 32 x113.fr w120 (Hp.startL (A := [.blk p9 [.slice A_i m_i c_i] 114, .row A_i m_i c_i 5 1 (by8 b_i)]) (B := [.blk p3 [vw v, .slice A ins.length ca, .slice B outs.length cb, vw lt] 26, .blk p116 (x113.cells) 53]) H122) (by omega) (RdO.blk (A' := [.blk p9 [.slice A_i m_i c_i] 114, .row A_i m_i c_i 5 1 (by8 b_i)]) (B' := [.blk p3 [vw v, .slice A ins.length ca, .slice B outs.length cb, vw lt] 26, .blk p116 (x113.cells) 53]) H122 1 32 rfl (TIn.cells_fr hok115.1)) (by first | rfl | omega | (simp only [List.length_cons, List.length_nil, List.length_drop, List.length_take, List.length_append] <;> omega)) (by omega)) (by kernel_rfl) rfl (fun e_ w127 hR => ?_)
   obtain ⟨A125, c126, rfl, H129⟩ := hR
   have H128 : Hp w [] [.blk p9 [.slice A125 (m_i + 32) c126] 114, .row A125 (m_i + 32) c126 5 1 (by8 (b_i ++ x113.fr)), .blk p3 [vw v, .slice A ins.length ca, .slice B outs.length cb, vw lt] 26, .blk p116 (x113.cells) 53] w127 := Hp.callL (A := [.blk p9 [.slice A_i m_i c_i] 114, .row A_i m_i c_i 5 1 (by8 b_i)]) (B := [.blk p3 [vw v, .slice A ins.length ca, .slice B outs.length cb, vw lt] 26, .blk p116 (x113.cells) 53]) H122 H129
   refine ⟨_, rfl, [1, 3, 5, 18, 19, 20], [(1, pt p3 0), (3, pt p9 0), (5, pt p116 0), (18, .slice A ins.length ca), (19, vi ins.length), (20, vi i)], by kernel_rfl, ?_⟩
   refine GL.q hK124 ?_
   refine G.sr fun K130 hK131 => ?_
   refine GL.r 1 1 [(1, pt p3 0), (3, pt p9 0), (5, pt p116 0), (18, .slice A ins.length ca), (19, vi ins.length), (20, vi i), (27, pt p116 32)] ?_
   refine GL.s 2 (H128.ld (o := 32) (ty := 22) (v := vw x113.ix) 3 rfl (by kernel_rfl) (TIn.cells_ix hok115.1)) [(1, pt p3 0), (3, pt p9 0), (5, pt p116 0), (18, .slice A ins.length ca), (19, vi ins.length), (20, vi i), (28, vw x113.ix)] ?_
   refine GL.r 3 1 [(1, pt p3 0), (3, pt p9 0), (5, pt p116 0), (18, .slice A ins.length ca), (19, vi ins.length), (20, vi i), (29, lu (IntKind.u64.wrap (x113.ix : Int)))] ?_
   have e132 : (IntKind.u64.wrap (x113.ix : Int)) = (x113.ix : Int) := in_u64 (by omega)
   rw [e132]
   clear e132
   refine GL.call (j := 4) (Put4_calls (ids [.blk p9 [.slice A125 (m_i + 32) c126] 114, .row A125 (m_i + 32) c126 5 1 (by8 (b_i ++ x113.fr))]) p9 A125 (m_i + 32) c126 (b_i ++ x113.fr) x113.ix w127 (Hp.startL (A := [.blk p9 [.slice A125 (m_i + 32) c126] 114, .row A125 (m_i + 32) c126 5 1 (by8 (b_i ++ x113.fr))]) (B := [.blk p3 [vw v, .slice A ins.length ca, .slice B outs.length cb, vw lt] 26, .blk p116 (x113.cells) 53]) H128) (by omega)) (by kernel_rfl) rfl (fun e_ w135 hR => ?_)
   obtain ⟨A133, c134, rfl, H137⟩ := hR
   have H136 : Hp w [] [.blk p9 [.slice A133 ((m_i + 32) + 4) c134] 114, .row A133 ((m_i + 32) + 4) c134 5 1 (by8 ((b_i ++ x113.fr) ++ (putB x113.ix 4))), .blk p3 [vw v, .slice A ins.length ca, .slice B outs.length cb, vw lt] 26, .blk p116 (x113.cells) 53] w135 := Hp.callL (A := [.blk p9 [.slice A125 (m_i + 32) c126] 114, .row A125 (m_i + 32) c126 5 1 (by8 (b_i ++ x113.fr))]) (B := [.blk p3 [vw v, .slice A ins.length ca, .slice B outs.length cb, vw lt] 26, .blk p116 (x113.cells) 53]) H128 H137
   refine ⟨_, rfl, [1, 3, 5, 18, 19, 20], [(1, pt p3 0), (3, pt p9 0), (5, pt p116 0), (18, .slice A ins.length ca), (19, vi ins.length), (20, vi i)], by kernel_rfl, ?_⟩
   refine GL.q hK131 ?_
   refine G.sr fun K138 hK139 => ?_
   refine GL.r 1 1 [(1, pt p3 0), (3, pt p9 0), (5, pt p116 0), (18, .slice A ins.length ca), (19, vi ins.length), (20, vi i), (31, pt p116 33)] ?_
   refine GL.s 2 (H136.ld (o := 33) (ty := 38) (v := .slice x113.B x113.kb.length x113.kc) 3 rfl (by kernel_rfl) (TIn.cells_key hok115.1)) [(1, pt p3 0), (3, pt p9 0), (5, pt p116 0), (18, .slice A ins.length ca), (19, vi ins.length), (20, vi i), (32, .slice x113.B x113.kb.length x113.kc)] ?_
   have hcA140 := cntSz_le x113.kb.length
   refine GL.call (j := 3) (WCounted_calls (ids [.blk p9 [.slice A133 ((m_i + 32) + 4) c134] 114, .row A133 ((m_i + 32) + 4) c134 5 1 (by8 ((b_i ++ x113.fr) ++ (putB x113.ix 4)))]) p9 A133 ((m_i + 32) + 4) c134 ((b_i ++ x113.fr) ++ (putB x113.ix 4)) x113.B x113.kb.length x113.kc x113.kb w135 (Hp.startL (A := [.blk p9 [.slice A133 ((m_i + 32) + 4) c134] 114, .row A133 ((m_i + 32) + 4) c134 5 1 (by8 ((b_i ++ x113.fr) ++ (putB x113.ix 4)))]) (B := [.blk p3 [vw v, .slice A ins.length ca, .slice B outs.length cb, vw lt] 26, .blk p116 (x113.cells) 53]) H136) (by omega) (RdO.mid (A' := [.blk p9 [.slice A133 ((m_i + 32) + 4) c134] 114, .row A133 ((m_i + 32) + 4) c134 5 1 (by8 ((b_i ++ x113.fr) ++ (putB x113.ix 4)))]) (B' := [.blk p3 [vw v, .slice A ins.length ca, .slice B outs.length cb, vw lt] 26, .blk p116 (x113.cells) 53]) hok115.2.2.2.1 H136) (rfl) (by omega)) (by kernel_rfl) rfl (fun e_ w142 hR => ?_)
   obtain ⟨A140, c141, rfl, H144⟩ := hR
   have H143 : Hp w [] [.blk p9 [.slice A140 (((m_i + 32) + 4) + (cntSz x113.kb.length + x113.kb.length)) c141] 114, .row A140 (((m_i + 32) + 4) + (cntSz x113.kb.length + x113.kb.length)) c141 5 1 (by8 (((b_i ++ x113.fr) ++ (putB x113.ix 4)) ++ (cnt x113.kb.length ++ x113.kb))), .blk p3 [vw v, .slice A ins.length ca, .slice B outs.length cb, vw lt] 26, .blk p116 (x113.cells) 53] w142 := Hp.callL (A := [.blk p9 [.slice A133 ((m_i + 32) + 4) c134] 114, .row A133 ((m_i + 32) + 4) c134 5 1 (by8 ((b_i ++ x113.fr) ++ (putB x113.ix 4)))]) (B := [.blk p3 [vw v, .slice A ins.length ca, .slice B outs.length cb, vw lt] 26, .blk p116 (x113.cells) 53]) H136 H144
   refine ⟨_, rfl, [1, 3, 5, 18, 19, 20], [(1, pt p3 0), (3, pt p9 0), (5, pt p116 0), (18, .slice A ins.length ca), (19, vi ins.length), (20, vi i)], by kernel_rfl, ?_⟩
   refine GL.q hK139 ?_
   refine G.region ?_
   refine GL.r 1 1 [(1, pt p3 0), (3, pt p9 0), (18, .slice A ins.length ca), (19, vi ins.length), (20, vi i), (34, pt p116 34)] ?_
   refine GL.s 2 (H143.ld (o := 34) (ty := 22) (v := vw x113.sq) 3 rfl (by kernel_rfl) (TIn.cells_sq hok115.1)) [(1, pt p3 0), (3, pt p9 0), (18, .slice A ins.length ca), (19, vi ins.length), (20, vi i), (35, vw x113.sq)] ?_
   refine GL.r 3 1 [(1, pt p3 0), (3, pt p9 0), (18, .slice A ins.length ca), (19, vi ins.length), (20, vi i), (36, lu (IntKind.u64.wrap (x113.sq : Int)))] ?_
   have e145 : (IntKind.u64.wrap (x113.sq : Int)) = (x113.sq : Int) := in_u64 (by omega)
   rw [e145]
   clear e145
   refine GL.call (j := 4) (Put4_calls (ids [.blk p9 [.slice A140 (((m_i + 32) + 4) + (cntSz x113.kb.length + x113.kb.length)) c141] 114, .row A140 (((m_i + 32) + 4) + (cntSz x113.kb.length + x113.kb.length)) c141 5 1 (by8 (((b_i ++ x113.fr) ++ (putB x113.ix 4)) ++ (cnt x113.kb.length ++ x113.kb)))]) p9 A140 (((m_i + 32) + 4) + (cntSz x113.kb.length + x113.kb.length)) c141 (((b_i ++ x113.fr) ++ (putB x113.ix 4)) ++ (cnt x113.kb.length ++ x113.kb)) x113.sq w142 (Hp.startL (A := [.blk p9 [.slice A140 (((m_i + 32) + 4) + (cntSz x113.kb.length + x113.kb.length)) c141] 114, .row A140 (((m_i + 32) + 4) + (cntSz x113.kb.length + x113.kb.length)) c141 5 1 (by8 (((b_i ++ x113.fr) ++ (putB x113.ix 4)) ++ (cnt x113.kb.length ++ x113.kb)))]) (B := [.blk p3 [vw v, .slice A ins.length ca, .slice B outs.length cb, vw lt] 26, .blk p116 (x113.cells) 53]) H143) (by omega)) (by kernel_rfl) rfl (fun e_ w148 hR => ?_)
   obtain ⟨A146, c147, rfl, H150⟩ := hR
   have H149 : Hp w [] [.blk p9 [.slice A146 ((((m_i + 32) + 4) + (cntSz x113.kb.length + x113.kb.length)) + 4) c147] 114, .row A146 ((((m_i + 32) + 4) + (cntSz x113.kb.length + x113.kb.length)) + 4) c147 5 1 (by8 ((((b_i ++ x113.fr) ++ (putB x113.ix 4)) ++ (cnt x113.kb.length ++ x113.kb)) ++ (putB x113.sq 4))), .blk p3 [vw v, .slice A ins.length ca, .slice B outs.length cb, vw lt] 26, .blk p116 (x113.cells) 53] w148 := Hp.callL (A := [.blk p9 [.slice A140 (((m_i + 32) + 4) + (cntSz x113.kb.length + x113.kb.length)) c141] 114, .row A140 (((m_i + 32) + 4) + (cntSz x113.kb.length + x113.kb.length)) c141 5 1 (by8 (((b_i ++ x113.fr) ++ (putB x113.ix 4)) ++ (cnt x113.kb.length ++ x113.kb)))]) (B := [.blk p3 [vw v, .slice A ins.length ca, .slice B outs.length cb, vw lt] 26, .blk p116 (x113.cells) 53]) H143 H150
   refine ⟨_, rfl, [1, 3, 18, 19, 20], [(1, pt p3 0), (3, pt p9 0), (18, .slice A ins.length ca), (19, vi ins.length), (20, vi i)], by kernel_rfl, ?_⟩
   refine GL.q hK110 ?_
   refine G.region ?_
   refine GL.r 2 2 [(1, pt p3 0), (3, pt p9 0), (18, .slice A ins.length ca), (19, vi ins.length), (20, li (IntKind.i64.wrap ((i : Int) + 1)))] ?_
   have e151 : (IntKind.i64.wrap ((i : Int) + 1)) = ((i + 1 : Nat) : Int) := by rw [in_i64 (by omega)]; omega
   rw [e151]
   clear e151
   have H152 : Hp w [] [.blk p9 [.slice A146 ((((m_i + 32) + 4) + (cntSz x113.kb.length + x113.kb.length)) + 4) c147] 114, .row A146 ((((m_i + 32) + 4) + (cntSz x113.kb.length + x113.kb.length)) + 4) c147 5 1 (by8 ((((b_i ++ x113.fr) ++ (putB x113.ix 4)) ++ (cnt x113.kb.length ++ x113.kb)) ++ (putB x113.sq 4))), .blk p3 [vw v, .slice A ins.length ca, .slice B outs.length cb, vw lt] 26] w148 := H149.sub (List.Sublist.cons_cons _ (List.Sublist.cons_cons _ (List.Sublist.cons_cons _ (List.Sublist.cons _ (List.Sublist.slnil)))))
   refine GL.fit (ts := [1, 3, 18, 19, 20]) (M' := [(1, pt p3 0), (3, pt p9 0), (18, .slice A ins.length ca), (19, vi ins.length), (20, vi (i + 1))]) (by kernel_rfl) ?_
   refine GL.eq (M' := [(1, pt p3 0), (3, pt p9 0), (18, .slice A ins.length ca), (19, vi ins.length), (20, vi (i + 1))]) (by rfl) ?_
   exact GL.again ⟨(i + 1), A146, c147, ((((m_i + 32) + 4) + (cntSz x113.kb.length + x113.kb.length)) + 4), ((((b_i ++ x113.fr) ++ (putB x113.ix 4)) ++ (cnt x113.kb.length ++ x113.kb)) ++ (putB x113.sq 4))⟩ [1, 3, 18, 19, 20] rfl (by kernel_rfl) (by show ins.length - (i + 1) < ins.length - i; omega) ⟨⟨by omega, by rw [hbi, insB, insB, flat_snoc hx114]; simp only [TIn.bytes, List.append_assoc], by omega⟩, H152⟩
end Go.Proofs.Ytcedmbdahbdmaaa
set_option maxRecDepth 100000
namespace Go.Proofs.Ytcedmbdahbdmaaa
open Go.RowKit
theorem Right_calls (a : Nat) (w : World) : Calls Try.prog 31 #[.int .u64 (a : Int)] w fun e w' => e = .returned (.bool (decide (a ≤ 4611686018427387904))) ∧ Hp w [] [] w' := by
 refine calls_G (args := [vu a]) Try.func31 rfl Try.ntmps31 rfl ?_
 intro Q0 hRet hNor hPan
 have H := Hp.start w
 refine G.sr fun K1 hK2 => ?_
 refine GL.r 1 1 [(0, vu a)] ?_
 refine GL.q hK2 ?_
 refine G.sr fun K3 hK4 => ?_
 refine GL.r 3 3 [(2, .bool (decide ((a : Int) ≤ 4611686018427387904)))] ?_
 refine GL.q hK4 ?_
 refine G.ret fun F_ hF_ hM_ => hRet _ _ (bodyPost_1 rfl (RV.tmp rfl) ?_ F_ hF_ hM_)
 have e0 : ((decide ((a : Int) ≤ 4611686018427387904)) : Bool) = decide (a ≤ 4611686018427387904) := by
   rw [Bool.eq_iff_iff]; simp only [decide_eq_true_eq]; omega
 rw [e0]
 exact ⟨rfl, H.sub (List.nil_sublist _)⟩
theorem Bytes1_calls (x : TOut) (w : World) : Calls Try.prog 50 #[.agg #[.int .u64 (x.pv : Int), .slice x.B x.lb.length x.lc]] w fun e w' => e = .returned (.bool (decide (4611686018427387904 < x.pv))) ∧ Hp w [] [] w' := by
 refine calls_G (args := [.agg #[vu x.pv, .slice x.B x.lb.length x.lc]]) Try.func50 rfl Try.ntmps50 rfl ?_
 intro Q0 hRet hNor hPan
 have H := Hp.start w
 refine G.sr fun K1 hK2 => ?_
 obtain ⟨p3, w4, r5, H6⟩ := H.box (P := Try.prog) 40 [vu x.pv, .slice x.B x.lb.length x.lc] (.agg #[vu x.pv, .slice x.B x.lb.length x.lc]) rfl
 refine GL.s 1 (r5) [(1, pt p3 0)] ?_
 refine GL.r 2 1 [(1, pt p3 0)] ?_
 refine GL.q hK2 ?_
 refine G.sr fun K7 hK8 => ?_
 refine GL.r 1 1 [(3, pt p3 0)] ?_
 refine GL.s 2 (H6.ld (o := 0) (ty := 32) (v := vu x.pv) 0 rfl (by kernel_rfl) rfl) [(4, vu x.pv)] ?_
 refine GL.call (j := 3) (Right_calls x.pv w4) (by kernel_rfl) rfl (fun e_ w9 hR => ?_)
 obtain ⟨rfl, H11⟩ := hR
 have H10 : Hp w [] [.blk p3 [vu x.pv, .slice x.B x.lb.length x.lc] 40] w9 := H6.callNil H11
 refine ⟨_, rfl, [5], [(5, .bool (decide (x.pv ≤ 4611686018427387904)))], by kernel_rfl, ?_⟩
 refine GL.r 5 2 [(2, .bool (!(decide (x.pv ≤ 4611686018427387904))))] ?_
 refine GL.q hK8 ?_
 refine G.ret fun F_ hF_ hM_ => hRet _ _ (bodyPost_1 rfl (RV.tmp rfl) ?_ F_ hF_ hM_)
 have e0 : ((!(decide (x.pv ≤ 4611686018427387904))) : Bool) = (decide (4611686018427387904 < x.pv)) := by
   rw [Bool.eq_iff_iff]; simp only [Bool.not_eq_true', decide_eq_false_iff_not, decide_eq_true_eq]; omega
 rw [e0]
 exact ⟨rfl, H10.sub (List.nil_sublist _)⟩
theorem IndexO_calls (outs : List TOut) (B : Option Addr) (cb : Nat) (w : World) (hOuts : RdS w B (outsC outs)) (hO : ∀ x ∈ outs, x.Ok w []) (hno : outs.length ≤ maxLen) : Calls Try.prog 67 #[.slice B outs.length cb, .func (.func 50) #[] #[]] w fun e w' => ∃ r : Int, e = .returned (.int .i64 r) ∧ (0 ≤ r ↔ ∃ x ∈ outs, 4611686018427387904 < x.pv) ∧ Hp w [] [] w' := by
 have hno_ : outs.length ≤ 9223372036854775807 := hno
 refine calls_G (args := [.slice B outs.length cb, .func (.func 50) #[] #[]]) Try.func67 rfl Try.ntmps67 rfl ?_
 intro Q0 hRet hNor hPan
 have H := Hp.start w
 refine G.sr fun K1 hK2 => ?_
 refine GL.r 1 1 [(0, .slice B outs.length cb), (1, .func (.func 50) #[] #[])] ?_
 refine GL.q hK2 ?_
 refine G.seqK fun K3 hK4 => ?_
 refine G.sr fun K5 hK6 => ?_
 refine GL.r 3 3 [(0, .slice B outs.length cb), (1, .func (.func 50) #[] #[]), (7, vi outs.length), (8, li 0)] ?_
 refine GL.q hK6 ?_
 refine G.block ?_
 refine G.fit [0, 1, 7, 8] (M' := [(0, .slice B outs.length cb), (1, .func (.func 50) #[] #[]), (7, vi outs.length), (8, li 0)]) (by kernel_rfl) ?_
 refine G.loop (X := Nat) (fun i => [(0, .slice B outs.length cb), (1, .func (.func 50) #[] #[]), (7, vi outs.length), (8, vi i)]) (fun i w_ => (i ≤ outs.length ∧ (∀ y ∈ outs.take i, y.pv ≤ 4611686018427387904)) ∧ Hp w [] [] w_) (fun i => outs.length - i) 0 [0, 1, 7, 8] (by kernel_rfl) ⟨⟨Nat.zero_le _, fun y hy => by simp at hy⟩, H⟩ ?_
 rintro i w7 ⟨hi8, H9⟩
 refine G.eq (M' := [(0, .slice B outs.length cb), (1, .func (.func 50) #[] #[]), (7, vi outs.length), (8, vi i)]) rfl ?_
 obtain ⟨hil, hia⟩ := hi8
 refine G.sr fun K10 hK11 => ?_
 refine GL.r 1 1 [(0, .slice B outs.length cb), (1, .func (.func 50) #[] #[]), (7, vi outs.length), (8, vi i), (9, .bool (decide ((i : Int) < (outs.length : Int))))] ?_
 refine GL.q hK11 ?_
 refine G.seqK fun K12 hK13 => ?_
 cases hb14 : (decide ((i : Int) < (outs.length : Int)))
 · skip
   have hb14f := of_decide_eq_false hb14
   refine G.no rfl ?_
   refine G.exitK hK4 (fun _ _ h => h) ?_
   refine G.sr fun K15 hK16 => ?_
   refine GL.r 1 1 [(4, li (-1))] ?_
   refine GL.q hK16 ?_
   refine G.ret fun F_ hF_ hM_ => hRet _ _ (bodyPost_1 rfl (RV.tmp rfl) ?_ F_ hF_ hM_)
   exact ⟨_, rfl, ⟨fun h => by omega, fun ⟨y, hy, h⟩ => by have := take_done hia (by omega) y hy; omega⟩, H9.sub (List.nil_sublist _)⟩
 · skip
   have hb14f := of_decide_eq_true hb14
   refine G.yes rfl ?_
   refine G.skipK hK13 (fun _ _ h => h) ?_
   refine G.seqK fun K17 hK18 => ?_
   refine G.block ?_
   refine G.sr fun K19 hK20 => ?_
   refine GL.r 2 2 [(0, .slice B outs.length cb), (1, .func (.func 50) #[] #[]), (5, vi i), (7, vi outs.length), (8, vi i)] ?_
   refine GL.q hK20 ?_
   refine G.sr fun K21 hK22 => ?_
   refine GL.r 3 3 [(0, .slice B outs.length cb), (1, .func (.func 50) #[] #[]), (5, vi i), (7, vi outs.length), (8, vi i), (11, .func (.func 50) #[] #[]), (12, .slice B outs.length cb), (13, vi i)] ?_
   obtain ⟨x23, hx24⟩ : ∃ x, outs[i]? = some x := ⟨_, List.getElem?_eq_getElem (by omega)⟩
   have hok25 := hO x23 (List.mem_of_getElem? hx24)
   refine GL.s 4 (run_idxRdN (P := Try.prog) (k := .i64) (t := 24) (sz := 2) (A := B) (len := outs.length) (cap := cb) (j := i) (by kernel_rfl) rfl (hOuts.hp H9) (outsC_length _) (by decide) (by omega)) [(0, .slice B outs.length cb), (1, .func (.func 50) #[] #[]), (5, vi i), (7, vi outs.length), (8, vi i), (11, .func (.func 50) #[] #[]), (14, .pointer (Option.map (fun x => Addr.add x (i * 2)) B))] ?_
   refine GL.s 5 (run_ldRdA (P := Try.prog) (ty := 40) (A := B) (o := (i * 2)) (m := 2) (sub := [vu x23.pv, .slice x23.B x23.lb.length x23.lc]) (by kernel_rfl) (hOuts.hp H9) (outsC_cut hx24) (rfl) (by decide)) [(0, .slice B outs.length cb), (1, .func (.func 50) #[] #[]), (5, vi i), (7, vi outs.length), (8, vi i), (11, .func (.func 50) #[] #[]), (15, .agg #[vu x23.pv, .slice x23.B x23.lb.length x23.lc])] ?_
   refine GL.call (j := 6) (Bytes1_calls x23 w7) (by kernel_rfl) rfl (fun e_ w26 hR => ?_)
   obtain ⟨rfl, H28⟩ := hR
   have H27 : Hp w [] [] w26 := H9.callNil H28
   refine ⟨_, rfl, [0, 1, 5, 7, 8, 16], [(0, .slice B outs.length cb), (1, .func (.func 50) #[] #[]), (5, vi i), (7, vi outs.length), (8, vi i), (16, .bool (decide (4611686018427387904 < x23.pv)))], by kernel_rfl, ?_⟩
   refine GL.q hK22 ?_
   cases hb29 : (decide (4611686018427387904 < x23.pv))
   · skip
     have hb29f := of_decide_eq_false hb29
     refine G.no rfl ?_
     refine G.skipK hK18 (fun _ _ h => h) ?_
     refine G.region ?_
     refine GL.r 2 2 [(0, .slice B outs.length cb), (1, .func (.func 50) #[] #[]), (7, vi outs.length), (8, li (IntKind.i64.wrap ((i : Int) + 1)))] ?_
     have e30 : (IntKind.i64.wrap ((i : Int) + 1)) = ((i + 1 : Nat) : Int) := by rw [in_i64 (by omega)]; omega
     rw [e30]
     clear e30
     refine GL.fit (ts := [0, 1, 7, 8]) (M' := [(0, .slice B outs.length cb), (1, .func (.func 50) #[] #[]), (7, vi outs.length), (8, vi (i + 1))]) (by kernel_rfl) ?_
     refine GL.eq (M' := [(0, .slice B outs.length cb), (1, .func (.func 50) #[] #[]), (7, vi outs.length), (8, vi (i + 1))]) (by rfl) ?_
     exact GL.again (i + 1) [0, 1, 7, 8] rfl (by kernel_rfl) (by show outs.length - (i + 1) < outs.length - i; omega) ⟨⟨by omega, take_all hia hx24 (by omega)⟩, H27⟩
   · skip
     have hb29f := of_decide_eq_true hb29
     refine G.yes rfl ?_
     refine G.sr fun K31 hK32 => ?_
     refine GL.r 2 2 [(4, vi i)] ?_
     refine GL.q hK32 ?_
     refine G.ret fun F_ hF_ hM_ => hRet _ _ (bodyPost_1 rfl (RV.tmp rfl) ?_ F_ hF_ hM_)
     exact ⟨_, rfl, ⟨fun _ => ⟨x23, List.mem_of_getElem? hx24, by omega⟩, fun _ => by omega⟩, H27.sub (List.nil_sublist _)⟩
theorem ContainsO_calls (outs : List TOut) (B : Option Addr) (cb : Nat) (w : World) (hOuts : RdS w B (outsC outs)) (hO : ∀ x ∈ outs, x.Ok w []) (hno : outs.length ≤ maxLen) : Calls Try.prog 49 #[.slice B outs.length cb, .func (.func 50) #[] #[]] w fun e w' => e = .returned (.bool (decide (∃ x ∈ outs, 4611686018427387904 < x.pv))) ∧ Hp w [] [] w' := by
 refine calls_G (args := [.slice B outs.length cb, .func (.func 50) #[] #[]]) Try.func49 rfl Try.ntmps49 rfl ?_
 intro Q0 hRet hNor hPan
 have H := Hp.start w
 refine G.sr fun K1 hK2 => ?_
 refine GL.r 1 1 [(0, .slice B outs.length cb), (1, .func (.func 50) #[] #[])] ?_
 refine GL.q hK2 ?_
 refine G.sr fun K3 hK4 => ?_
 refine GL.r 2 2 [(5, .slice B outs.length cb), (6, .func (.func 50) #[] #[])] ?_
 refine GL.call (j := 3) (IndexO_calls outs B cb w (hOuts.hp H) (oksO_mid hO H) hno) (by kernel_rfl) rfl (fun e_ w9 hR => ?_)
 obtain ⟨r5, rfl, hr6, H8⟩ := hR
 have H7 : Hp w [] [] w9 := H.callNil H8
 refine ⟨_, rfl, [7], [(7, li r5)], by kernel_rfl, ?_⟩
 refine GL.r 5 2 [(4, .bool (decide (0 ≤ r5)))] ?_
 refine GL.q hK4 ?_
 refine G.ret fun F_ hF_ hM_ => hRet _ _ (bodyPost_1 rfl (RV.tmp rfl) ?_ F_ hF_ hM_)
 have e0 : ((decide (0 ≤ r5)) : Bool) = (decide (∃ x ∈ outs, 4611686018427387904 < x.pv)) := by
   rw [Bool.eq_iff_iff]; simp only [decide_eq_true_eq]; exact hr6
 rw [e0]
 exact ⟨rfl, H7.sub (List.nil_sublist _)⟩
def txE (v : Nat) (ins : List TIn) (outs : List TOut) (lt : Nat) : Nat := if txK ins outs ≠ 0 then txK ins outs else if 4096 < (txB v ins outs lt).length ∨ (txB v ins outs lt).length = 64 then 3 else if ∃ x ∈ outs, 4611686018427387904 < x.pv then 4 else 0
def txO (v : Nat) (ins : List TIn) (outs : List TOut) (lt : Nat) : List UInt8 := if txE v ins outs lt = 0 then txB v ins outs lt else []
theorem TBytes_calls (v : Nat) (ins : List TIn) (A : Option Addr) (ca : Nat) (outs : List TOut) (B : Option Addr) (cb : Nat) (lt : Nat) (w : World) (hv : v < 4294967296) (hlt : lt < 4294967296) (hIns : RdS w A (insC ins)) (hI : ∀ x ∈ ins, x.Ok w []) (hOuts : RdS w B (outsC outs)) (hO : ∀ x ∈ outs, x.Ok w []) (hni : ins.length ≤ maxLen) (hno : outs.length ≤ maxLen) : Calls Try.prog 21 #[.agg #[.int .u32 (v : Int), .slice A ins.length ca, .slice B outs.length cb, .int .u32 (lt : Int)]] w fun e w' => ∃ A' n' c', e = .returned (.tuple #[.slice A' n' c', .int .i64 ((txE v ins outs lt : Nat) : Int)]) ∧ Hp w [] [.row A' n' c' 5 1 (by8 (txO v ins outs lt))] w' := by
 have hni_ : ins.length ≤ 9223372036854775807 := hni
 have hno_ : outs.length ≤ 9223372036854775807 := hno
 refine calls_G (args := [.agg #[vw v, .slice A ins.length ca, .slice B outs.length cb, vw lt]]) Try.func21 rfl Try.ntmps21 rfl ?_
 intro Q0 hRet hNor hPan
 have H := Hp.start w
 refine G.sr fun K1 hK2 => ?_
 obtain ⟨p3, w4, r5, H6⟩ := H.box (P := Try.prog) 26 [vw v, .slice A ins.length ca, .slice B outs.length cb, vw lt] (.agg #[vw v, .slice A ins.length ca, .slice B outs.length cb, vw lt]) rfl
 refine GL.s 1 (r5) [(1, pt p3 0)] ?_
 refine GL.r 3 2 [(1, pt p3 0)] ?_
 refine GL.q hK2 ?_
 refine G.seqK fun K7 hK8 => ?_
 refine G.sr fun K9 hK10 => ?_
 refine GL.s 1 (H6.ldA (o := 0) (ty := 26) (m := 4) (sub := [vw v, .slice A ins.length ca, .slice B outs.length cb, vw lt]) 0 rfl (by kernel_rfl) rfl rfl) [(1, pt p3 0), (6, .agg #[vw v, .slice A ins.length ca, .slice B outs.length cb, vw lt])] ?_
 refine GL.call (j := 2) (check_calls v ins A ca outs B cb lt w4 hv hlt (hIns.hp H6) (oks_mid hI H6) (hOuts.hp H6) (oksO_mid hO H6) hni hno) (by kernel_rfl) rfl (fun e_ w11 hR => ?_)
 obtain ⟨rfl, H13⟩ := hR
 have H12 : Hp w [] [.blk p3 [vw v, .slice A ins.length ca, .slice B outs.length cb, vw lt] 26] w11 := H6.callNil H13
 refine ⟨_, rfl, [1, 7], [(1, pt p3 0), (7, vi (txK ins outs))], by kernel_rfl, ?_⟩
 refine GL.r 3 1 [(1, pt p3 0), (4, vi (txK ins outs))] ?_
 refine GL.q hK10 ?_
 refine G.sr fun K14 hK15 => ?_
 refine GL.r 2 2 [(1, pt p3 0), (4, vi (txK ins outs)), (9, .bool ((((txK ins outs) : Nat) : Int) != 0))] ?_
 refine GL.q hK15 ?_
 cases hb16 : ((((txK ins outs) : Nat) : Int) != 0)
 · skip
   have hb16f : (((txK ins outs) : Nat) : Int) = 0 := bne_eq_false_iff_eq.1 hb16
   have hK0 : txK ins outs = 0 := by omega
   refine G.no rfl ?_
   refine G.skipK hK8 (fun _ _ h => h) ?_
   refine G.sr fun K17 hK18 => ?_
   refine GL.s 1 (H12.ldA (o := 0) (ty := 26) (m := 4) (sub := [vw v, .slice A ins.length ca, .slice B outs.length cb, vw lt]) 0 rfl (by kernel_rfl) rfl rfl) [(1, pt p3 0), (11, .agg #[vw v, .slice A ins.length ca, .slice B outs.length cb, vw lt])] ?_
   refine GL.call (j := 2) (write_calls v ins A ca outs B cb lt w11 hv hlt (hIns.hp H12) (oks_mid hI H12) (hOuts.hp H12) (oksO_mid hO H12) hni hno hK0) (by kernel_rfl) rfl (fun e_ w22 hR => ?_)
   obtain ⟨A19, c20, c21, rfl, H24⟩ := hR
   have H23 : Hp w [] [.blk p3 [vw v, .slice A ins.length ca, .slice B outs.length cb, vw lt] 26, .row A19 c20 c21 5 1 (by8 (txB v ins outs lt))] w22 := H12.callNew H24
   have hlA19 := (H23.rowLe 1 rfl).2.1
   rw [by8_length, Nat.mul_one] at hlA19
   refine ⟨_, rfl, [1, 12], [(1, pt p3 0), (12, .slice A19 c20 c21)], by kernel_rfl, ?_⟩
   refine GL.r 3 1 [(1, pt p3 0), (5, .slice A19 c20 c21)] ?_
   refine GL.q hK18 ?_
   refine G.seqK fun K25 hK26 => ?_
   refine G.sr fun K27 hK28 => ?_
   refine GL.r 4 4 [(1, pt p3 0), (5, .slice A19 c20 c21), (16, .bool (decide (4096 < (c20 : Int))))] ?_
   cases hb29 : (decide (4096 < (c20 : Int)))
   · skip
     have hb29f := of_decide_eq_false hb29
     refine GL.r 8 4 [(1, pt p3 0), (5, .slice A19 c20 c21), (20, .bool ((c20 : Int) == 64))] ?_
     refine GL.q hK28 ?_
     cases hb30 : ((c20 : Int) == 64)
     · skip
       have hb30f := ne_of_beq_false hb30
       refine G.no rfl ?_
       refine G.skipK hK26 (fun _ _ h => h) ?_
       refine G.seqK fun K31 hK32 => ?_
       refine G.sr fun K33 hK34 => ?_
       refine GL.r 1 1 [(5, .slice A19 c20 c21), (21, pt p3 2)] ?_
       refine GL.s 2 (H23.ld (o := 2) (ty := 24) (v := .slice B outs.length cb) 0 rfl (by kernel_rfl) rfl) [(5, .slice A19 c20 c21), (22, .slice B outs.length cb)] ?_
       refine GL.call (j := 3) (ContainsO_calls outs B cb w22 (hOuts.hp H23) (oksO_mid hO H23) hno) (by kernel_rfl) rfl (fun e_ w35 hR => ?_)
       obtain ⟨rfl, H37⟩ := hR
       have H36 : Hp w [] [.blk p3 [vw v, .slice A ins.length ca, .slice B outs.length cb, vw lt] 26, .row A19 c20 c21 5 1 (by8 (txB v ins outs lt))] w35 := H23.callNil H37
       refine ⟨_, rfl, [5, 23], [(5, .slice A19 c20 c21), (23, .bool (decide (∃ x ∈ outs, 4611686018427387904 < x.pv)))], by kernel_rfl, ?_⟩
       refine GL.q hK34 ?_
       cases hb38 : (decide (∃ x ∈ outs, 4611686018427387904 < x.pv))
       · skip
         have hb38f := of_decide_eq_false hb38
         have hex : ¬ (∃ x ∈ outs, 4611686018427387904 < x.pv) := of_decide_eq_false hb38
         refine G.no rfl ?_
         refine G.skipK hK32 (fun _ _ h => h) ?_
         refine G.sr fun K39 hK40 => ?_
         refine GL.r 3 3 [(2, .slice A19 c20 c21), (3, li 0)] ?_
         refine GL.q hK40 ?_
         refine G.ret fun F_ hF_ hM_ => hRet _ _ (bodyPost_2 rfl (RV.tmp rfl) (RV.tmp rfl) ?_ F_ hF_ hM_)
         have e0 : txE v ins outs lt = 0 := by rw [txE, if_neg (by omega), if_neg (by omega), if_neg hex]
         have H41 : Hp w [] [.row A19 c20 c21 5 1 (by8 (txB v ins outs lt))] w35 := H36.sub (List.Sublist.cons _ (List.Sublist.cons_cons _ (List.Sublist.slnil)))
         rw [txO, e0, if_pos rfl]
         exact ⟨_, _, _, rfl, H41⟩
       · skip
         have hb38f := of_decide_eq_true hb38
         have hex : ∃ x ∈ outs, 4611686018427387904 < x.pv := of_decide_eq_true hb38
         refine G.yes rfl ?_
         refine G.sr fun K42 hK43 => ?_
         refine GL.r 2 2 [(2, .slice none 0 0), (3, li 4)] ?_
         refine GL.q hK43 ?_
         refine G.ret fun F_ hF_ hM_ => hRet _ _ (bodyPost_2 rfl (RV.tmp rfl) (RV.tmp rfl) ?_ F_ hF_ hM_)
         have e0 : txE v ins outs lt = 4 := by rw [txE, if_neg (by omega), if_neg (by omega), if_pos hex]
         rw [txO, e0, if_neg (by omega)]
         exact ⟨none, 0, 0, rfl, (H36.sub (List.nil_sublist _)).rowNil 5 1⟩
     · skip
       have hb30f := eq_of_beq hb30
       refine G.yes rfl ?_
       refine G.sr fun K44 hK45 => ?_
       refine GL.r 2 2 [(2, .slice none 0 0), (3, li 3)] ?_
       refine GL.q hK45 ?_
       refine G.ret fun F_ hF_ hM_ => hRet _ _ (bodyPost_2 rfl (RV.tmp rfl) (RV.tmp rfl) ?_ F_ hF_ hM_)
       have e0 : txE v ins outs lt = 3 := by rw [txE, if_neg (by omega), if_pos (by omega)]
       rw [txO, e0, if_neg (by omega)]
       exact ⟨none, 0, 0, rfl, (H23.sub (List.nil_sublist _)).rowNil 5 1⟩
   · skip
     have hb29f := of_decide_eq_true hb29
     refine GL.r 8 4 [(1, pt p3 0), (5, .slice A19 c20 c21), (20, .bool true)] ?_
     refine GL.q hK28 ?_
     refine G.yes rfl ?_
     refine G.sr fun K46 hK47 => ?_
     refine GL.r 2 2 [(2, .slice none 0 0), (3, li 3)] ?_
     refine GL.q hK47 ?_
     refine G.ret fun F_ hF_ hM_ => hRet _ _ (bodyPost_2 rfl (RV.tmp rfl) (RV.tmp rfl) ?_ F_ hF_ hM_)
     have e0 : txE v ins outs lt = 3 := by rw [txE, if_neg (by omega), if_pos (by omega)]
     rw [txO, e0, if_neg (by omega)]
     exact ⟨none, 0, 0, rfl, (H23.sub (List.nil_sublist _)).rowNil 5 1⟩
 · skip
   have hb16f : (((txK ins outs) : Nat) : Int) ≠ 0 := bne_iff_ne.1 hb16
   refine G.yes rfl ?_
   refine G.sr fun K48 hK49 => ?_
   refine GL.r 3 3 [(2, .slice none 0 0), (3, vi (txK ins outs))] ?_
   refine GL.q hK49 ?_
   refine G.ret fun F_ hF_ hM_ => hRet _ _ (bodyPost_2 rfl (RV.tmp rfl) (RV.tmp rfl) ?_ F_ hF_ hM_)
   have e0 : txE v ins outs lt = txK ins outs := if_pos (by omega)
   rw [txO, e0, if_neg (by omega)]
   exact ⟨none, 0, 0, rfl, (H12.sub (List.nil_sublist _)).rowNil 5 1⟩
end Go.Proofs.Ytcedmbdahbdmaaa
namespace Go.Proofs.Ytcedmbdahbdmaaa
open Go.RowKit
def TIn.rcells (x : TIn) : List Value := by8 x.fr ++ [.int .u64 (x.ix : Int), .int .u64 (x.sq : Int), .string (strOf x.kb)]
def TOut.rcells (x : TOut) : List Value := [.int .u64 (x.pv : Int), .string (strOf x.lb)]
def insR (l : List TIn) : List Value := l.flatMap TIn.rcells
def outsR (l : List TOut) : List Value := l.flatMap TOut.rcells
section
variable {x : TIn} {l : List TIn} {i : Nat}
theorem TIn.rcells_length (h : x.fr.length = 32) : x.rcells.length = 35 := by simp [TIn.rcells, by8_length, h]
theorem TIn.rcells_at (h : x.fr.length = 32) (k : Nat) : x.rcells[32 + k]? = ([.int .u64 (x.ix : Int), .int .u64 (x.sq : Int), .string (strOf x.kb)] : List Value)[k]? := by
 rw [TIn.rcells, List.getElem?_append_right (by rw [by8_length]; omega), by8_length, h, Nat.add_sub_cancel_left]
theorem TIn.rcells_ix (h : x.fr.length = 32) : x.rcells[32]? = some (.int .u64 (x.ix : Int)) := TIn.rcells_at h 0
theorem TIn.rcells_sq (h : x.fr.length = 32) : x.rcells[33]? = some (.int .u64 (x.sq : Int)) := TIn.rcells_at h 1
theorem TIn.rcells_key (h : x.fr.length = 32) : x.rcells[34]? = some (.string (strOf x.kb)) := TIn.rcells_at h 2
theorem TIn.rcells_byte (h : x.fr.length = 32) {k : Nat} (hk : k < 32) : x.rcells[0 + k * 1]? = some (.int .u8 ((x.fr.getD k 0).toNat : Int)) := by
 rw [Nat.zero_add, Nat.mul_one, TIn.rcells, List.getElem?_append_left (by rw [by8_length]; omega)]
 exact by8_at (by rw [List.getD_eq_getElem?_getD, List.getElem?_eq_getElem (by omega)]; rfl)
theorem take_byte {X : List UInt8} {k : Nat} (h : k < X.length) : List.take (k + 1) X = List.take k X ++ [X.getD k 0] := by
 rw [List.take_add_one, List.getD_eq_getElem?_getD, List.getElem?_eq_getElem h]
 rfl
theorem TIn.rcells_one : ∀ q ∈ x.rcells, q.oneCell' = true := by
 intro q hq
 simp only [TIn.rcells, List.mem_cons, List.mem_append, List.not_mem_nil, or_false] at hq
 rcases hq with h | rfl | rfl | rfl
 · exact by8_one _ q h
 · rfl
 · rfl
 · rfl
theorem insR_length (h : ∀ x ∈ l, x.fr.length = 32) : (insR l).length = l.length * 35 := flat_len l fun x hx => TIn.rcells_length (h x hx)
theorem insR_cut (h : ∀ x ∈ l, x.fr.length = 32) (hx : l[i]? = some x) : ((insR l).drop (i * 35)).take 35 = x.rcells := flat_cut l (fun x hx => TIn.rcells_length (h x hx)) i x hx
theorem outsR_length (l : List TOut) : (outsR l).length = l.length * 2 := flat_len l fun _ _ => rfl
theorem outsR_cut {l : List TOut} {x : TOut} (hx : l[i]? = some x) : ((outsR l).drop (i * 2)).take 2 = x.rcells := flat_cut (f := TOut.rcells) (sz := 2) l (fun _ _ => rfl) i x hx
theorem insR_snoc (hx : l[i]? = some x) : insR (l.take (i + 1)) = insR (l.take i) ++ x.rcells := flat_snoc hx
theorem outsR_snoc {l : List TOut} {x : TOut} (hx : l[i]? = some x) : outsR (l.take (i + 1)) = outsR (l.take i) ++ x.rcells := flat_snoc hx
theorem fr_fun {X : List UInt8} (h : X.length = 32) : ∃ f : Nat → UInt8, X = (List.range 32).map f := ⟨fun i => X.getD i 0, List.ext_getElem? fun i => by
 by_cases hi : i < 32
 · rw [List.getElem?_map, List.getElem?_range hi]
   show X[i]? = some (X.getD i 0)
   rw [List.getD_eq_getElem?_getD, List.getElem?_eq_getElem (by omega)]
   rfl
 · rw [List.getElem?_eq_none (by omega), List.getElem?_eq_none (by simp; omega)]⟩
end
end Go.Proofs.Ytcedmbdahbdmaaa
set_option maxRecDepth 100000
namespace Go.Proofs.Ytcedmbdahbdmaaa
open Go.RowKit
theorem run_inBuild (x : TIn) (h : x.fr.length = 32) (w : World) : (Instr.build 89 #[(0, .agg (by8 x.fr).toArray), (1, .int .u64 (x.ix : Int)), (2, .int .u64 (x.sq : Int)), (3, .string (strOf x.kb))]).run Try.prog w = .ok (.agg x.rcells.toArray) w := by
 obtain ⟨f, hf⟩ := fr_fun h
 rw [TIn.rcells, hf]
 exact pev_run (by kernel_rfl) w
theorem Hp.madeIn {w0 w : World} {S : List Nat} {L : List Ent} (H : Hp w0 S L w) (x : TIn) (h : x.fr.length = 32) :
   ∃ b w', (Instr.buildSlice 61 1 #[(0, .agg x.rcells.toArray)]).run Try.prog w = .ok (.slice (some ⟨b, 0, none⟩) 1 1) w' ∧ Hp w0 S (L ++ [.blk b x.rcells 89]) w' := by
 obtain ⟨f, hf⟩ := fr_fun h
 have e : x.rcells = by8 ((List.range 32).map f) ++ [.int .u64 (x.ix : Int), .int .u64 (x.sq : Int), .string (strOf x.kb)] := by rw [TIn.rcells, hf]
 rw [e]
 generalize x.ix = ix at *
 generalize x.sq = sq at *
 generalize x.kb = kb at *
 have hs : nev Try.prog (Instr.buildSlice 61 1 #[(0, Value.agg (by8 ((List.range 32).map f) ++ ([.int .u64 (ix : Int), .int .u64 (sq : Int), .string (strOf kb)] : List Value)).toArray)]) = some (Obj.cells (by8 ((List.range 32).map f) ++ ([.int .u64 (ix : Int), .int .u64 (sq : Int), .string (strOf kb)] : List Value)).toArray 89, fun r => some ((fun b_ => Value.slice (some ⟨b_, 0, none⟩) 1 1) r)) := by kernel_rfl
 obtain ⟨b, w', h1, h2⟩ := H.made _ (fun b_ => Value.slice (some ⟨b_, 0, none⟩) 1 1) _ _ hs
 exact ⟨b, w', h1, h2⟩
theorem Ref_calls (v : Nat) (ins : List TIn) (A : Option Addr) (ca : Nat) (outs : List TOut) (B : Option Addr) (cb : Nat) (lt : Nat) (w : World) (hv : v < 4294967296) (hlt : lt < 4294967296) (hIns : RdS w A (insC ins)) (hI : ∀ x ∈ ins, x.Ok w []) (hOuts : RdS w B (outsC outs)) (hO : ∀ x ∈ outs, x.Ok w []) (hni : ins.length ≤ maxLen) (hno : outs.length ≤ maxLen) (hl1 : ins.length ≤ 1000000) (hl2 : outs.length ≤ 1000000) : Calls Try.prog 18 #[.agg #[.int .u32 (v : Int), .slice A ins.length ca, .slice B outs.length cb, .int .u32 (lt : Int)]] w fun e w' => ∃ A' c' B' d', e = .returned (.agg #[.int .u64 (v : Int), .int .u64 (lt : Int), .slice A' ins.length c', .slice B' outs.length d']) ∧ Hp w [] [.row A' ins.length c' 89 35 (insR ins), .row B' outs.length d' 91 2 (outsR outs)] w' := by
 have hni_ : ins.length ≤ 9223372036854775807 := hni
 have hno_ : outs.length ≤ 9223372036854775807 := hno
 refine calls_G (args := [.agg #[vw v, .slice A ins.length ca, .slice B outs.length cb, vw lt]]) Try.func18 rfl Try.ntmps18 rfl ?_
 intro Q0 hRet hNor hPan
 have H := Hp.start w
 refine G.sr fun K1 hK2 => ?_
 obtain ⟨p3, w4, r5, H6⟩ := H.box (P := Try.prog) 26 [vw v, .slice A ins.length ca, .slice B outs.length cb, vw lt] (.agg #[vw v, .slice A ins.length ca, .slice B outs.length cb, vw lt]) rfl
 refine GL.s 1 (r5) [(1, pt p3 0)] ?_
 obtain ⟨p7, w8, r9, H10⟩ := H6.alloc (P := Try.prog) 64 [lu 0, lu 0, .slice none 0 0, .slice none 0 0] (by kernel_rfl)
 refine GL.s 2 (r9) [(1, pt p3 0), (2, pt p7 0)] ?_
 refine GL.q hK2 ?_
 refine G.sr fun K11 hK12 => ?_
 refine GL.r 1 1 [(1, pt p3 0), (2, pt p7 0), (8, pt p3 0)] ?_
 refine GL.s 2 (H10.ld (o := 0) (ty := 22) (v := vw v) 0 rfl (by kernel_rfl) rfl) [(1, pt p3 0), (2, pt p7 0), (9, vw v)] ?_
 refine GL.r 4 2 [(1, pt p3 0), (2, pt p7 0), (10, lu (IntKind.u64.wrap (v : Int))), (11, pt p3 3)] ?_
 have e13 : (IntKind.u64.wrap (v : Int)) = (v : Int) := in_u64 (by omega)
 rw [e13]
 clear e13
 refine GL.s 5 (H10.ld (o := 3) (ty := 22) (v := vw lt) 0 rfl (by kernel_rfl) rfl) [(1, pt p3 0), (2, pt p7 0), (10, vu v), (12, vw lt)] ?_
 refine GL.r 7 2 [(1, pt p3 0), (2, pt p7 0), (14, .agg #[vu v, lu (IntKind.u64.wrap (lt : Int)), .slice none 0 0, .slice none 0 0])] ?_
 have e14 : (IntKind.u64.wrap (lt : Int)) = (lt : Int) := in_u64 (by omega)
 rw [e14]
 clear e14
 obtain ⟨p15, w16, r17, H18⟩ := H10.alloc (P := Try.prog) 64 [lu 0, lu 0, .slice none 0 0, .slice none 0 0] (by kernel_rfl)
 refine GL.s 8 (r17) [(1, pt p3 0), (2, pt p7 0), (3, pt p15 0), (14, .agg #[vu v, vu lt, .slice none 0 0, .slice none 0 0])] ?_
 obtain ⟨w19, r20, H21⟩ := H18.stA (P := Try.prog) (o := 0) (vs := [vu v, vu lt, .slice none 0 0, .slice none 0 0]) (ty := 64) (m := 4) 2 rfl (by kernel_rfl) rfl (by simp) (by simp [Value.oneCell'])
 refine GL.u 9 r20 [(1, pt p3 0), (2, pt p7 0), (3, pt p15 0)] ?_
 refine GL.q hK12 ?_
 refine G.seqK fun K22 hK23 => ?_
 refine G.sr fun K24 hK25 => ?_
 refine GL.r 1 1 [(1, pt p3 0), (2, pt p7 0), (3, pt p15 0), (15, pt p3 1)] ?_
 refine GL.s 2 (H21.ld (o := 1) (ty := 23) (v := .slice A ins.length ca) 0 rfl (by kernel_rfl) rfl) [(1, pt p3 0), (2, pt p7 0), (3, pt p15 0), (16, .slice A ins.length ca)] ?_
 refine GL.r 4 2 [(1, pt p3 0), (2, pt p7 0), (3, pt p15 0), (16, .slice A ins.length ca), (17, vi ins.length), (18, li 0)] ?_
 refine GL.q hK25 ?_
 refine G.block ?_
 have H26 := H21.rowNil 89 35
 refine G.fit [1, 2, 3, 16, 17, 18] (M' := [(1, pt p3 0), (2, pt p7 0), (3, pt p15 0), (16, .slice A ins.length ca), (17, vi ins.length), (18, li 0)]) (by kernel_rfl) ?_
 refine G.loop (X := Nat × Option Addr × Nat) (fun ⟨i, A_i, c_i⟩ => [(1, pt p3 0), (2, pt p7 0), (3, pt p15 0), (16, .slice A ins.length ca), (17, vi ins.length), (18, vi i)]) (fun ⟨i, A_i, c_i⟩ w_ => (i ≤ ins.length) ∧ Hp w [] [.blk p3 [vw v, .slice A ins.length ca, .slice B outs.length cb, vw lt] 26, .blk p7 [lu 0, lu 0, .slice none 0 0, .slice none 0 0] 64, .blk p15 [vu v, vu lt, .slice A_i i c_i, .slice none 0 0] 64, .row A_i i c_i 89 35 (insR (List.take i ins))] w_) (fun ⟨i, A_i, c_i⟩ => ins.length - i) ⟨0, none, 0⟩ [1, 2, 3, 16, 17, 18] (by kernel_rfl) ⟨Nat.zero_le _, H26⟩ ?_
 rintro ⟨i, A_i, c_i⟩ w27 ⟨hi28, H29⟩
 refine G.eq (M' := [(1, pt p3 0), (2, pt p7 0), (3, pt p15 0), (16, .slice A ins.length ca), (17, vi ins.length), (18, vi i)]) rfl ?_
 have hil := hi28
 refine G.sr fun K30 hK31 => ?_
 refine GL.r 1 1 [(1, pt p3 0), (2, pt p7 0), (3, pt p15 0), (16, .slice A ins.length ca), (17, vi ins.length), (18, vi i), (19, .bool (decide ((i : Int) < (ins.length : Int))))] ?_
 refine GL.q hK31 ?_
 refine G.seqK fun K32 hK33 => ?_
 cases hb34 : (decide ((i : Int) < (ins.length : Int)))
 · skip
   have hb34f := of_decide_eq_false hb34
   refine G.no rfl ?_
   refine G.exitK hK23 (fun _ _ h => h) ?_
   refine G.seqK fun K35 hK36 => ?_
   refine G.sr fun K37 hK38 => ?_
   refine GL.r 1 1 [(2, pt p7 0), (3, pt p15 0), (40, pt p3 2)] ?_
   refine GL.s 2 (H29.ld (o := 2) (ty := 24) (v := .slice B outs.length cb) 0 rfl (by kernel_rfl) rfl) [(2, pt p7 0), (3, pt p15 0), (41, .slice B outs.length cb)] ?_
   refine GL.r 4 2 [(2, pt p7 0), (3, pt p15 0), (41, .slice B outs.length cb), (42, vi outs.length), (43, li 0)] ?_
   refine GL.q hK38 ?_
   refine G.block ?_
   obtain rfl : i = ins.length := by omega
   have H39 : Hp w [] [.blk p3 [vw v, .slice A ins.length ca, .slice B outs.length cb, vw lt] 26, .blk p7 [lu 0, lu 0, .slice none 0 0, .slice none 0 0] 64, .blk p15 [vu v, vu lt, .slice A_i ins.length c_i, .slice none 0 0] 64, .row A_i ins.length c_i 89 35 (insR ins)] w27 := (by have h_ := H29; rw [List.take_length] at h_; exact h_)
   have H40 := H39.rowNil 91 2
   refine G.fit [2, 3, 41, 42, 43] (M' := [(2, pt p7 0), (3, pt p15 0), (41, .slice B outs.length cb), (42, vi outs.length), (43, li 0)]) (by kernel_rfl) ?_
   refine G.loop (X := Nat × Option Addr × Nat) (fun ⟨j, A_j, c_j⟩ => [(2, pt p7 0), (3, pt p15 0), (41, .slice B outs.length cb), (42, vi outs.length), (43, vi j)]) (fun ⟨j, A_j, c_j⟩ w_ => (j ≤ outs.length) ∧ Hp w [] [.blk p3 [vw v, .slice A ins.length ca, .slice B outs.length cb, vw lt] 26, .blk p7 [lu 0, lu 0, .slice none 0 0, .slice none 0 0] 64, .blk p15 [vu v, vu lt, .slice A_i ins.length c_i, .slice A_j j c_j] 64, .row A_i ins.length c_i 89 35 (insR ins), .row A_j j c_j 91 2 (outsR (List.take j outs))] w_) (fun ⟨j, A_j, c_j⟩ => outs.length - j) ⟨0, none, 0⟩ [2, 3, 41, 42, 43] (by kernel_rfl) ⟨Nat.zero_le _, H40⟩ ?_
   rintro ⟨j, A_j, c_j⟩ w41 ⟨hi42, H43⟩
   refine G.eq (M' := [(2, pt p7 0), (3, pt p15 0), (41, .slice B outs.length cb), (42, vi outs.length), (43, vi j)]) rfl ?_
   have hjl := hi42
   refine G.sr fun K44 hK45 => ?_
   refine GL.r 1 1 [(2, pt p7 0), (3, pt p15 0), (41, .slice B outs.length cb), (42, vi outs.length), (43, vi j), (44, .bool (decide ((j : Int) < (outs.length : Int))))] ?_
   refine GL.q hK45 ?_
   refine G.seqK fun K46 hK47 => ?_
   cases hb48 : (decide ((j : Int) < (outs.length : Int)))
   · skip
     have hb48f := of_decide_eq_false hb48
     refine G.no rfl ?_
     refine G.exitK hK36 (fun _ _ h => h) ?_
     refine G.sr fun K49 hK50 => ?_
     refine GL.s 1 (H43.ldA (o := 0) (ty := 64) (m := 4) (sub := [vu v, vu lt, .slice A_i ins.length c_i, .slice A_j j c_j]) 2 rfl (by kernel_rfl) rfl rfl) [(2, pt p7 0), (59, .agg #[vu v, vu lt, .slice A_i ins.length c_i, .slice A_j j c_j])] ?_
     obtain ⟨w51, r52, H53⟩ := H43.stA (P := Try.prog) (o := 0) (vs := [vu v, vu lt, .slice A_i ins.length c_i, .slice A_j j c_j]) (ty := 64) (m := 4) 1 rfl (by kernel_rfl) rfl (by simp) (by simp [Value.oneCell'])
     refine GL.u 2 r52 [(2, pt p7 0)] ?_
     refine GL.q hK50 ?_
     refine G.ret fun F_ hF_ hM_ => hRet _ _ (bodyPost_1 rfl (RV.cell rfl (H53.ldA (o := 0) (ty := 64) (m := 4) (sub := [vu v, vu lt, .slice A_i ins.length c_i, .slice A_j j c_j]) 1 rfl (by kernel_rfl) rfl rfl)) ?_ F_ hF_ hM_)
     have H54 : Hp w [] [.row A_i ins.length c_i 89 35 (insR ins), .row A_j j c_j 91 2 (outsR (List.take j outs))] w51 := H53.sub (List.Sublist.cons _ (List.Sublist.cons _ (List.Sublist.cons _ (List.Sublist.cons_cons _ (List.Sublist.cons_cons _ (List.Sublist.slnil))))))
     obtain rfl : j = outs.length := by omega
     have HF := H54
     rw [List.take_length] at HF
     exact ⟨_, _, _, _, rfl, HF⟩
   · skip
     have hb48f := of_decide_eq_true hb48
     refine G.yes rfl ?_
     refine G.skipK hK47 (fun _ _ h => h) ?_
     refine G.seqK fun K55 hK56 => ?_
     refine G.block ?_
     refine G.sr fun K57 hK58 => ?_
     obtain ⟨x59, hx60⟩ : ∃ x, outs[j]? = some x := ⟨_, List.getElem?_eq_getElem (by omega)⟩
     have hok61 := hO x59 (List.mem_of_getElem? hx60)
     refine GL.s 1 (run_idxRdN (P := Try.prog) (k := .i64) (t := 24) (sz := 2) (A := B) (len := outs.length) (cap := cb) (j := j) (by kernel_rfl) rfl (hOuts.hp H43) (outsC_length _) (by decide) (by omega)) [(2, pt p7 0), (3, pt p15 0), (41, .slice B outs.length cb), (42, vi outs.length), (43, vi j), (45, .pointer (Option.map (fun x => Addr.add x (j * 2)) B))] ?_
     refine GL.s 2 (run_ldRdA (P := Try.prog) (ty := 40) (A := B) (o := (j * 2)) (m := 2) (sub := [vu x59.pv, .slice x59.B x59.lb.length x59.lc]) (by kernel_rfl) (hOuts.hp H43) (outsC_cut hx60) (rfl) (by decide)) [(2, pt p7 0), (3, pt p15 0), (41, .slice B outs.length cb), (42, vi outs.length), (43, vi j), (46, .agg #[vu x59.pv, .slice x59.B x59.lb.length x59.lc])] ?_
     obtain ⟨p62, w63, r64, H65⟩ := H43.alloc (P := Try.prog) 40 [lu 0, .slice none 0 0] (by kernel_rfl)
     refine GL.s 3 (r64) [(2, pt p7 0), (3, pt p15 0), (7, pt p62 0), (41, .slice B outs.length cb), (42, vi outs.length), (43, vi j), (46, .agg #[vu x59.pv, .slice x59.B x59.lb.length x59.lc])] ?_
     obtain ⟨w66, r67, H68⟩ := H65.stA (P := Try.prog) (o := 0) (vs := [vu x59.pv, .slice x59.B x59.lb.length x59.lc]) (ty := 40) (m := 2) 5 rfl (by kernel_rfl) rfl (by simp) (by simp [Value.oneCell'])
     refine GL.u 4 r67 [(2, pt p7 0), (3, pt p15 0), (7, pt p62 0), (41, .slice B outs.length cb), (42, vi outs.length), (43, vi j)] ?_
     refine GL.q hK58 ?_
     refine G.region ?_
     refine GL.r 1 1 [(2, pt p7 0), (3, pt p15 0), (7, pt p62 0), (41, .slice B outs.length cb), (42, vi outs.length), (43, vi j), (47, pt p15 3)] ?_
     refine GL.s 2 (H68.ld (o := 3) (ty := 62) (v := .slice A_j j c_j) 2 rfl (by kernel_rfl) rfl) [(2, pt p7 0), (3, pt p15 0), (7, pt p62 0), (41, .slice B outs.length cb), (42, vi outs.length), (43, vi j), (48, .slice A_j j c_j)] ?_
     refine GL.r 3 1 [(2, pt p7 0), (3, pt p15 0), (7, pt p62 0), (41, .slice B outs.length cb), (42, vi outs.length), (43, vi j), (48, .slice A_j j c_j), (49, pt p62 0)] ?_
     refine GL.s 4 (H68.ld (o := 0) (ty := 32) (v := vu x59.pv) 5 rfl (by kernel_rfl) rfl) [(2, pt p7 0), (3, pt p15 0), (7, pt p62 0), (41, .slice B outs.length cb), (42, vi outs.length), (43, vi j), (48, .slice A_j j c_j), (50, vu x59.pv)] ?_
     refine GL.r 5 1 [(2, pt p7 0), (3, pt p15 0), (41, .slice B outs.length cb), (42, vi outs.length), (43, vi j), (48, .slice A_j j c_j), (50, vu x59.pv), (51, pt p62 1)] ?_
     refine GL.s 6 (H68.ld (o := 1) (ty := 38) (v := .slice x59.B x59.lb.length x59.lc) 5 rfl (by kernel_rfl) rfl) [(2, pt p7 0), (3, pt p15 0), (41, .slice B outs.length cb), (42, vi outs.length), (43, vi j), (48, .slice A_j j c_j), (50, vu x59.pv), (52, .slice x59.B x59.lb.length x59.lc)] ?_
     refine GL.s 7 (run_toStr (P := Try.prog) (src := 38) (dst := 9) (A := x59.B) (bs := x59.lb) (n := x59.lb.length) (c := x59.lc) (by kernel_rfl) (by kernel_rfl) (hok61.2.1.hp H68) (rfl)) [(2, pt p7 0), (3, pt p15 0), (41, .slice B outs.length cb), (42, vi outs.length), (43, vi j), (48, .slice A_j j c_j), (50, vu x59.pv), (53, .string (strOf x59.lb))] ?_
     refine GL.r 8 1 [(2, pt p7 0), (3, pt p15 0), (41, .slice B outs.length cb), (42, vi outs.length), (43, vi j), (48, .slice A_j j c_j), (54, .agg #[vu x59.pv, .string (strOf x59.lb)])] ?_
     obtain ⟨p69, w70, r71, H72⟩ := H68.made (P := Try.prog) (Instr.buildSlice 62 1 #[(0, .agg #[vu x59.pv, .string (strOf x59.lb)])]) (fun b_ => .slice (some ⟨b_, 0, none⟩) 1 1) [vu x59.pv, .string (strOf x59.lb)] 91 (by kernel_rfl)
     refine GL.s 9 (r71) [(2, pt p7 0), (3, pt p15 0), (41, .slice B outs.length cb), (42, vi outs.length), (43, vi j), (48, .slice A_j j c_j), (55, .slice (some ⟨p69, 0, none⟩) 1 1)] ?_
     obtain ⟨A73, c74, w75, r76, H77⟩ := H72.append (P := Try.prog) (e := 91) (sz := 2) (by_ := 24) (n := j) (c := c_j) (m := 1) (d := 1) (t := 62) (ty := 62) (xs := outsR (List.take j outs)) (news := [vu x59.pv, .string (strOf x59.lb)]) 4 rfl (by kernel_rfl) (H72.rdBlk (o := 0) (xs := [vu x59.pv, .string (strOf x59.lb)]) 6 2 rfl rfl) (by simp) (by simp [Value.oneCell']) (by omega) (by simp only [maxLen]; omega)
     refine GL.s 10 (r76) [(2, pt p7 0), (3, pt p15 0), (41, .slice B outs.length cb), (42, vi outs.length), (43, vi j), (56, .slice A73 (j + 1) c74)] ?_
     refine GL.r 11 1 [(2, pt p7 0), (3, pt p15 0), (41, .slice B outs.length cb), (42, vi outs.length), (43, vi j), (56, .slice A73 (j + 1) c74), (57, pt p15 3)] ?_
     obtain ⟨w78, r79, H80⟩ := H77.st (P := Try.prog) (o := 3) (ty := 62) (v := .slice A73 (j + 1) c74) 2 rfl (by kernel_rfl) (by simp) rfl
     refine GL.u 12 r79 [(2, pt p7 0), (3, pt p15 0), (41, .slice B outs.length cb), (42, vi outs.length), (43, vi j)] ?_
     refine GL.q hK56 ?_
     refine G.region ?_
     refine GL.r 2 2 [(2, pt p7 0), (3, pt p15 0), (41, .slice B outs.length cb), (42, vi outs.length), (43, li (IntKind.i64.wrap ((j : Int) + 1)))] ?_
     have e81 : (IntKind.i64.wrap ((j : Int) + 1)) = ((j + 1 : Nat) : Int) := by rw [in_i64 (by omega)]; omega
     rw [e81]
     clear e81
     have H82 : Hp w [] [.blk p3 [vw v, .slice A ins.length ca, .slice B outs.length cb, vw lt] 26, .blk p7 [lu 0, lu 0, .slice none 0 0, .slice none 0 0] 64, .blk p15 [vu v, vu lt, .slice A_i ins.length c_i, .slice A73 (j + 1) c74] 64, .row A_i ins.length c_i 89 35 (insR ins), .row A73 (j + 1) c74 91 2 (outsR (List.take j outs) ++ [vu x59.pv, .string (strOf x59.lb)])] w78 := H80.sub (List.Sublist.cons_cons _ (List.Sublist.cons_cons _ (List.Sublist.cons_cons _ (List.Sublist.cons_cons _ (List.Sublist.cons_cons _ (List.Sublist.cons _ (List.Sublist.cons _ (List.Sublist.slnil))))))))
     have H83 : Hp w [] [.blk p3 [vw v, .slice A ins.length ca, .slice B outs.length cb, vw lt] 26, .blk p7 [lu 0, lu 0, .slice none 0 0, .slice none 0 0] 64, .blk p15 [vu v, vu lt, .slice A_i ins.length c_i, .slice A73 (j + 1) c74] 64, .row A_i ins.length c_i 89 35 (insR ins), .row A73 (j + 1) c74 91 2 (outsR (List.take (j + 1) outs))] w78 := by rw [outsR_snoc hx60]; exact H82
     refine GL.fit (ts := [2, 3, 41, 42, 43]) (M' := [(2, pt p7 0), (3, pt p15 0), (41, .slice B outs.length cb), (42, vi outs.length), (43, vi (j + 1))]) (by kernel_rfl) ?_
     refine GL.eq (M' := [(2, pt p7 0), (3, pt p15 0), (41, .slice B outs.length cb), (42, vi outs.length), (43, vi (j + 1))]) (by rfl) ?_
     exact GL.again ⟨(j + 1), A73, c74⟩ [2, 3, 41, 42, 43] rfl (by kernel_rfl) (by show outs.length - (j + 1) < outs.length - j; omega) ⟨by omega, H83⟩
 · skip
   have hb34f := of_decide_eq_true hb34
   refine G.yes rfl ?_
   refine G.skipK hK33 (fun _ _ h => h) ?_
   refine G.seqK fun K84 hK85 => ?_
   refine G.block ?_
   refine G.sr fun K86 hK87 => ?_
   obtain ⟨x88, hx89⟩ : ∃ x, ins[i]? = some x := ⟨_, List.getElem?_eq_getElem (by omega)⟩
   have hok90 := hI x88 (List.mem_of_getElem? hx89)
   have hixx88 := hok90.2.1
   have hsqx88 := hok90.2.2.1
   refine GL.s 1 (run_idxRdN (P := Try.prog) (k := .i64) (t := 23) (sz := 35) (A := A) (len := ins.length) (cap := ca) (j := i) (by kernel_rfl) rfl (hIns.hp H29) (insC_length (fun x_ h_ => (hI x_ h_).1)) (by decide) (by omega)) [(1, pt p3 0), (2, pt p7 0), (3, pt p15 0), (16, .slice A ins.length ca), (17, vi ins.length), (18, vi i), (20, .pointer (Option.map (fun x => Addr.add x (i * 35)) A))] ?_
   refine GL.s 2 (run_ldRdA (P := Try.prog) (ty := 53) (A := A) (o := (i * 35)) (m := 35) (sub := x88.cells) (by kernel_rfl) (hIns.hp H29) (insC_cut (fun x_ h_ => (hI x_ h_).1) hx89) (TIn.cells_length hok90.1) (by decide)) [(1, pt p3 0), (2, pt p7 0), (3, pt p15 0), (16, .slice A ins.length ca), (17, vi ins.length), (18, vi i), (21, .agg (x88.cells).toArray)] ?_
   obtain ⟨p91, w92, r93, H94⟩ := H29.alloc (P := Try.prog) 53 (TIn.nil.cells) (by kernel_rfl)
   refine GL.s 3 (r93) [(1, pt p3 0), (2, pt p7 0), (3, pt p15 0), (5, pt p91 0), (16, .slice A ins.length ca), (17, vi ins.length), (18, vi i), (21, .agg (x88.cells).toArray)] ?_
   obtain ⟨w95, r96, H97⟩ := H94.stA (P := Try.prog) (o := 0) (vs := x88.cells) (ty := 53) (m := 35) 4 rfl (by kernel_rfl) (TIn.cells_length hok90.1) (by rw [Nat.zero_add, TIn.cells_length rfl]; exact Nat.le_refl _) TIn.cells_one
   rw [tx_whole (TIn.cells_length rfl)] at H97
   refine GL.u 4 r96 [(1, pt p3 0), (2, pt p7 0), (3, pt p15 0), (5, pt p91 0), (16, .slice A ins.length ca), (17, vi ins.length), (18, vi i)] ?_
   refine GL.q hK87 ?_
   refine G.region ?_
   refine GL.r 1 1 [(1, pt p3 0), (2, pt p7 0), (3, pt p15 0), (5, pt p91 0), (16, .slice A ins.length ca), (17, vi ins.length), (18, vi i), (22, pt p15 2)] ?_
   refine GL.s 2 (H97.ld (o := 2) (ty := 61) (v := .slice A_i i c_i) 2 rfl (by kernel_rfl) rfl) [(1, pt p3 0), (2, pt p7 0), (3, pt p15 0), (5, pt p91 0), (16, .slice A ins.length ca), (17, vi ins.length), (18, vi i), (23, .slice A_i i c_i)] ?_
   refine GL.r 3 1 [(1, pt p3 0), (2, pt p7 0), (3, pt p15 0), (5, pt p91 0), (16, .slice A ins.length ca), (17, vi ins.length), (18, vi i), (23, .slice A_i i c_i), (24, pt p91 0)] ?_
   refine GL.s 4 (H97.ldA (o := 0) (ty := 51) (m := 32) (sub := by8 x88.fr) 4 rfl (by kernel_rfl) (TIn.cells_fr hok90.1) (by rw [by8_length, hok90.1])) [(1, pt p3 0), (2, pt p7 0), (3, pt p15 0), (5, pt p91 0), (16, .slice A ins.length ca), (17, vi ins.length), (18, vi i), (23, .slice A_i i c_i), (25, .agg (by8 x88.fr).toArray)] ?_
   refine GL.r 5 1 [(1, pt p3 0), (2, pt p7 0), (3, pt p15 0), (5, pt p91 0), (16, .slice A ins.length ca), (17, vi ins.length), (18, vi i), (23, .slice A_i i c_i), (25, .agg (by8 x88.fr).toArray), (26, pt p91 32)] ?_
   refine GL.s 6 (H97.ld (o := 32) (ty := 22) (v := vw x88.ix) 4 rfl (by kernel_rfl) (TIn.cells_ix hok90.1)) [(1, pt p3 0), (2, pt p7 0), (3, pt p15 0), (5, pt p91 0), (16, .slice A ins.length ca), (17, vi ins.length), (18, vi i), (23, .slice A_i i c_i), (25, .agg (by8 x88.fr).toArray), (27, vw x88.ix)] ?_
   refine GL.r 8 2 [(1, pt p3 0), (2, pt p7 0), (3, pt p15 0), (5, pt p91 0), (16, .slice A ins.length ca), (17, vi ins.length), (18, vi i), (23, .slice A_i i c_i), (25, .agg (by8 x88.fr).toArray), (28, lu (IntKind.u64.wrap (x88.ix : Int))), (29, pt p91 34)] ?_
   have e98 : (IntKind.u64.wrap (x88.ix : Int)) = (x88.ix : Int) := in_u64 (by omega)
   rw [e98]
   clear e98
   refine GL.s 9 (H97.ld (o := 34) (ty := 22) (v := vw x88.sq) 4 rfl (by kernel_rfl) (TIn.cells_sq hok90.1)) [(1, pt p3 0), (2, pt p7 0), (3, pt p15 0), (5, pt p91 0), (16, .slice A ins.length ca), (17, vi ins.length), (18, vi i), (23, .slice A_i i c_i), (25, .agg (by8 x88.fr).toArray), (28, vu x88.ix), (30, vw x88.sq)] ?_
   refine GL.r 11 2 [(1, pt p3 0), (2, pt p7 0), (3, pt p15 0), (16, .slice A ins.length ca), (17, vi ins.length), (18, vi i), (23, .slice A_i i c_i), (25, .agg (by8 x88.fr).toArray), (28, vu x88.ix), (31, lu (IntKind.u64.wrap (x88.sq : Int))), (32, pt p91 33)] ?_
   have e99 : (IntKind.u64.wrap (x88.sq : Int)) = (x88.sq : Int) := in_u64 (by omega)
   rw [e99]
   clear e99
   refine GL.s 12 (H97.ld (o := 33) (ty := 38) (v := .slice x88.B x88.kb.length x88.kc) 4 rfl (by kernel_rfl) (TIn.cells_key hok90.1)) [(1, pt p3 0), (2, pt p7 0), (3, pt p15 0), (16, .slice A ins.length ca), (17, vi ins.length), (18, vi i), (23, .slice A_i i c_i), (25, .agg (by8 x88.fr).toArray), (28, vu x88.ix), (31, vu x88.sq), (33, .slice x88.B x88.kb.length x88.kc)] ?_
   refine GL.s 13 (run_toStr (P := Try.prog) (src := 38) (dst := 9) (A := x88.B) (bs := x88.kb) (n := x88.kb.length) (c := x88.kc) (by kernel_rfl) (by kernel_rfl) (hok90.2.2.2.1.hp H97) (rfl)) [(1, pt p3 0), (2, pt p7 0), (3, pt p15 0), (16, .slice A ins.length ca), (17, vi ins.length), (18, vi i), (23, .slice A_i i c_i), (25, .agg (by8 x88.fr).toArray), (28, vu x88.ix), (31, vu x88.sq), (34, .string (strOf x88.kb))] ?_
   refine GL.s 14 (run_inBuild x88 hok90.1 _) [(1, pt p3 0), (2, pt p7 0), (3, pt p15 0), (16, .slice A ins.length ca), (17, vi ins.length), (18, vi i), (23, .slice A_i i c_i), (35, .agg (x88.rcells).toArray)] ?_
   obtain ⟨p100, w101, r102, H103⟩ := H97.madeIn x88 hok90.1
   refine GL.s 15 (r102) [(1, pt p3 0), (2, pt p7 0), (3, pt p15 0), (16, .slice A ins.length ca), (17, vi ins.length), (18, vi i), (23, .slice A_i i c_i), (36, .slice (some ⟨p100, 0, none⟩) 1 1)] ?_
   obtain ⟨A104, c105, w106, r107, H108⟩ := H103.append (P := Try.prog) (e := 89) (sz := 35) (by_ := 64) (n := i) (c := c_i) (m := 1) (d := 1) (t := 61) (ty := 61) (xs := insR (List.take i ins)) (news := x88.rcells) 3 rfl (by kernel_rfl) (H103.rdBlk (o := 0) (xs := x88.rcells) 5 35 rfl (tx_sub (TIn.rcells_length hok90.1))) (by rw [TIn.rcells_length hok90.1]) (TIn.rcells_one) (by omega) (by simp only [maxLen]; omega)
   refine GL.s 16 (r107) [(1, pt p3 0), (2, pt p7 0), (3, pt p15 0), (16, .slice A ins.length ca), (17, vi ins.length), (18, vi i), (37, .slice A104 (i + 1) c105)] ?_
   refine GL.r 17 1 [(1, pt p3 0), (2, pt p7 0), (3, pt p15 0), (16, .slice A ins.length ca), (17, vi ins.length), (18, vi i), (37, .slice A104 (i + 1) c105), (38, pt p15 2)] ?_
   obtain ⟨w109, r110, H111⟩ := H108.st (P := Try.prog) (o := 2) (ty := 61) (v := .slice A104 (i + 1) c105) 2 rfl (by kernel_rfl) (by simp) rfl
   refine GL.u 18 r110 [(1, pt p3 0), (2, pt p7 0), (3, pt p15 0), (16, .slice A ins.length ca), (17, vi ins.length), (18, vi i)] ?_
   refine GL.q hK85 ?_
   refine G.region ?_
   refine GL.r 2 2 [(1, pt p3 0), (2, pt p7 0), (3, pt p15 0), (16, .slice A ins.length ca), (17, vi ins.length), (18, li (IntKind.i64.wrap ((i : Int) + 1)))] ?_
   have e112 : (IntKind.i64.wrap ((i : Int) + 1)) = ((i + 1 : Nat) : Int) := by rw [in_i64 (by omega)]; omega
   rw [e112]
   clear e112
   have H113 : Hp w [] [.blk p3 [vw v, .slice A ins.length ca, .slice B outs.length cb, vw lt] 26, .blk p7 [lu 0, lu 0, .slice none 0 0, .slice none 0 0] 64, .blk p15 [vu v, vu lt, .slice A104 (i + 1) c105, .slice none 0 0] 64, .row A104 (i + 1) c105 89 35 (insR (List.take i ins) ++ x88.rcells)] w109 := H111.sub (List.Sublist.cons_cons _ (List.Sublist.cons_cons _ (List.Sublist.cons_cons _ (List.Sublist.cons_cons _ (List.Sublist.cons _ (List.Sublist.cons _ (List.Sublist.slnil)))))))
   have H114 : Hp w [] [.blk p3 [vw v, .slice A ins.length ca, .slice B outs.length cb, vw lt] 26, .blk p7 [lu 0, lu 0, .slice none 0 0, .slice none 0 0] 64, .blk p15 [vu v, vu lt, .slice A104 (i + 1) c105, .slice none 0 0] 64, .row A104 (i + 1) c105 89 35 (insR (List.take (i + 1) ins))] w109 := by rw [insR_snoc hx89]; exact H113
   refine GL.fit (ts := [1, 2, 3, 16, 17, 18]) (M' := [(1, pt p3 0), (2, pt p7 0), (3, pt p15 0), (16, .slice A ins.length ca), (17, vi ins.length), (18, vi (i + 1))]) (by kernel_rfl) ?_
   refine GL.eq (M' := [(1, pt p3 0), (2, pt p7 0), (3, pt p15 0), (16, .slice A ins.length ca), (17, vi ins.length), (18, vi (i + 1))]) (by rfl) ?_
   exact GL.again ⟨(i + 1), A104, c105⟩ [1, 2, 3, 16, 17, 18] rfl (by kernel_rfl) (by show ins.length - (i + 1) < ins.length - i; omega) ⟨by omega, H114⟩
end Go.Proofs.Ytcedmbdahbdmaaa
namespace Go.Proofs.Ytcedmbdahbdmaaa
open Go.RowKit
section
variable {P : Program} {w0 w : World} {S : List Nat} {L : List Ent}
theorem Hp.copyBlk (H : Hp w0 S L w) (i : Nat) {A : Option Addr} {b o n c m d t t2 ty e0 : Nat} {cs : List Value} {ys : List UInt8} (hL : L[i]? = some (.blk b cs e0)) (ht : slcOf P t = some 1) (hx : RdS w A (by8 ys)) (hm : ys.length = m) (hmn : m ≤ n) (hfit : o + m ≤ cs.length) :
   ∃ w', (Builtin.copy_ #[t, t2] ty #[.slice (some ⟨b, o, none⟩) n c, .slice A m d]).run P w = .ok (goInt m) w' ∧ Hp w0 S (L.set i (.blk b (cs.take o ++ by8 ys ++ cs.drop (o + m)) e0)) w' := by
 obtain ⟨e, hu, hs⟩ := slcOf_spec ht
 obtain ⟨w', hr, H'⟩ := Hp.stCells (P := P) i (b := b) (t := e0) o (by8 ys) 0 L w cs H hL (by rw [by8_length]; omega) (by8_one ys)
 rw [by8_length, hm, Nat.add_zero] at H'
 have hmin : Nat.min m n = m := Nat.min_eq_left hmn
 refine ⟨w', ?_, H'⟩
 rcases hx with h0 | ⟨a, hA, _, hc⟩
 · have hy : ys = [] := List.eq_nil_of_length_eq_zero (by rw [← by8_length, h0]; rfl)
   subst hy
   have hm0 : m = 0 := hm.symm
   subst hm0
   cases A with
   | none =>
     have hr0 : (storeCells ⟨b, o, none⟩ [] 0).run P w = .ok () w' := hr
     simp [Builtin.copy_, run_underlying hu, Builtin.lenOf, Builtin.firstCells, hs, hr0]
   | some a =>
     have hl := run_loadCells_list (P := P) w a [] (fun j v h => by simp at h)
     have hr0 : (storeCells ⟨b, o, none⟩ [] 0).run P w = .ok () w' := hr
     simp at hl
     simp [Builtin.copy_, run_underlying hu, Builtin.lenOf, Builtin.firstCells, hs, hl, hr0]
 · subst hA
   have hl := run_loadCells_list (P := P) w a (by8 ys) hc
   rw [by8_length, hm] at hl
   simp [Builtin.copy_, run_underlying hu, Builtin.lenOf, Builtin.firstCells, hs, hmin, hl, hr]
theorem copied_whole {cs : List Value} {ys : List UInt8} (h : cs.length = ys.length) : cs.take 0 ++ by8 ys ++ cs.drop (0 + ys.length) = by8 ys := by
 rw [List.take_zero, List.nil_append, List.drop_eq_nil_of_le (by omega), List.append_nil]
theorem copied_none {cs : List Value} (o : Nat) : cs.take o ++ by8 [] ++ cs.drop (o + 0) = cs := by
 show cs.take o ++ [] ++ _ = _
 rw [List.append_nil, Nat.add_zero, List.take_append_drop]
end
end Go.Proofs.Ytcedmbdahbdmaaa
namespace Go.Proofs.Ytcedmbdahbdmaaa
open Go.RowKit
section
variable {wr z : Bool} {rest q v : List UInt8} {n : Nat}
theorem rV_or (wr : Bool) (rest : List UInt8) (n : Nat) : (rV wr rest n).length = n ∨ (rV wr rest n).length = 0 := by
 rcases rOK_cases wr rest n with ⟨h1, h2, h3⟩ | ⟨_, h2, _⟩
 · left
   unfold rV
   rw [if_pos h1, List.length_take]
   omega
 · right
   rw [h2]
   rfl
theorem rd_back (hz : z = (!(rOK wr rest n))) (hq : q = rR wr rest n) (hv : v = rV wr rest n) (h : z = false) : wr = false ∧ n ≤ rest.length ∧ q = rest.drop n ∧ v = rest.take n := by
 rcases rOK_cases wr rest n with ⟨h1, h2, h3⟩ | ⟨h1, _, _⟩
 · subst h2
   obtain ⟨_, o2, o3⟩ := rOK_true (rest := rest) (n := n) h3
   exact ⟨rfl, h3, hq.trans o3, hv.trans o2⟩
 · rw [hz, h1] at h
   cases h
theorem rd_on (hz : z = (!(rOK wr rest n))) (hq : q = rR wr rest n) (hv : v = rV wr rest n) (h : wr = false) (hn : n ≤ rest.length) : z = false ∧ q = rest.drop n ∧ v = rest.take n := by
 subst h
 obtain ⟨o1, o2, o3⟩ := rOK_true (rest := rest) (n := n) hn
 exact ⟨by rw [hz, o1]; rfl, hq.trans o3, hv.trans o2⟩
end
def endB (z : Bool) (q : List UInt8) : Bool := !z && (q.length == 0)
theorem endB_true {z : Bool} {q : List UInt8} (h : endB z q = true) : z = false ∧ q.length = 0 := by
 unfold endB at h
 rw [Bool.and_eq_true, Bool.not_eq_true', beq_iff_eq] at h
 exact h
theorem endB_false {z : Bool} {q : List UInt8} (h : endB z q = false) (hz : z = false) (hq : q.length = 0) : False := by
 subst hz
 unfold endB at h
 rw [hq] at h
 cases h
def hsh (ys : List UInt8) : List UInt8 := if ys.length = 32 then ys else List.replicate 32 0
theorem hsh_length (ys : List UInt8) : (hsh ys).length = 32 := by
 unfold hsh
 split
 · assumption
 · rfl
theorem hsh_of {ys : List UInt8} (h : ys.length = 32) : hsh ys = ys := if_pos h
theorem hsh_copied {ys : List UInt8} (h : ys.length = 32 ∨ ys.length = 0) : (by8 (List.replicate 32 0)).take 0 ++ by8 ys ++ (by8 (List.replicate 32 0)).drop (0 + ys.length) = by8 (hsh ys) := by
 rcases h with h | h
 · rw [copied_whole (by rw [by8_length, h]; rfl), hsh_of h]
 · obtain rfl := List.eq_nil_of_length_eq_zero h
   rw [List.length_nil, copied_none]
   rfl
end Go.Proofs.Ytcedmbdahbdmaaa
namespace Go.Proofs.Ytcedmbdahbdmaaa
open Go.RowKit
def Stp (on : Prop) (n : Nat) (z : Bool) (q : List UInt8) (z' : Bool) (q' v : List UInt8) : Prop := (on → z' = (!(rOK z q n)) ∧ q' = rR z q n ∧ v = rV z q n) ∧ (¬ on → z' = z ∧ q' = q ∧ v = [])
def StpC (on : Prop) (m : Nat) (z : Bool) (q : List UInt8) (z' : Bool) (q' v : List UInt8) : Prop := (on → z' = (!(cdOK z q m)) ∧ q' = cdR z q m ∧ v = cdV z q m) ∧ (¬ on → z' = z ∧ q' = q ∧ v = [])
section
variable {on : Prop} {n m : Nat} {z z' : Bool} {q q' v : List UInt8}
theorem Stp.back (h : Stp on n z q z' q' v) (hz : z' = false) : z = false ∧ q = v ++ q' ∧ (on → v.length = n) ∧ (¬ on → v = []) := by
 by_cases ho : on
 · obtain ⟨h1, h2, h3⟩ := h.1 ho
   obtain ⟨f, hn, hd, ht⟩ := rd_back h1 h2 h3 hz
   exact ⟨f, by rw [ht, hd, List.take_append_drop], fun _ => by rw [ht, List.length_take]; omega, fun h => absurd ho h⟩
 · obtain ⟨h1, h2, h3⟩ := h.2 ho
   exact ⟨by rw [← h1]; exact hz, by rw [h2, h3]; rfl, fun h => absurd h ho, fun _ => h3⟩
theorem Stp.on_ (h : Stp on n z q z' q' v) (hz : z = false) {X T : List UInt8} (hq : q = X ++ T) (hX : on → X.length = n) (hX0 : ¬ on → X = []) : z' = false ∧ q' = T ∧ v = X := by
 by_cases ho : on
 · obtain ⟨h1, h2, h3⟩ := h.1 ho
   obtain ⟨f, hd, ht⟩ := rd_on h1 h2 h3 hz (by rw [hq, List.length_append, hX ho]; omega)
   exact ⟨f, by rw [hd, hq, List.drop_left' (hX ho)], by rw [ht, hq, List.take_left' (hX ho)]⟩
 · obtain ⟨h1, h2, h3⟩ := h.2 ho
   refine ⟨by rw [h1]; exact hz, ?_, ?_⟩
   · rw [h2, hq, hX0 ho]
     rfl
   · rw [h3, hX0 ho]
theorem ct_sound (h : ctOK z q m = true) : z = false ∧ q = cnt (ctV z q m) ++ ctR z q m ∧ ctV z q m ≤ m := by
 have h' := h
 simp only [ctOK, Bool.and_eq_true, Bool.not_eq_true', decide_eq_true_eq] at h'
 obtain ⟨hw, hsz, hm⟩ := h'
 have e1 : ctV z q m = ctX z q := by unfold ctV; rw [if_pos h]
 have e2 : ctR z q m = ctT z q := by unfold ctR; rw [if_pos h]
 have p : ∀ (l : List UInt8) (k : Nat), k ≤ l.length → putB (getB (l.take k)) k = l.take k := fun l k hk => by
   have := putB_get (l.take k)
   rwa [show (l.take k).length = k by rw [List.length_take]; omega] at this
 rw [e1, e2]
 by_cases h0 : ctN z q = 0
 · obtain ⟨x1, x2, x3⟩ := ct_short h0
   rcases rOK_cases z q 1 with ⟨g1, g2, g3⟩ | ⟨g1, _, _⟩
   · subst g2
     obtain ⟨_, o2, o3⟩ := rOK_true (rest := q) (n := 1) g3
     refine ⟨rfl, ?_, hm⟩
     rw [h0] at hsz
     rcases cnt_cases (ctX false q) with ⟨_, _, e⟩ | ⟨_, _, hs, _⟩ | ⟨_, _, hs, _⟩ | ⟨_, hs, _⟩
     · rw [e, x1, x3, o2, o3, p q 1 g3, List.take_append_drop]
     all_goals omega
   · rw [x2, g1] at hw
     cases hw
 · obtain ⟨x1, x2, x3⟩ := ct_long (n := ctN z q) rfl h0
   rw [x2] at hw
   rcases rOK_cases (!(rOK z q 1)) (rR z q 1) (ctN z q) with ⟨g1, g2, g3⟩ | ⟨g1, _, _⟩
   · rcases rOK_cases z q 1 with ⟨k1, k2, k3⟩ | ⟨k1, _, _⟩
     · subst k2
       obtain ⟨_, o2, o3⟩ := rOK_true (rest := q) (n := 1) k3
       rw [o3] at g3
       obtain ⟨_, r2, r3⟩ := rOK_true (rest := q.drop 1) (n := ctN false q) g3
       rw [k1, o3] at x1 x3
       change ctX false q = getB (rV false (q.drop 1) (ctN false q)) at x1
       change ctT false q = rR false (q.drop 1) (ctN false q) at x3
       rw [r2] at x1
       rw [r3] at x3
       have hN : (getB (rV false q 1) = 253 ∧ ctN false q = 2) ∨ (getB (rV false q 1) = 254 ∧ ctN false q = 4) ∨ (getB (rV false q 1) = 255 ∧ ctN false q = 8) := by
         unfold ctN at h0 ⊢
         by_cases a1 : getB (rV false q 1) = 253
         · exact .inl ⟨a1, by rw [if_pos a1]⟩
         · by_cases a2 : getB (rV false q 1) = 254
           · exact .inr (.inl ⟨a2, by rw [if_neg a1, if_pos a2]⟩)
           · by_cases a3 : getB (rV false q 1) = 255
             · exact .inr (.inr ⟨a3, by rw [if_neg a1, if_neg a2, if_pos a3]⟩)
             · rw [if_neg a1, if_neg a2, if_neg a3] at h0
               exact absurd rfl h0
       have hd : ∀ s, getB (rV false q 1) = s → q = putB s 1 ++ q.drop 1 := fun s hs => by
         rw [← hs, o2, p q 1 k3, List.take_append_drop]
       have hd2 : q.drop 1 = putB (ctX false q) (ctN false q) ++ ctT false q := by
         rw [x1, x3, p (q.drop 1) (ctN false q) g3, List.take_append_drop]
       refine ⟨rfl, ?_, hm⟩
       rcases hN with ⟨a, b⟩ | ⟨a, b⟩ | ⟨a, b⟩
       · rw [b] at hsz hd2
         rcases cnt_cases (ctX false q) with ⟨_, hs, _⟩ | ⟨_, _, _, e⟩ | ⟨_, _, hs, _⟩ | ⟨_, hs, _⟩
         · omega
         · rw [e, List.append_assoc, ← hd2]
           exact hd _ a
         all_goals omega
       · rw [b] at hsz hd2
         rcases cnt_cases (ctX false q) with ⟨_, hs, _⟩ | ⟨_, _, hs, _⟩ | ⟨_, _, _, e⟩ | ⟨_, hs, _⟩
         · omega
         · omega
         · rw [e, List.append_assoc, ← hd2]
           exact hd _ a
         · omega
       · rw [b] at hsz hd2
         rcases cnt_cases (ctX false q) with ⟨_, hs, _⟩ | ⟨_, _, hs, _⟩ | ⟨_, _, hs, _⟩ | ⟨_, _, e⟩
         · omega
         · omega
         · omega
         · rw [e, List.append_assoc, ← hd2]
           exact hd _ a
     · rw [k1] at g2
       cases g2
   · rw [g1] at hw
     cases hw
theorem cd_sound (h : cdOK z q m = true) : z = false ∧ q = cnt (cdV z q m).length ++ cdV z q m ++ cdR z q m ∧ (cdV z q m).length ≤ m := by
 unfold cdOK at h
 rcases rOK_cases (!(ctOK z q m)) (ctR z q m) (ctV z q m) with ⟨g1, g2, g3⟩ | ⟨g1, _, _⟩
 · have hc : ctOK z q m = true := by
     cases hh : ctOK z q m
     · rw [hh] at g2
       cases g2
     · rfl
   obtain ⟨a, b, c⟩ := ct_sound hc
   obtain ⟨_, o2, o3⟩ := rOK_true (rest := ctR z q m) (n := ctV z q m) g3
   have eV : cdV z q m = (ctR z q m).take (ctV z q m) := by unfold cdV; rw [hc]; exact o2
   have eR : cdR z q m = (ctR z q m).drop (ctV z q m) := by unfold cdR; rw [hc]; exact o3
   have hl : (cdV z q m).length = ctV z q m := by rw [eV, List.length_take]; omega
   refine ⟨a, ?_, by rw [hl]; exact c⟩
   rw [hl, List.append_assoc, eV, eR, List.take_append_drop]
   exact b
 · rw [g1] at h
   cases h
theorem ct_on (hm : n ≤ m) (hn : n < 18446744073709551616) (T : List UInt8) : ctOK false (cnt n ++ T) m = true ∧ ctV false (cnt n ++ T) m = n ∧ ctR false (cnt n ++ T) m = T := by
 obtain ⟨a, b, c⟩ := ct_cn (cnt n ++ T) m
 obtain ⟨x1, x2, x3, x4⟩ := cn_cnt hn T
 have hh : (cnOK (cnt n ++ T) && decide (cnX (cnt n ++ T) ≤ m)) = true := by rw [x1, x2, decide_eq_true hm]; rfl
 rw [hh] at a b c
 exact ⟨a, by rw [b, if_pos rfl, x2], by rw [c, if_pos rfl, x3]⟩
theorem cd_on {b T : List UInt8} (hm : b.length ≤ m) (hn : b.length < 18446744073709551616) : cdOK false (cnt b.length ++ b ++ T) m = true ∧ cdV false (cnt b.length ++ b ++ T) m = b ∧ cdR false (cnt b.length ++ b ++ T) m = T := by
 rw [List.append_assoc]
 obtain ⟨a, b', c⟩ := ct_on hm hn (b ++ T)
 obtain ⟨o1, o2, o3⟩ := rOK_true (rest := b ++ T) (n := b.length) (by rw [List.length_append]; omega)
 unfold cdOK cdV cdR
 rw [a, b', c]
 exact ⟨o1, o2.trans (List.take_left' rfl), o3.trans (List.drop_left' rfl)⟩
theorem StpC.back (h : StpC on m z q z' q' v) (hz : z' = false) : z = false ∧ (on → q = cnt v.length ++ v ++ q' ∧ v.length ≤ m) ∧ (¬ on → v = [] ∧ q = q') := by
 by_cases ho : on
 · obtain ⟨h1, h2, h3⟩ := h.1 ho
   have hc : cdOK z q m = true := by
     cases hh : cdOK z q m
     · rw [h1, hh] at hz
       cases hz
     · rfl
   obtain ⟨a, b, c⟩ := cd_sound hc
   exact ⟨a, fun _ => ⟨by rw [h2, h3]; exact b, by rw [h3]; exact c⟩, fun h => absurd ho h⟩
 · obtain ⟨h1, h2, h3⟩ := h.2 ho
   exact ⟨by rw [← h1]; exact hz, fun h => absurd h ho, fun _ => ⟨h3, h2.symm⟩⟩
theorem StpC.on_ (h : StpC on m z q z' q' v) (hz : z = false) {b T : List UInt8} (hq : on → q = cnt b.length ++ b ++ T ∧ b.length ≤ m) (hm : m < 18446744073709551616) (h0 : ¬ on → q = T ∧ b = []) : z' = false ∧ q' = T ∧ v = b := by
 by_cases ho : on
 · obtain ⟨h1, h2, h3⟩ := h.1 ho
   obtain ⟨e, hb⟩ := hq ho
   subst hz e
   obtain ⟨a, b', c⟩ := cd_on (T := T) hb (by omega)
   exact ⟨by rw [h1, a]; rfl, h2.trans c, h3.trans b'⟩
 · obtain ⟨h1, h2, h3⟩ := h.2 ho
   obtain ⟨e, eb⟩ := h0 ho
   exact ⟨by rw [h1]; exact hz, by rw [h2]; exact e, by rw [h3, eb]⟩
end
end Go.Proofs.Ytcedmbdahbdmaaa
namespace Go.Proofs.Ytcedmbdahbdmaaa
open Go.RowKit
section
variable {z z' : Bool} {q q' v : List UInt8} {n m : Nat}
theorem rq_back (hz : z' = (!(rOK z q n))) (hq : q' = rR z q n) (hv : v = rV z q n) (h : z' = false) : z = false ∧ q = v ++ q' ∧ v.length = n := by
 obtain ⟨f, hn, hd, ht⟩ := rd_back hz hq hv h
 exact ⟨f, by rw [ht, hd, List.take_append_drop], by rw [ht, List.length_take]; omega⟩
theorem rq_on (hz : z' = (!(rOK z q n))) (hq : q' = rR z q n) (hv : v = rV z q n) (h : z = false) {X T : List UInt8} (hX : q = X ++ T) (hl : X.length = n) : z' = false ∧ q' = T ∧ v = X := by
 obtain ⟨f, hd, ht⟩ := rd_on hz hq hv h (by rw [hX, List.length_append]; omega)
 exact ⟨f, by rw [hd, hX, List.drop_left' hl], by rw [ht, hX, List.take_left' hl]⟩
theorem cq_back (hz : z' = (!(cdOK z q m))) (hq : q' = cdR z q m) (hv : v = cdV z q m) (h : z' = false) : z = false ∧ q = (cnt v.length ++ v) ++ q' ∧ v.length ≤ m := by
 have hc : cdOK z q m = true := by
   cases hh : cdOK z q m
   · rw [hz, hh] at h
     cases h
   · rfl
 obtain ⟨a, b, c⟩ := cd_sound hc
 exact ⟨a, by rw [hv, hq]; exact b, by rw [hv]; exact c⟩
theorem cq_on (hz : z' = (!(cdOK z q m))) (hq : q' = cdR z q m) (hv : v = cdV z q m) (h : z = false) {b T : List UInt8} (hX : q = (cnt b.length ++ b) ++ T) (hl : b.length ≤ m) (hm : m < 18446744073709551616) : z' = false ∧ q' = T ∧ v = b := by
 subst h hX
 obtain ⟨a, b', c⟩ := cd_on (T := T) hl (by omega)
 exact ⟨by rw [hz, a]; rfl, by rw [hq, c], by rw [hv, b']⟩
theorem nq_back {x : Nat} (hz : z' = (!(ctOK z q m))) (hq : q' = ctR z q m) (hv : x = ctV z q m) (h : z' = false) : z = false ∧ q = cnt x ++ q' ∧ x ≤ m := by
 have hc : ctOK z q m = true := by
   cases hh : ctOK z q m
   · rw [hz, hh] at h
     cases h
   · rfl
 obtain ⟨a, b, c⟩ := ct_sound hc
 exact ⟨a, by rw [hv, hq]; exact b, by rw [hv]; exact c⟩
theorem nq_on {x y : Nat} (hz : z' = (!(ctOK z q m))) (hq : q' = ctR z q m) (hv : x = ctV z q m) (h : z = false) {T : List UInt8} (hX : q = cnt y ++ T) (hl : y ≤ m) (hm : m < 18446744073709551616) : z' = false ∧ q' = T ∧ x = y := by
 subst h hX
 obtain ⟨a, b', c⟩ := ct_on (T := T) hl (by omega)
 exact ⟨by rw [hz, a]; rfl, by rw [hq, c], by rw [hv, b']⟩
end
def VIn (y : TIn) : Prop := y.fr.length = 32 ∧ y.ix < 4294967296 ∧ y.sq < 4294967296 ∧ y.kb.length ≤ 520
def VOut (y : TOut) : Prop := y.pv < 18446744073709551616 ∧ y.lb.length ≤ 520
def RdIn (z : Bool) (q : List UInt8) (z' : Bool) (q' : List UInt8) (x : TIn) : Prop :=
 ∃ (z1 : Bool) (q1 v1 : List UInt8) (z2 : Bool) (q2 v2 : List UInt8) (z3 : Bool) (q3 v4 : List UInt8), z1 = (!(rOK z q 32)) ∧ q1 = rR z q 32 ∧ v1 = rV z q 32 ∧ z2 = (!(rOK z1 q1 4)) ∧ q2 = rR z1 q1 4 ∧ v2 = rV z1 q1 4 ∧
   z3 = (!(cdOK z2 q2 520)) ∧ q3 = cdR z2 q2 520 ∧ x.kb = cdV z2 q2 520 ∧ z' = (!(rOK z3 q3 4)) ∧ q' = rR z3 q3 4 ∧ v4 = rV z3 q3 4 ∧ x.fr = hsh v1 ∧ x.ix = getB v2 ∧ x.sq = getB v4
def RdOut (z : Bool) (q : List UInt8) (z' : Bool) (q' : List UInt8) (x : TOut) : Prop :=
 ∃ (z1 : Bool) (q1 v1 : List UInt8), z1 = (!(rOK z q 8)) ∧ q1 = rR z q 8 ∧ v1 = rV z q 8 ∧ z' = (!(cdOK z1 q1 520)) ∧ q' = cdR z1 q1 520 ∧ x.lb = cdV z1 q1 520 ∧ x.pv = getB v1
section
variable {z z' : Bool} {q q' T : List UInt8}
theorem put4 {l : List UInt8} {n : Nat} (h : l.length = n) : putB (getB l) n = l := by
 subst h
 exact putB_get l
theorem get_put {x n : Nat} (h : x < 256 ^ n) : getB (putB x n) = x := by rw [getB_put, Nat.mod_eq_of_lt h]
theorem RdIn.back {x : TIn} (h : RdIn z q z' q' x) (hz : z' = false) : z = false ∧ q = x.bytes ++ q' := by
 obtain ⟨z1, q1, v1, z2, q2, v2, z3, q3, v4, a1, a2, a3, b1, b2, b3, c1, c2, c3, d1, d2, d3, e1, e2, e3⟩ := h
 obtain ⟨f3, g3, l3⟩ := rq_back d1 d2 d3 hz
 obtain ⟨f2, g2, l2⟩ := cq_back c1 c2 c3 f3
 obtain ⟨f1, g1, l1⟩ := rq_back b1 b2 b3 f2
 obtain ⟨f0, g0, l0⟩ := rq_back a1 a2 a3 f1
 refine ⟨f0, ?_⟩
 rw [TIn.bytes, e1, e2, e3, hsh_of l0, put4 l1, put4 l3, g0, g1, g2, g3]
 simp only [List.append_assoc]
theorem RdIn.on_ {x y : TIn} (h : RdIn z q z' q' x) (hz : z = false) (hq : q = y.bytes ++ T) (hy : VIn y) : z' = false ∧ q' = T ∧ (x.fr = y.fr ∧ x.ix = y.ix ∧ x.sq = y.sq ∧ x.kb = y.kb) := by
 obtain ⟨z1, q1, v1, z2, q2, v2, z3, q3, v4, a1, a2, a3, b1, b2, b3, c1, c2, c3, d1, d2, d3, e1, e2, e3⟩ := h
 obtain ⟨y1, y2, y3, y4⟩ := hy
 obtain ⟨f1, g1, w1⟩ := rq_on a1 a2 a3 hz (X := y.fr) (by rw [hq, TIn.bytes, List.append_assoc]) y1
 obtain ⟨f2, g2, w2⟩ := rq_on b1 b2 b3 f1 (X := putB y.ix 4) (by rw [g1, List.append_assoc]) (putB_length _ _)
 obtain ⟨f3, g3, w3⟩ := cq_on c1 c2 c3 f2 (b := y.kb) (by rw [g2, List.append_assoc]) y4 (by decide)
 obtain ⟨f4, g4, w4⟩ := rq_on d1 d2 d3 f3 (X := putB y.sq 4) (by rw [g3]) (putB_length _ _)
 exact ⟨f4, g4, by rw [e1, w1, hsh_of y1], by rw [e2, w2, get_put y2], by rw [e3, w4, get_put y3], w3⟩
theorem RdOut.back {x : TOut} (h : RdOut z q z' q' x) (hz : z' = false) : z = false ∧ q = x.bytes ++ q' := by
 obtain ⟨z1, q1, v1, a1, a2, a3, c1, c2, c3, e1⟩ := h
 obtain ⟨f2, g2, l2⟩ := cq_back c1 c2 c3 hz
 obtain ⟨f0, g0, l0⟩ := rq_back a1 a2 a3 f2
 refine ⟨f0, ?_⟩
 rw [TOut.bytes, e1, put4 l0, g0, g2]
 simp only [List.append_assoc]
theorem RdOut.on_ {x y : TOut} (h : RdOut z q z' q' x) (hz : z = false) (hq : q = y.bytes ++ T) (hy : VOut y) : z' = false ∧ q' = T ∧ (x.pv = y.pv ∧ x.lb = y.lb) := by
 obtain ⟨z1, q1, v1, a1, a2, a3, c1, c2, c3, e1⟩ := h
 obtain ⟨f1, g1, w1⟩ := rq_on a1 a2 a3 hz (X := putB y.pv 8) (by rw [hq, TOut.bytes, List.append_assoc]) (putB_length _ _)
 obtain ⟨f3, g3, w3⟩ := cq_on c1 c2 c3 f1 (b := y.lb) (by rw [g1]) hy.2 (by decide)
 exact ⟨f3, g3, by rw [e1, w1, get_put hy.1], w3⟩
end
section
variable {α : Type} {f : α → List UInt8} {V : α → Prop} {g : α → Nat} {n k : Nat} {z0 z z' : Bool} {q0 q q' : List UInt8} {l : List α}
def LOf (f : α → List UInt8) (V : α → Prop) (g : α → Nat) (n : Nat) (z0 : Bool) (q0 : List UInt8) (k : Nat) (z : Bool) (q : List UInt8) (l : List α) : Prop :=
 l.length = k ∧ (z = false → z0 = false ∧ q0 = l.flatMap f ++ q) ∧ ∀ (l0 : List α) (T : List UInt8), (∀ y ∈ l0, V y) → l0.length = n → z0 = false → q0 = l0.flatMap f ++ T → z = false ∧ q = (l0.drop k).flatMap f ++ T ∧ l.map g = (l0.take k).map g
theorem LOf.zero : LOf f V g n z0 q0 0 z0 q0 [] := ⟨rfl, fun h => ⟨h, rfl⟩, fun l0 T _ _ h e => ⟨h, e, by simp⟩⟩
theorem LOf.step {x : α} (h : LOf f V g n z0 q0 k z q l) (hk : k < n) (hb : z' = false → z = false ∧ q = f x ++ q') (ho : ∀ y T, V y → z = false → q = f y ++ T → z' = false ∧ q' = T ∧ g x = g y) : LOf f V g n z0 q0 (k + 1) z' q' (l ++ [x]) := by
 obtain ⟨h1, h2, h3⟩ := h
 refine ⟨by simp [h1], fun hz => ?_, fun l0 T hV hl hz hq => ?_⟩
 · obtain ⟨e1, e2⟩ := hb hz
   obtain ⟨e3, e4⟩ := h2 e1
   refine ⟨e3, ?_⟩
   rw [e4, e2, List.flatMap_append]
   simp
 · obtain ⟨e1, e2, e3⟩ := h3 l0 T hV hl hz hq
   have hkl : k < l0.length := by omega
   have hd : l0.drop k = l0[k] :: l0.drop (k + 1) := List.drop_eq_getElem_cons hkl
   rw [hd, List.flatMap_cons, List.append_assoc] at e2
   obtain ⟨o1, o2, o3⟩ := ho _ _ (hV _ (List.getElem_mem hkl)) e1 e2
   refine ⟨o1, o2, ?_⟩
   rw [List.take_add_one, List.getElem?_eq_getElem hkl, List.map_append, List.map_append, e3]
   simp [o3]
end
section
variable {α : Type} {f : α → List UInt8} {V : α → Prop} {g : α → Nat} {n k : Nat} {z0 z : Bool} {q0 q : List UInt8} {l : List α}
def LDn (f : α → List UInt8) (V : α → Prop) (g : α → Nat) (n : Nat) (z0 : Bool) (q0 : List UInt8) (z : Bool) (q : List UInt8) (l : List α) : Prop :=
 (z = false → z0 = false ∧ q0 = l.flatMap f ++ q ∧ l.length = n) ∧ ∀ (l0 : List α) (T : List UInt8), (∀ y ∈ l0, V y) → l0.length = n → z0 = false → q0 = l0.flatMap f ++ T → z = false ∧ q = T ∧ l.map g = l0.map g ∧ l.length = n
theorem LOf.done (h : LOf f V g n z0 q0 k z q l) (hk : k = n ∨ z = true) : LDn f V g n z0 q0 z q l := by
 obtain ⟨h1, h2, h3⟩ := h
 refine ⟨fun hz => ?_, fun l0 T hV hl hz hq => ?_⟩
 · obtain ⟨a, b⟩ := h2 hz
   rcases hk with rfl | hk
   · exact ⟨a, b, h1⟩
   · rw [hz] at hk
     cases hk
 · obtain ⟨a, b, c⟩ := h3 l0 T hV hl hz hq
   rcases hk with rfl | hk
   · rw [← hl, List.drop_length, List.flatMap_nil, List.nil_append] at b
     rw [← hl, List.take_length] at c
     exact ⟨a, b, c, h1⟩
   · rw [a] at hk
     cases hk
end
def VTx (v : Nat) (ins : List TIn) (outs : List TOut) (lt : Nat) : Prop :=
 (v < 4294967296 ∧ lt < 4294967296 ∧ (∀ x ∈ ins, VIn x) ∧ ∀ x ∈ outs, VOut x) ∧ (0 < ins.length ∧ ins.length ≤ 64) ∧ (0 < outs.length ∧ outs.length ≤ 64) ∧ (∀ x ∈ outs, x.pv ≤ 4611686018427387904) ∧ (txB v ins outs lt).length ≤ 4096 ∧ (txB v ins outs lt).length ≠ 64
def NoTx (bs : List UInt8) : Prop := ∀ (v : Nat) (ins : List TIn) (outs : List TOut) (lt : Nat), VTx v ins outs lt → bs ≠ txB v ins outs lt
def Psd (bs : List UInt8) (v : Nat) (ins : List TIn) (outs : List TOut) (lt n1 n2 : Nat) (z : Bool) (q : List UInt8) : Prop :=
 ∃ (z1 : Bool) (q1 v1 : List UInt8) (z2 : Bool) (q2 : List UInt8) (z3 : Bool) (q3 : List UInt8) (z4 : Bool) (q4 : List UInt8) (z5 : Bool) (q5 v6 : List UInt8),
   z1 = (!(rOK false bs 4)) ∧ q1 = rR false bs 4 ∧ v1 = rV false bs 4 ∧ z2 = (!(ctOK z1 q1 64)) ∧ q2 = ctR z1 q1 64 ∧ n1 = ctV z1 q1 64 ∧ LDn TIn.bytes VIn (fun _ => 0) n1 z2 q2 z3 q3 ins ∧
   z4 = (!(ctOK z3 q3 64)) ∧ q4 = ctR z3 q3 64 ∧ n2 = ctV z3 q3 64 ∧ LDn TOut.bytes VOut TOut.pv n2 z4 q4 z5 q5 outs ∧ z = (!(rOK z5 q5 4)) ∧ q = rR z5 q5 4 ∧ v6 = rV z5 q5 4 ∧ v = getB v1 ∧ lt = getB v6
section
variable {bs q : List UInt8} {v lt n1 n2 : Nat} {ins : List TIn} {outs : List TOut} {z : Bool}
theorem Psd.back (h : Psd bs v ins outs lt n1 n2 z q) (hz : z = false) (hq : q.length = 0) : bs = txB v ins outs lt ∧ ins.length = n1 ∧ outs.length = n2 := by
 obtain ⟨z1, q1, v1, z2, q2, z3, q3, z4, q4, z5, q5, v6, a1, a2, a3, b1, b2, b3, L1, c1, c2, c3, L2, d1, d2, d3, e1, e2⟩ := h
 obtain ⟨f6, g6, l6⟩ := rq_back d1 d2 d3 hz
 obtain ⟨f5, g5, m2⟩ := L2.1 f6
 obtain ⟨f4, g4, _⟩ := nq_back c1 c2 c3 f5
 obtain ⟨f3, g3, m1⟩ := L1.1 f4
 obtain ⟨f2, g2, _⟩ := nq_back b1 b2 b3 f3
 obtain ⟨_, g1, l1⟩ := rq_back a1 a2 a3 f2
 have hq0 := List.eq_nil_of_length_eq_zero hq
 subst hq0
 refine ⟨?_, m1, m2⟩
 rw [txB, e1, e2, put4 l1, put4 l6, m1, m2, g1, g2, g3, g4, g5, g6, List.append_nil]
 rfl
theorem Psd.on_ (h : Psd bs v ins outs lt n1 n2 z q) {v0 lt0 : Nat} {ins0 : List TIn} {outs0 : List TOut} (hV : VTx v0 ins0 outs0 lt0) (hb : bs = txB v0 ins0 outs0 lt0) : z = false ∧ q.length = 0 ∧ (ins.length = n1 ∧ 0 < n1 ∧ n1 ≤ 64) ∧ (outs.length = n2 ∧ 0 < n2 ∧ n2 ≤ 64) ∧ ∀ x ∈ outs, x.pv ≤ 4611686018427387904 := by
 obtain ⟨z1, q1, v1, z2, q2, z3, q3, z4, q4, z5, q5, v6, a1, a2, a3, b1, b2, b3, L1, c1, c2, c3, L2, d1, d2, d3, e1, e2⟩ := h
 obtain ⟨⟨hv, hlt, hI, hO⟩, hn1, hn2, hpv, _, _⟩ := hV
 obtain ⟨f1, g1, w1⟩ := rq_on a1 a2 a3 rfl (X := putB v0 4) (by rw [hb, txB]) (putB_length _ _)
 obtain ⟨f2, g2, w2⟩ := nq_on b1 b2 b3 f1 g1 hn1.2 (by decide)
 obtain ⟨f3, g3, _, m1⟩ := L1.2 ins0 _ hI w2.symm f2 g2
 obtain ⟨f4, g4, w4⟩ := nq_on c1 c2 c3 f3 g3 hn2.2 (by decide)
 obtain ⟨f5, g5, w5, m2⟩ := L2.2 outs0 _ hO w4.symm f4 g4
 obtain ⟨f6, g6, w6⟩ := rq_on d1 d2 d3 f5 (X := putB lt0 4) (T := []) (by rw [g5, List.append_nil]) (putB_length _ _)
 refine ⟨f6, by rw [g6]; rfl, ⟨m1, by omega, by omega⟩, ⟨m2, by omega, by omega⟩, fun x hx => ?_⟩
 have hm : x.pv ∈ outs0.map TOut.pv := by
   rw [← w5]
   exact List.mem_map_of_mem hx
 obtain ⟨y, hy, he⟩ := List.mem_map.1 hm
 rw [← he]
 exact hpv y hy
end
section
variable {α : Type} {f : α → List UInt8} {V : α → Prop}
theorem flat_pre (hf : ∀ x y : α, V x → V y → ∀ S T, f x ++ S = f y ++ T → S = T) : ∀ (l m : List α), l.length = m.length → (∀ x ∈ l, V x) → (∀ y ∈ m, V y) → ∀ S T, l.flatMap f ++ S = m.flatMap f ++ T → S = T
 | [], [], _, _, _, _, _, h => h
 | x :: l, y :: m, hl, hx, hy, S, T, h => by
   rw [List.flatMap_cons, List.flatMap_cons, List.append_assoc, List.append_assoc] at h
   exact flat_pre hf l m (by simpa using hl) (fun a ha => hx a (List.mem_cons_of_mem _ ha)) (fun a ha => hy a (List.mem_cons_of_mem _ ha)) S T (hf x y (hx x List.mem_cons_self) (hy y List.mem_cons_self) _ _ h)
 | [], _ :: _, hl, _, _, _, _, _ => by simp at hl
 | _ :: _, [], hl, _, _, _, _, _ => by simp at hl
theorem app_pre {a b S T : List UInt8} (hl : a.length = b.length) (h : a ++ S = b ++ T) : a = b ∧ S = T := List.append_inj h hl
theorem cnt_pre {a b : Nat} (ha : a < 18446744073709551616) (hb : b < 18446744073709551616) {S T : List UInt8} (h : cnt a ++ S = cnt b ++ T) : a = b ∧ S = T := by
 obtain ⟨_, a2, a3⟩ := ct_on (n := a) (m := 18446744073709551615) (by omega) ha S
 obtain ⟨_, b2, b3⟩ := ct_on (n := b) (m := 18446744073709551615) (by omega) hb T
 rw [h] at a2 a3
 exact ⟨a2.symm.trans b2, a3.symm.trans b3⟩
theorem cb_pre {a b S T : List UInt8} (ha : a.length < 18446744073709551616) (hb : b.length < 18446744073709551616) (h : (cnt a.length ++ a) ++ S = (cnt b.length ++ b) ++ T) : a = b ∧ S = T := by
 rw [List.append_assoc, List.append_assoc] at h
 obtain ⟨h1, h2⟩ := cnt_pre ha hb h
 exact app_pre h1 h2
theorem in_pre (x y : TIn) (hx : VIn x) (hy : VIn y) (S T : List UInt8) (h : x.bytes ++ S = y.bytes ++ T) : S = T := by
 rw [TIn.bytes, TIn.bytes] at h
 simp only [List.append_assoc] at h
 obtain ⟨_, h⟩ := app_pre (hx.1.trans hy.1.symm) h
 obtain ⟨_, h⟩ := app_pre ((putB_length _ _).trans (putB_length _ _).symm) h
 rw [← List.append_assoc (cnt x.kb.length), ← List.append_assoc (cnt y.kb.length)] at h
 obtain ⟨_, h⟩ := cb_pre (Nat.lt_of_le_of_lt hx.2.2.2 (by decide)) (Nat.lt_of_le_of_lt hy.2.2.2 (by decide)) h
 exact (app_pre ((putB_length _ _).trans (putB_length _ _).symm) h).2
theorem out_pre (x y : TOut) (hx : VOut x) (hy : VOut y) (S T : List UInt8) (h : x.bytes ++ S = y.bytes ++ T) : S = T := by
 rw [TOut.bytes, TOut.bytes] at h
 simp only [List.append_assoc] at h
 obtain ⟨_, h⟩ := app_pre ((putB_length _ _).trans (putB_length _ _).symm) h
 rw [← List.append_assoc (cnt x.lb.length), ← List.append_assoc (cnt y.lb.length)] at h
 exact (cb_pre (Nat.lt_of_le_of_lt hx.2 (by decide)) (Nat.lt_of_le_of_lt hy.2 (by decide)) h).2
theorem tx_pre {v v' lt lt' : Nat} {ins ins' : List TIn} {outs outs' : List TOut} (h : VTx v ins outs lt) (h' : VTx v' ins' outs' lt') {S T : List UInt8} (e : txB v ins outs lt ++ S = txB v' ins' outs' lt' ++ T) : S = T ∧ ins.length = ins'.length ∧ outs.length = outs'.length := by
 obtain ⟨⟨_, _, hI, hO⟩, hn, hm, _⟩ := h
 obtain ⟨⟨_, _, hI', hO'⟩, hn', hm', _⟩ := h'
 rw [txB, txB] at e
 simp only [List.append_assoc] at e
 obtain ⟨_, e⟩ := app_pre ((putB_length _ _).trans (putB_length _ _).symm) e
 obtain ⟨e1, e⟩ := cnt_pre (by omega) (by omega) e
 have e := flat_pre in_pre ins ins' e1 hI hI' _ _ e
 obtain ⟨e2, e⟩ := cnt_pre (by omega) (by omega) e
 have e := flat_pre out_pre outs outs' e2 hO hO' _ _ e
 exact ⟨(app_pre ((putB_length _ _).trans (putB_length _ _).symm) e).2, e1, e2⟩
end
end Go.Proofs.Ytcedmbdahbdmaaa
namespace Go.Proofs.Ytcedmbdahbdmaaa
open Go.RowKit
section
variable {w0 w : World} {S : List Nat} {L R A' B' : List Ent} {Bs Cs : List (Option Addr × Nat × Nat × TypeId × List Value)}
theorem Hp.bagNil (H : Hp w0 S L w) : Hp w0 S (L ++ [.bag []]) w := by
 refine H.callNew (L' := [.bag []]) ⟨rfl, rfl, rfl, Nat.le_refl _, fun k hk _ => rfl, ?_, ?_, by simp [ids, Ent.ids]⟩
 · intro e he
   simp at he
   subst he
   exact fun p hp => by cases hp
 · intro k hk
   simp [ids, Ent.ids] at hk
theorem Hp.bagIn {A : Option Addr} {n c e : Nat} {xs : List Value} (H : Hp w0 S (.row A n c e 1 xs :: .bag Bs :: R) w) : Hp w0 S (.bag ((A, n, c, e, xs) :: Bs) :: R) w := by
 have hi : ids (.bag ((A, n, c, e, xs) :: Bs) :: R) = ids (.row A n c e 1 xs :: .bag Bs :: R) := by simp [ids, Ent.ids]
 refine ⟨H.os, H.tape, H.output, H.size, H.keep, ?_, by rw [hi]; exact H.old, by rw [hi]; exact H.nd⟩
 intro x hx
 rcases List.mem_cons.1 hx with rfl | h
 · intro p hp
   rcases List.mem_cons.1 hp with rfl | h
   · exact H.ents (.row A n c e 1 xs) (by simp)
   · exact H.ents (.bag Bs) (by simp) p h
 · exact H.ents x (by simp [h])
theorem RdO.bag (H : Hp w0 S (A' ++ B') w) (i : Nat) {r : Option Addr} {n c e : Nat} {xs : List Value} (hL : B'[i]? = some (.bag Bs)) (hm : (r, n, c, e, xs) ∈ Bs) : RdO w (ids A') r xs := by
 have hb : w.ownsRow 0 e 1 (.slice r n c) n xs := (H.ents _ (List.mem_append_right _ (List.mem_of_getElem? hL))) _ hm
 have hr : RdS w r xs := RdS.row hb
 have hnd := H.nd
 rw [ids_append] at hnd
 obtain ⟨_, _, n3⟩ := List.nodup_append.1 hnd
 intro W hs hk
 rcases hr with h | ⟨a, hA, ha, hc⟩
 · exact .inl h
 · refine .inr ⟨a, hA, Nat.lt_of_lt_of_le ha hs, fun j v hv => ?_⟩
   have hb : (a.add j).block = a.block := add_block a j
   rw [World.cell?_of_block (w := w) (hk (a.add j).block (by rw [hb]; exact ha) (fun hin => ?_))]
   · exact hc j v hv
   · rw [hb] at hin
     exact n3 _ hin _ (ids_mem (List.mem_of_getElem? hL) (by subst hA; exact List.mem_flatMap.2 ⟨_, hm, by simp⟩)) rfl
theorem Hp.bagRd (H : Hp w0 S L w) (i : Nat) {r : Option Addr} {n c e : Nat} {xs : List Value} (hL : L[i]? = some (.bag Bs)) (hm : (r, n, c, e, xs) ∈ Bs) : RdS w r xs := RdS.row ((H.ents _ (List.mem_of_getElem? hL)) _ hm)
theorem Hp.bagLe (H : Hp w0 S L w) (i : Nat) {r : Option Addr} {n c e : Nat} {xs : List Value} (hL : L[i]? = some (.bag Bs)) (hm : (r, n, c, e, xs) ∈ Bs) : n ≤ c ∧ xs.length = n ∧ c ≤ maxLen := by
 have h : w.ownsRow 0 e 1 (.slice r n c) n xs := (H.ents _ (List.mem_of_getElem? hL)) _ hm
 have h1 := h.1
 rw [Nat.mul_one] at h1
 rcases h.2 with ⟨h0, hn⟩ | ⟨g, cap, cur, hv, _, hh, hnc, hm, hsz, ht⟩
 · refine ⟨by omega, h1, ?_⟩
   injection h0 with _ _ hc
   subst hc
   exact Nat.zero_le _
 · injection hv with _ _ hc
   subst hc
   exact ⟨hnc, h1, hm⟩
end
end Go.Proofs.Ytcedmbdahbdmaaa
set_option maxRecDepth 100000
namespace Go.Proofs.Ytcedmbdahbdmaaa
open Go.RowKit
theorem RCount_calls (S : List Nat) (p : Nat) (A : Option Addr) (k cap : Nat) (wr : Bool) (R : Option Addr) (N C : Nat) (whole rest : List UInt8) (most : Nat) (w : World) (h0 : Hp w S [.blk p [.slice A k cap, .bool wr] 107, .row R N C 5 1 (by8 whole)] w) (hcut : Cut R whole A rest) (hk : k = rest.length) (hcap : k ≤ cap) (hN : k ≤ 1000000) : Calls Try.prog 37 #[pt p 0, .int .u64 (most : Int)] w fun e w' => ∃ B b, e = .returned (.int .u64 ((ctV wr rest most : Nat) : Int)) ∧ Hp w S [.blk p [.slice B (ctR wr rest most).length b, .bool (!(ctOK wr rest most))] 107, .row R N C 5 1 (by8 whole)] w' ∧ Cut R whole B (ctR wr rest most) ∧ (ctR wr rest most).length ≤ b := by
 refine calls_G (args := [pt p 0, vu most]) Try.func37 rfl Try.ntmps37 rfl ?_
 intro Q0 hRet hNor hPan
 have H := h0
 refine G.sr fun K1 hK2 => ?_
 refine GL.r 1 1 [(0, pt p 0), (1, vu most)] ?_
 refine GL.q hK2 ?_
 refine G.sr fun K3 hK4 => ?_
 refine GL.r 1 1 [(0, pt p 0), (1, vu most), (7, pt p 0)] ?_
 refine GL.call (j := 2) (Get1_calls (ids [.blk p [.slice A k cap, .bool wr] 107, .row R N C 5 1 (by8 whole)]) p A k cap wr R N C whole rest w (Hp.startL (A := [.blk p [.slice A k cap, .bool wr] 107, .row R N C 5 1 (by8 whole)]) (B := []) H) hcut (hk) (hcap) (hN)) (by kernel_rfl) rfl (fun e_ w9 hR => ?_)
 obtain ⟨A5, c6, rfl, H11, hC7, hL8⟩ := hR
 have H10 : Hp w S [.blk p [.slice A5 ((rR wr rest 1).length) c6, .bool (!(rOK wr rest 1))] 107, .row R N C 5 1 (by8 whole)] w9 := Hp.callL (A := [.blk p [.slice A k cap, .bool wr] 107, .row R N C 5 1 (by8 whole)]) (B := []) H H11
 refine ⟨_, rfl, [0, 1, 8], [(0, pt p 0), (1, vu most), (8, vu (getB (rV wr rest 1)))], by kernel_rfl, ?_⟩
 refine GL.r 4 2 [(0, pt p 0), (1, vu most), (5, vu (getB (rV wr rest 1))), (6, li 1)] ?_
 refine GL.q hK4 ?_
 refine G.seqK fun K12 hK13 => ?_
 refine G.sr fun K14 hK15 => ?_
 refine GL.r 1 1 [(0, pt p 0), (1, vu most), (5, vu (getB (rV wr rest 1))), (6, li 1), (9, vu (getB (rV wr rest 1)))] ?_
 refine GL.q hK15 ?_
 refine G.block ?_
 refine G.sr fun K16 hK17 => ?_
 refine GL.r 2 2 [(0, pt p 0), (1, vu most), (5, vu (getB (rV wr rest 1))), (6, li 1), (9, vu (getB (rV wr rest 1))), (10, .bool ((((getB (rV wr rest 1)) : Nat) : Int) == 253))] ?_
 refine GL.q hK17 ?_
 cases hb18 : ((((getB (rV wr rest 1)) : Nat) : Int) == 253)
 · skip
   have hb18f := ne_of_beq_false hb18
   refine G.no rfl ?_
   refine G.sr fun K19 hK20 => ?_
   refine GL.r 2 2 [(0, pt p 0), (1, vu most), (5, vu (getB (rV wr rest 1))), (6, li 1), (9, vu (getB (rV wr rest 1))), (14, .bool ((((getB (rV wr rest 1)) : Nat) : Int) == 254))] ?_
   refine GL.q hK20 ?_
   cases hb21 : ((((getB (rV wr rest 1)) : Nat) : Int) == 254)
   · skip
     have hb21f := ne_of_beq_false hb21
     refine G.no rfl ?_
     refine G.sr fun K22 hK23 => ?_
     refine GL.r 2 2 [(0, pt p 0), (1, vu most), (5, vu (getB (rV wr rest 1))), (6, li 1), (18, .bool ((((getB (rV wr rest 1)) : Nat) : Int) == 255))] ?_
     refine GL.q hK23 ?_
     cases hb24 : ((((getB (rV wr rest 1)) : Nat) : Int) == 255)
     · skip
       have hb24f := ne_of_beq_false hb24
       refine G.no rfl ?_
       refine G.skipK hK13 (fun _ _ h => h) ?_
       refine G.seqK fun K25 hK26 => ?_
       refine G.sr fun K27 hK28 => ?_
       refine GL.r 1 1 [(0, pt p 0), (1, vu most), (5, vu (getB (rV wr rest 1))), (6, li 1), (22, pt p 0)] ?_
       refine GL.call (j := 2) (Wrong_calls (ids [.blk p [.slice A5 ((rR wr rest 1).length) c6, .bool (!(rOK wr rest 1))] 107, .row R N C 5 1 (by8 whole)]) p A5 ((rR wr rest 1).length) c6 (!(rOK wr rest 1)) R N C whole w9 (Hp.startL (A := [.blk p [.slice A5 ((rR wr rest 1).length) c6, .bool (!(rOK wr rest 1))] 107, .row R N C 5 1 (by8 whole)]) (B := []) H10)) (by kernel_rfl) rfl (fun e_ w29 hR => ?_)
       obtain ⟨rfl, H31⟩ := hR
       have H30 : Hp w S [.blk p [.slice A5 ((rR wr rest 1).length) c6, .bool (!(rOK wr rest 1))] 107, .row R N C 5 1 (by8 whole)] w29 := Hp.callL (A := [.blk p [.slice A5 ((rR wr rest 1).length) c6, .bool (!(rOK wr rest 1))] 107, .row R N C 5 1 (by8 whole)]) (B := []) H10 H31
       refine ⟨_, rfl, [0, 1, 5, 6, 23], [(0, pt p 0), (1, vu most), (5, vu (getB (rV wr rest 1))), (6, li 1), (23, .bool (!(rOK wr rest 1)))], by kernel_rfl, ?_⟩
       refine GL.r 3 1 [(0, pt p 0), (1, vu most), (5, vu (getB (rV wr rest 1))), (6, li 1), (24, .bool (!(rOK wr rest 1)))] ?_
       cases hb32 : (rOK wr rest 1)
       · skip
         refine GL.r 13 10 [(0, pt p 0), (5, vu (getB (rV wr rest 1))), (34, .bool true)] ?_
         refine GL.q hK28 ?_
         refine G.yes rfl ?_
         refine G.sr fun K33 hK34 => ?_
         refine GL.r 1 1 [(35, pt p 0)] ?_
         refine GL.call (j := 2) (Fail_calls (ids [.blk p [.slice A5 ((rR wr rest 1).length) c6, .bool (!(rOK wr rest 1))] 107, .row R N C 5 1 (by8 whole)]) p A5 ((rR wr rest 1).length) c6 (!(rOK wr rest 1)) R N C whole w29 (Hp.startL (A := [.blk p [.slice A5 ((rR wr rest 1).length) c6, .bool (!(rOK wr rest 1))] 107, .row R N C 5 1 (by8 whole)]) (B := []) H30)) (by kernel_rfl) rfl (fun e_ w35 hR => ?_)
         obtain ⟨rfl, H37⟩ := hR
         have H36 : Hp w S [.blk p [.slice none 0 0, .bool true] 107, .row R N C 5 1 (by8 whole)] w35 := Hp.callL (A := [.blk p [.slice A5 ((rR wr rest 1).length) c6, .bool (!(rOK wr rest 1))] 107, .row R N C 5 1 (by8 whole)]) (B := []) H30 H37
         refine ⟨_, rfl, [], [], by kernel_rfl, ?_⟩
         refine GL.q hK34 ?_
         refine G.sr fun K38 hK39 => ?_
         refine GL.r 1 1 [(4, lu 0)] ?_
         refine GL.q hK39 ?_
         refine G.ret fun F_ hF_ hM_ => hRet _ _ (bodyPost_1 rfl (RV.tmp rfl) ?_ F_ hF_ hM_)
         have hn : ctN wr rest = 0 := by unfold ctN; (repeat' split) <;> omega
         obtain ⟨eX, eW, eT⟩ := ct_short hn
         obtain ⟨o1, o2, o3⟩ := ct_bad (most := most) (.inl (by rw [eW, ‹(rOK wr rest 1) = false›]; rfl))
         rw [o1, o2, o3]
         exact ⟨none, 0, rfl, H36, Cut.nil _ _ _, Nat.le_refl _⟩
       · skip
         refine GL.r 5 2 [(0, pt p 0), (1, vu most), (5, vu (getB (rV wr rest 1))), (24, .bool false), (25, li 1), (26, vu (getB (rV wr rest 1)))] ?_
         refine GL.call (j := 6) (CountSize_calls (getB (rV wr rest 1)) w29) (by kernel_rfl) rfl (fun e_ w40 hR => ?_)
         obtain ⟨rfl, H42⟩ := hR
         have H41 : Hp w S [.blk p [.slice A5 ((rR wr rest 1).length) c6, .bool (!(rOK wr rest 1))] 107, .row R N C 5 1 (by8 whole)] w40 := H30.callNil H42
         refine ⟨_, rfl, [0, 1, 5, 24, 25, 27], [(0, pt p 0), (1, vu most), (5, vu (getB (rV wr rest 1))), (24, .bool false), (25, li 1), (27, vi (cntSz (getB (rV wr rest 1))))], by kernel_rfl, ?_⟩
         refine GL.r 9 3 [(0, pt p 0), (1, vu most), (5, vu (getB (rV wr rest 1))), (30, .bool ((1 : Int) != (((cntSz (getB (rV wr rest 1))) : Nat) : Int)))] ?_
         cases hb43 : ((1 : Int) != (((cntSz (getB (rV wr rest 1))) : Nat) : Int))
         · skip
           have hb43f : (1 : Int) = (((cntSz (getB (rV wr rest 1))) : Nat) : Int) := bne_eq_false_iff_eq.1 hb43
           refine GL.r 13 4 [(0, pt p 0), (5, vu (getB (rV wr rest 1))), (34, .bool (decide ((most : Int) < (((getB (rV wr rest 1)) : Nat) : Int))))] ?_
           refine GL.q hK28 ?_
           cases hb44 : (decide ((most : Int) < (((getB (rV wr rest 1)) : Nat) : Int)))
           · skip
             have hb44f := of_decide_eq_false hb44
             refine G.no rfl ?_
             refine G.skipK hK26 (fun _ _ h => h) ?_
             refine G.sr fun K45 hK46 => ?_
             refine GL.r 2 2 [(4, vu (getB (rV wr rest 1)))] ?_
             refine GL.q hK46 ?_
             refine G.ret fun F_ hF_ hM_ => hRet _ _ (bodyPost_1 rfl (RV.tmp rfl) ?_ F_ hF_ hM_)
             have hn : ctN wr rest = 0 := by unfold ctN; (repeat' split) <;> omega
             obtain ⟨eX, eW, eT⟩ := ct_short hn
             obtain ⟨o1, o2, o3⟩ := ct_ok (most := most) (by rw [eW, ‹(rOK wr rest 1) = true›]; rfl) (by rw [eX, hn]; omega) (by rw [eX]; omega)
             rw [o1, o2, o3, eX, eT]
             have HF := H41
             rw [‹(rOK wr rest 1) = true›] at HF
             exact ⟨_, _, rfl, HF, hC7, hL8⟩
           · skip
             have hb44f := of_decide_eq_true hb44
             refine G.yes rfl ?_
             refine G.sr fun K47 hK48 => ?_
             refine GL.r 1 1 [(35, pt p 0)] ?_
             refine GL.call (j := 2) (Fail_calls (ids [.blk p [.slice A5 ((rR wr rest 1).length) c6, .bool (!(rOK wr rest 1))] 107, .row R N C 5 1 (by8 whole)]) p A5 ((rR wr rest 1).length) c6 (!(rOK wr rest 1)) R N C whole w40 (Hp.startL (A := [.blk p [.slice A5 ((rR wr rest 1).length) c6, .bool (!(rOK wr rest 1))] 107, .row R N C 5 1 (by8 whole)]) (B := []) H41)) (by kernel_rfl) rfl (fun e_ w49 hR => ?_)
             obtain ⟨rfl, H51⟩ := hR
             have H50 : Hp w S [.blk p [.slice none 0 0, .bool true] 107, .row R N C 5 1 (by8 whole)] w49 := Hp.callL (A := [.blk p [.slice A5 ((rR wr rest 1).length) c6, .bool (!(rOK wr rest 1))] 107, .row R N C 5 1 (by8 whole)]) (B := []) H41 H51
             refine ⟨_, rfl, [], [], by kernel_rfl, ?_⟩
             refine GL.q hK48 ?_
             refine G.sr fun K52 hK53 => ?_
             refine GL.r 1 1 [(4, lu 0)] ?_
             refine GL.q hK53 ?_
             refine G.ret fun F_ hF_ hM_ => hRet _ _ (bodyPost_1 rfl (RV.tmp rfl) ?_ F_ hF_ hM_)
             have hn : ctN wr rest = 0 := by unfold ctN; (repeat' split) <;> omega
             obtain ⟨eX, eW, eT⟩ := ct_short hn
             obtain ⟨o1, o2, o3⟩ := ct_bad (wr := wr) (rest := rest) (most := most) (.inr (.inr (by rw [eX]; omega)))
             rw [o1, o2, o3]
             exact ⟨none, 0, rfl, H50, Cut.nil _ _ _, Nat.le_refl _⟩
         · skip
           have hb43f : (1 : Int) ≠ (((cntSz (getB (rV wr rest 1))) : Nat) : Int) := bne_iff_ne.1 hb43
           refine GL.r 13 4 [(0, pt p 0), (5, vu (getB (rV wr rest 1))), (34, .bool true)] ?_
           refine GL.q hK28 ?_
           refine G.yes rfl ?_
           refine G.sr fun K54 hK55 => ?_
           refine GL.r 1 1 [(35, pt p 0)] ?_
           refine GL.call (j := 2) (Fail_calls (ids [.blk p [.slice A5 ((rR wr rest 1).length) c6, .bool (!(rOK wr rest 1))] 107, .row R N C 5 1 (by8 whole)]) p A5 ((rR wr rest 1).length) c6 (!(rOK wr rest 1)) R N C whole w40 (Hp.startL (A := [.blk p [.slice A5 ((rR wr rest 1).length) c6, .bool (!(rOK wr rest 1))] 107, .row R N C 5 1 (by8 whole)]) (B := []) H41)) (by kernel_rfl) rfl (fun e_ w56 hR => ?_)
           obtain ⟨rfl, H58⟩ := hR
           have H57 : Hp w S [.blk p [.slice none 0 0, .bool true] 107, .row R N C 5 1 (by8 whole)] w56 := Hp.callL (A := [.blk p [.slice A5 ((rR wr rest 1).length) c6, .bool (!(rOK wr rest 1))] 107, .row R N C 5 1 (by8 whole)]) (B := []) H41 H58
           refine ⟨_, rfl, [], [], by kernel_rfl, ?_⟩
           refine GL.q hK55 ?_
           refine G.sr fun K59 hK60 => ?_
           refine GL.r 1 1 [(4, lu 0)] ?_
           refine GL.q hK60 ?_
           refine G.ret fun F_ hF_ hM_ => hRet _ _ (bodyPost_1 rfl (RV.tmp rfl) ?_ F_ hF_ hM_)
           have hn : ctN wr rest = 0 := by unfold ctN; (repeat' split) <;> omega
           obtain ⟨eX, eW, eT⟩ := ct_short hn
           obtain ⟨o1, o2, o3⟩ := ct_bad (wr := wr) (rest := rest) (most := most) (.inr (.inl (by rw [eX, hn]; omega)))
           rw [o1, o2, o3]
           exact ⟨none, 0, rfl, H57, Cut.nil _ _ _, Nat.le_refl _⟩
     · skip
       have hb24f := eq_of_beq hb24
       refine G.yes rfl ?_
       refine G.region ?_
       refine GL.r 1 1 [(0, pt p 0), (1, vu most), (20, pt p 0)] ?_
       refine GL.call (j := 2) (Get8_calls (ids [.blk p [.slice A5 ((rR wr rest 1).length) c6, .bool (!(rOK wr rest 1))] 107, .row R N C 5 1 (by8 whole)]) p A5 ((rR wr rest 1).length) c6 (!(rOK wr rest 1)) R N C whole (rR wr rest 1) w9 (Hp.startL (A := [.blk p [.slice A5 ((rR wr rest 1).length) c6, .bool (!(rOK wr rest 1))] 107, .row R N C 5 1 (by8 whole)]) (B := []) H10) hC7 (rfl) (hL8) ((Nat.le_trans (rR_le _ _ _) (hk ▸ hN)))) (by kernel_rfl) rfl (fun e_ w65 hR => ?_)
       obtain ⟨A61, c62, rfl, H67, hC63, hL64⟩ := hR
       have H66 : Hp w S [.blk p [.slice A61 ((rR (!(rOK wr rest 1)) (rR wr rest 1) 8).length) c62, .bool (!(rOK (!(rOK wr rest 1)) (rR wr rest 1) 8))] 107, .row R N C 5 1 (by8 whole)] w65 := Hp.callL (A := [.blk p [.slice A5 ((rR wr rest 1).length) c6, .bool (!(rOK wr rest 1))] 107, .row R N C 5 1 (by8 whole)]) (B := []) H10 H67
       refine ⟨_, rfl, [0, 1, 21], [(0, pt p 0), (1, vu most), (21, vu (getB (rV (!(rOK wr rest 1)) (rR wr rest 1) 8)))], by kernel_rfl, ?_⟩
       refine GL.r 4 2 [(0, pt p 0), (1, vu most), (5, vu (getB (rV (!(rOK wr rest 1)) (rR wr rest 1) 8))), (6, li 9)] ?_
       refine GL.q hK13 ?_
       refine G.seqK fun K68 hK69 => ?_
       refine G.sr fun K70 hK71 => ?_
       refine GL.r 1 1 [(0, pt p 0), (1, vu most), (5, vu (getB (rV (!(rOK wr rest 1)) (rR wr rest 1) 8))), (6, li 9), (22, pt p 0)] ?_
       refine GL.call (j := 2) (Wrong_calls (ids [.blk p [.slice A61 ((rR (!(rOK wr rest 1)) (rR wr rest 1) 8).length) c62, .bool (!(rOK (!(rOK wr rest 1)) (rR wr rest 1) 8))] 107, .row R N C 5 1 (by8 whole)]) p A61 ((rR (!(rOK wr rest 1)) (rR wr rest 1) 8).length) c62 (!(rOK (!(rOK wr rest 1)) (rR wr rest 1) 8)) R N C whole w65 (Hp.startL (A := [.blk p [.slice A61 ((rR (!(rOK wr rest 1)) (rR wr rest 1) 8).length) c62, .bool (!(rOK (!(rOK wr rest 1)) (rR wr rest 1) 8))] 107, .row R N C 5 1 (by8 whole)]) (B := []) H66)) (by kernel_rfl) rfl (fun e_ w72 hR => ?_)
       obtain ⟨rfl, H74⟩ := hR
       have H73 : Hp w S [.blk p [.slice A61 ((rR (!(rOK wr rest 1)) (rR wr rest 1) 8).length) c62, .bool (!(rOK (!(rOK wr rest 1)) (rR wr rest 1) 8))] 107, .row R N C 5 1 (by8 whole)] w72 := Hp.callL (A := [.blk p [.slice A61 ((rR (!(rOK wr rest 1)) (rR wr rest 1) 8).length) c62, .bool (!(rOK (!(rOK wr rest 1)) (rR wr rest 1) 8))] 107, .row R N C 5 1 (by8 whole)]) (B := []) H66 H74
       refine ⟨_, rfl, [0, 1, 5, 6, 23], [(0, pt p 0), (1, vu most), (5, vu (getB (rV (!(rOK wr rest 1)) (rR wr rest 1) 8))), (6, li 9), (23, .bool (!(rOK (!(rOK wr rest 1)) (rR wr rest 1) 8)))], by kernel_rfl, ?_⟩
       refine GL.r 3 1 [(0, pt p 0), (1, vu most), (5, vu (getB (rV (!(rOK wr rest 1)) (rR wr rest 1) 8))), (6, li 9), (24, .bool (!(rOK (!(rOK wr rest 1)) (rR wr rest 1) 8)))] ?_
       cases hb75 : (rOK (!(rOK wr rest 1)) (rR wr rest 1) 8)
       · skip
         refine GL.r 13 10 [(0, pt p 0), (5, vu (getB (rV (!(rOK wr rest 1)) (rR wr rest 1) 8))), (34, .bool true)] ?_
         refine GL.q hK71 ?_
         refine G.yes rfl ?_
         refine G.sr fun K76 hK77 => ?_
         refine GL.r 1 1 [(35, pt p 0)] ?_
         refine GL.call (j := 2) (Fail_calls (ids [.blk p [.slice A61 ((rR (!(rOK wr rest 1)) (rR wr rest 1) 8).length) c62, .bool (!(rOK (!(rOK wr rest 1)) (rR wr rest 1) 8))] 107, .row R N C 5 1 (by8 whole)]) p A61 ((rR (!(rOK wr rest 1)) (rR wr rest 1) 8).length) c62 (!(rOK (!(rOK wr rest 1)) (rR wr rest 1) 8)) R N C whole w72 (Hp.startL (A := [.blk p [.slice A61 ((rR (!(rOK wr rest 1)) (rR wr rest 1) 8).length) c62, .bool (!(rOK (!(rOK wr rest 1)) (rR wr rest 1) 8))] 107, .row R N C 5 1 (by8 whole)]) (B := []) H73)) (by kernel_rfl) rfl (fun e_ w78 hR => ?_)
         obtain ⟨rfl, H80⟩ := hR
         have H79 : Hp w S [.blk p [.slice none 0 0, .bool true] 107, .row R N C 5 1 (by8 whole)] w78 := Hp.callL (A := [.blk p [.slice A61 ((rR (!(rOK wr rest 1)) (rR wr rest 1) 8).length) c62, .bool (!(rOK (!(rOK wr rest 1)) (rR wr rest 1) 8))] 107, .row R N C 5 1 (by8 whole)]) (B := []) H73 H80
         refine ⟨_, rfl, [], [], by kernel_rfl, ?_⟩
         refine GL.q hK77 ?_
         refine G.sr fun K81 hK82 => ?_
         refine GL.r 1 1 [(4, lu 0)] ?_
         refine GL.q hK82 ?_
         refine G.ret fun F_ hF_ hM_ => hRet _ _ (bodyPost_1 rfl (RV.tmp rfl) ?_ F_ hF_ hM_)
         have hn : ctN wr rest = 8 := by unfold ctN; (repeat' split) <;> omega
         obtain ⟨eX, eW, eT⟩ := ct_long hn (by decide)
         obtain ⟨o1, o2, o3⟩ := ct_bad (most := most) (.inl (by rw [eW, ‹(rOK (!(rOK wr rest 1)) (rR wr rest 1) 8) = false›]; rfl))
         rw [o1, o2, o3]
         exact ⟨none, 0, rfl, H79, Cut.nil _ _ _, Nat.le_refl _⟩
       · skip
         refine GL.r 5 2 [(0, pt p 0), (1, vu most), (5, vu (getB (rV (!(rOK wr rest 1)) (rR wr rest 1) 8))), (24, .bool false), (25, li 9), (26, vu (getB (rV (!(rOK wr rest 1)) (rR wr rest 1) 8)))] ?_
         refine GL.call (j := 6) (CountSize_calls (getB (rV (!(rOK wr rest 1)) (rR wr rest 1) 8)) w72) (by kernel_rfl) rfl (fun e_ w83 hR => ?_)
         obtain ⟨rfl, H85⟩ := hR
         have H84 : Hp w S [.blk p [.slice A61 ((rR (!(rOK wr rest 1)) (rR wr rest 1) 8).length) c62, .bool (!(rOK (!(rOK wr rest 1)) (rR wr rest 1) 8))] 107, .row R N C 5 1 (by8 whole)] w83 := H73.callNil H85
         refine ⟨_, rfl, [0, 1, 5, 24, 25, 27], [(0, pt p 0), (1, vu most), (5, vu (getB (rV (!(rOK wr rest 1)) (rR wr rest 1) 8))), (24, .bool false), (25, li 9), (27, vi (cntSz (getB (rV (!(rOK wr rest 1)) (rR wr rest 1) 8))))], by kernel_rfl, ?_⟩
         refine GL.r 9 3 [(0, pt p 0), (1, vu most), (5, vu (getB (rV (!(rOK wr rest 1)) (rR wr rest 1) 8))), (30, .bool ((9 : Int) != (((cntSz (getB (rV (!(rOK wr rest 1)) (rR wr rest 1) 8))) : Nat) : Int)))] ?_
         cases hb86 : ((9 : Int) != (((cntSz (getB (rV (!(rOK wr rest 1)) (rR wr rest 1) 8))) : Nat) : Int))
         · skip
           have hb86f : (9 : Int) = (((cntSz (getB (rV (!(rOK wr rest 1)) (rR wr rest 1) 8))) : Nat) : Int) := bne_eq_false_iff_eq.1 hb86
           refine GL.r 13 4 [(0, pt p 0), (5, vu (getB (rV (!(rOK wr rest 1)) (rR wr rest 1) 8))), (34, .bool (decide ((most : Int) < (((getB (rV (!(rOK wr rest 1)) (rR wr rest 1) 8)) : Nat) : Int))))] ?_
           refine GL.q hK71 ?_
           cases hb87 : (decide ((most : Int) < (((getB (rV (!(rOK wr rest 1)) (rR wr rest 1) 8)) : Nat) : Int)))
           · skip
             have hb87f := of_decide_eq_false hb87
             refine G.no rfl ?_
             refine G.skipK hK69 (fun _ _ h => h) ?_
             refine G.sr fun K88 hK89 => ?_
             refine GL.r 2 2 [(4, vu (getB (rV (!(rOK wr rest 1)) (rR wr rest 1) 8)))] ?_
             refine GL.q hK89 ?_
             refine G.ret fun F_ hF_ hM_ => hRet _ _ (bodyPost_1 rfl (RV.tmp rfl) ?_ F_ hF_ hM_)
             have hn : ctN wr rest = 8 := by unfold ctN; (repeat' split) <;> omega
             obtain ⟨eX, eW, eT⟩ := ct_long hn (by decide)
             obtain ⟨o1, o2, o3⟩ := ct_ok (most := most) (by rw [eW, ‹(rOK (!(rOK wr rest 1)) (rR wr rest 1) 8) = true›]; rfl) (by rw [eX, hn]; omega) (by rw [eX]; omega)
             rw [o1, o2, o3, eX, eT]
             have HF := H84
             rw [‹(rOK (!(rOK wr rest 1)) (rR wr rest 1) 8) = true›] at HF
             exact ⟨_, _, rfl, HF, hC63, hL64⟩
           · skip
             have hb87f := of_decide_eq_true hb87
             refine G.yes rfl ?_
             refine G.sr fun K90 hK91 => ?_
             refine GL.r 1 1 [(35, pt p 0)] ?_
             refine GL.call (j := 2) (Fail_calls (ids [.blk p [.slice A61 ((rR (!(rOK wr rest 1)) (rR wr rest 1) 8).length) c62, .bool (!(rOK (!(rOK wr rest 1)) (rR wr rest 1) 8))] 107, .row R N C 5 1 (by8 whole)]) p A61 ((rR (!(rOK wr rest 1)) (rR wr rest 1) 8).length) c62 (!(rOK (!(rOK wr rest 1)) (rR wr rest 1) 8)) R N C whole w83 (Hp.startL (A := [.blk p [.slice A61 ((rR (!(rOK wr rest 1)) (rR wr rest 1) 8).length) c62, .bool (!(rOK (!(rOK wr rest 1)) (rR wr rest 1) 8))] 107, .row R N C 5 1 (by8 whole)]) (B := []) H84)) (by kernel_rfl) rfl (fun e_ w92 hR => ?_)
             obtain ⟨rfl, H94⟩ := hR
             have H93 : Hp w S [.blk p [.slice none 0 0, .bool true] 107, .row R N C 5 1 (by8 whole)] w92 := Hp.callL (A := [.blk p [.slice A61 ((rR (!(rOK wr rest 1)) (rR wr rest 1) 8).length) c62, .bool (!(rOK (!(rOK wr rest 1)) (rR wr rest 1) 8))] 107, .row R N C 5 1 (by8 whole)]) (B := []) H84 H94
             refine ⟨_, rfl, [], [], by kernel_rfl, ?_⟩
             refine GL.q hK91 ?_
             refine G.sr fun K95 hK96 => ?_
             refine GL.r 1 1 [(4, lu 0)] ?_
             refine GL.q hK96 ?_
             refine G.ret fun F_ hF_ hM_ => hRet _ _ (bodyPost_1 rfl (RV.tmp rfl) ?_ F_ hF_ hM_)
             have hn : ctN wr rest = 8 := by unfold ctN; (repeat' split) <;> omega
             obtain ⟨eX, eW, eT⟩ := ct_long hn (by decide)
             obtain ⟨o1, o2, o3⟩ := ct_bad (wr := wr) (rest := rest) (most := most) (.inr (.inr (by rw [eX]; omega)))
             rw [o1, o2, o3]
             exact ⟨none, 0, rfl, H93, Cut.nil _ _ _, Nat.le_refl _⟩
         · skip
           have hb86f : (9 : Int) ≠ (((cntSz (getB (rV (!(rOK wr rest 1)) (rR wr rest 1) 8))) : Nat) : Int) := bne_iff_ne.1 hb86
           refine GL.r 13 4 [(0, pt p 0), (5, vu (getB (rV (!(rOK wr rest 1)) (rR wr rest 1) 8))), (34, .bool true)] ?_
           refine GL.q hK71 ?_
           refine G.yes rfl ?_
           refine G.sr fun K97 hK98 => ?_
           refine GL.r 1 1 [(35, pt p 0)] ?_
           refine GL.call (j := 2) (Fail_calls (ids [.blk p [.slice A61 ((rR (!(rOK wr rest 1)) (rR wr rest 1) 8).length) c62, .bool (!(rOK (!(rOK wr rest 1)) (rR wr rest 1) 8))] 107, .row R N C 5 1 (by8 whole)]) p A61 ((rR (!(rOK wr rest 1)) (rR wr rest 1) 8).length) c62 (!(rOK (!(rOK wr rest 1)) (rR wr rest 1) 8)) R N C whole w83 (Hp.startL (A := [.blk p [.slice A61 ((rR (!(rOK wr rest 1)) (rR wr rest 1) 8).length) c62, .bool (!(rOK (!(rOK wr rest 1)) (rR wr rest 1) 8))] 107, .row R N C 5 1 (by8 whole)]) (B := []) H84)) (by kernel_rfl) rfl (fun e_ w99 hR => ?_)
           obtain ⟨rfl, H101⟩ := hR
           have H100 : Hp w S [.blk p [.slice none 0 0, .bool true] 107, .row R N C 5 1 (by8 whole)] w99 := Hp.callL (A := [.blk p [.slice A61 ((rR (!(rOK wr rest 1)) (rR wr rest 1) 8).length) c62, .bool (!(rOK (!(rOK wr rest 1)) (rR wr rest 1) 8))] 107, .row R N C 5 1 (by8 whole)]) (B := []) H84 H101
           refine ⟨_, rfl, [], [], by kernel_rfl, ?_⟩
           refine GL.q hK98 ?_
           refine G.sr fun K102 hK103 => ?_
           refine GL.r 1 1 [(4, lu 0)] ?_
           refine GL.q hK103 ?_
           refine G.ret fun F_ hF_ hM_ => hRet _ _ (bodyPost_1 rfl (RV.tmp rfl) ?_ F_ hF_ hM_)
           have hn : ctN wr rest = 8 := by unfold ctN; (repeat' split) <;> omega
           obtain ⟨eX, eW, eT⟩ := ct_long hn (by decide)
           obtain ⟨o1, o2, o3⟩ := ct_bad (wr := wr) (rest := rest) (most := most) (.inr (.inl (by rw [eX, hn]; omega)))
           rw [o1, o2, o3]
           exact ⟨none, 0, rfl, H100, Cut.nil _ _ _, Nat.le_refl _⟩
   · skip
     have hb21f := eq_of_beq hb21
     refine G.yes rfl ?_
     refine G.region ?_
     refine GL.r 1 1 [(0, pt p 0), (1, vu most), (16, pt p 0)] ?_
     refine GL.call (j := 2) (Get4_calls (ids [.blk p [.slice A5 ((rR wr rest 1).length) c6, .bool (!(rOK wr rest 1))] 107, .row R N C 5 1 (by8 whole)]) p A5 ((rR wr rest 1).length) c6 (!(rOK wr rest 1)) R N C whole (rR wr rest 1) w9 (Hp.startL (A := [.blk p [.slice A5 ((rR wr rest 1).length) c6, .bool (!(rOK wr rest 1))] 107, .row R N C 5 1 (by8 whole)]) (B := []) H10) hC7 (rfl) (hL8) ((Nat.le_trans (rR_le _ _ _) (hk ▸ hN)))) (by kernel_rfl) rfl (fun e_ w108 hR => ?_)
     obtain ⟨A104, c105, rfl, H110, hC106, hL107⟩ := hR
     have H109 : Hp w S [.blk p [.slice A104 ((rR (!(rOK wr rest 1)) (rR wr rest 1) 4).length) c105, .bool (!(rOK (!(rOK wr rest 1)) (rR wr rest 1) 4))] 107, .row R N C 5 1 (by8 whole)] w108 := Hp.callL (A := [.blk p [.slice A5 ((rR wr rest 1).length) c6, .bool (!(rOK wr rest 1))] 107, .row R N C 5 1 (by8 whole)]) (B := []) H10 H110
     refine ⟨_, rfl, [0, 1, 17], [(0, pt p 0), (1, vu most), (17, vu (getB (rV (!(rOK wr rest 1)) (rR wr rest 1) 4)))], by kernel_rfl, ?_⟩
     refine GL.r 4 2 [(0, pt p 0), (1, vu most), (5, vu (getB (rV (!(rOK wr rest 1)) (rR wr rest 1) 4))), (6, li 5)] ?_
     refine GL.q hK13 ?_
     refine G.seqK fun K111 hK112 => ?_
     refine G.sr fun K113 hK114 => ?_
     refine GL.r 1 1 [(0, pt p 0), (1, vu most), (5, vu (getB (rV (!(rOK wr rest 1)) (rR wr rest 1) 4))), (6, li 5), (22, pt p 0)] ?_
     refine GL.call (j := 2) (Wrong_calls (ids [.blk p [.slice A104 ((rR (!(rOK wr rest 1)) (rR wr rest 1) 4).length) c105, .bool (!(rOK (!(rOK wr rest 1)) (rR wr rest 1) 4))] 107, .row R N C 5 1 (by8 whole)]) p A104 ((rR (!(rOK wr rest 1)) (rR wr rest 1) 4).length) c105 (!(rOK (!(rOK wr rest 1)) (rR wr rest 1) 4)) R N C whole w108 (Hp.startL (A := [.blk p [.slice A104 ((rR (!(rOK wr rest 1)) (rR wr rest 1) 4).length) c105, .bool (!(rOK (!(rOK wr rest 1)) (rR wr rest 1) 4))] 107, .row R N C 5 1 (by8 whole)]) (B := []) H109)) (by kernel_rfl) rfl (fun e_ w115 hR => ?_)
     obtain ⟨rfl, H117⟩ := hR
     have H116 : Hp w S [.blk p [.slice A104 ((rR (!(rOK wr rest 1)) (rR wr rest 1) 4).length) c105, .bool (!(rOK (!(rOK wr rest 1)) (rR wr rest 1) 4))] 107, .row R N C 5 1 (by8 whole)] w115 := Hp.callL (A := [.blk p [.slice A104 ((rR (!(rOK wr rest 1)) (rR wr rest 1) 4).length) c105, .bool (!(rOK (!(rOK wr rest 1)) (rR wr rest 1) 4))] 107, .row R N C 5 1 (by8 whole)]) (B := []) H109 H117
     refine ⟨_, rfl, [0, 1, 5, 6, 23], [(0, pt p 0), (1, vu most), (5, vu (getB (rV (!(rOK wr rest 1)) (rR wr rest 1) 4))), (6, li 5), (23, .bool (!(rOK (!(rOK wr rest 1)) (rR wr rest 1) 4)))], by kernel_rfl, ?_⟩
     refine GL.r 3 1 [(0, pt p 0), (1, vu most), (5, vu (getB (rV (!(rOK wr rest 1)) (rR wr rest 1) 4))), (6, li 5), (24, .bool (!(rOK (!(rOK wr rest 1)) (rR wr rest 1) 4)))] ?_
     cases hb118 : (rOK (!(rOK wr rest 1)) (rR wr rest 1) 4)
     · skip
       refine GL.r 13 10 [(0, pt p 0), (5, vu (getB (rV (!(rOK wr rest 1)) (rR wr rest 1) 4))), (34, .bool true)] ?_
       refine GL.q hK114 ?_
       refine G.yes rfl ?_
       refine G.sr fun K119 hK120 => ?_
       refine GL.r 1 1 [(35, pt p 0)] ?_
       refine GL.call (j := 2) (Fail_calls (ids [.blk p [.slice A104 ((rR (!(rOK wr rest 1)) (rR wr rest 1) 4).length) c105, .bool (!(rOK (!(rOK wr rest 1)) (rR wr rest 1) 4))] 107, .row R N C 5 1 (by8 whole)]) p A104 ((rR (!(rOK wr rest 1)) (rR wr rest 1) 4).length) c105 (!(rOK (!(rOK wr rest 1)) (rR wr rest 1) 4)) R N C whole w115 (Hp.startL (A := [.blk p [.slice A104 ((rR (!(rOK wr rest 1)) (rR wr rest 1) 4).length) c105, .bool (!(rOK (!(rOK wr rest 1)) (rR wr rest 1) 4))] 107, .row R N C 5 1 (by8 whole)]) (B := []) H116)) (by kernel_rfl) rfl (fun e_ w121 hR => ?_)
       obtain ⟨rfl, H123⟩ := hR
       have H122 : Hp w S [.blk p [.slice none 0 0, .bool true] 107, .row R N C 5 1 (by8 whole)] w121 := Hp.callL (A := [.blk p [.slice A104 ((rR (!(rOK wr rest 1)) (rR wr rest 1) 4).length) c105, .bool (!(rOK (!(rOK wr rest 1)) (rR wr rest 1) 4))] 107, .row R N C 5 1 (by8 whole)]) (B := []) H116 H123
       refine ⟨_, rfl, [], [], by kernel_rfl, ?_⟩
       refine GL.q hK120 ?_
       refine G.sr fun K124 hK125 => ?_
       refine GL.r 1 1 [(4, lu 0)] ?_
       refine GL.q hK125 ?_
       refine G.ret fun F_ hF_ hM_ => hRet _ _ (bodyPost_1 rfl (RV.tmp rfl) ?_ F_ hF_ hM_)
       have hn : ctN wr rest = 4 := by unfold ctN; (repeat' split) <;> omega
       obtain ⟨eX, eW, eT⟩ := ct_long hn (by decide)
       obtain ⟨o1, o2, o3⟩ := ct_bad (most := most) (.inl (by rw [eW, ‹(rOK (!(rOK wr rest 1)) (rR wr rest 1) 4) = false›]; rfl))
       rw [o1, o2, o3]
       exact ⟨none, 0, rfl, H122, Cut.nil _ _ _, Nat.le_refl _⟩
     · skip
       refine GL.r 5 2 [(0, pt p 0), (1, vu most), (5, vu (getB (rV (!(rOK wr rest 1)) (rR wr rest 1) 4))), (24, .bool false), (25, li 5), (26, vu (getB (rV (!(rOK wr rest 1)) (rR wr rest 1) 4)))] ?_
       refine GL.call (j := 6) (CountSize_calls (getB (rV (!(rOK wr rest 1)) (rR wr rest 1) 4)) w115) (by kernel_rfl) rfl (fun e_ w126 hR => ?_)
       obtain ⟨rfl, H128⟩ := hR
       have H127 : Hp w S [.blk p [.slice A104 ((rR (!(rOK wr rest 1)) (rR wr rest 1) 4).length) c105, .bool (!(rOK (!(rOK wr rest 1)) (rR wr rest 1) 4))] 107, .row R N C 5 1 (by8 whole)] w126 := H116.callNil H128
       refine ⟨_, rfl, [0, 1, 5, 24, 25, 27], [(0, pt p 0), (1, vu most), (5, vu (getB (rV (!(rOK wr rest 1)) (rR wr rest 1) 4))), (24, .bool false), (25, li 5), (27, vi (cntSz (getB (rV (!(rOK wr rest 1)) (rR wr rest 1) 4))))], by kernel_rfl, ?_⟩
       refine GL.r 9 3 [(0, pt p 0), (1, vu most), (5, vu (getB (rV (!(rOK wr rest 1)) (rR wr rest 1) 4))), (30, .bool ((5 : Int) != (((cntSz (getB (rV (!(rOK wr rest 1)) (rR wr rest 1) 4))) : Nat) : Int)))] ?_
       cases hb129 : ((5 : Int) != (((cntSz (getB (rV (!(rOK wr rest 1)) (rR wr rest 1) 4))) : Nat) : Int))
       · skip
         have hb129f : (5 : Int) = (((cntSz (getB (rV (!(rOK wr rest 1)) (rR wr rest 1) 4))) : Nat) : Int) := bne_eq_false_iff_eq.1 hb129
         refine GL.r 13 4 [(0, pt p 0), (5, vu (getB (rV (!(rOK wr rest 1)) (rR wr rest 1) 4))), (34, .bool (decide ((most : Int) < (((getB (rV (!(rOK wr rest 1)) (rR wr rest 1) 4)) : Nat) : Int))))] ?_
         refine GL.q hK114 ?_
         cases hb130 : (decide ((most : Int) < (((getB (rV (!(rOK wr rest 1)) (rR wr rest 1) 4)) : Nat) : Int)))
         · skip
           have hb130f := of_decide_eq_false hb130
           refine G.no rfl ?_
           refine G.skipK hK112 (fun _ _ h => h) ?_
           refine G.sr fun K131 hK132 => ?_
           refine GL.r 2 2 [(4, vu (getB (rV (!(rOK wr rest 1)) (rR wr rest 1) 4)))] ?_
           refine GL.q hK132 ?_
           refine G.ret fun F_ hF_ hM_ => hRet _ _ (bodyPost_1 rfl (RV.tmp rfl) ?_ F_ hF_ hM_)
           have hn : ctN wr rest = 4 := by unfold ctN; (repeat' split) <;> omega
           obtain ⟨eX, eW, eT⟩ := ct_long hn (by decide)
           obtain ⟨o1, o2, o3⟩ := ct_ok (most := most) (by rw [eW, ‹(rOK (!(rOK wr rest 1)) (rR wr rest 1) 4) = true›]; rfl) (by rw [eX, hn]; omega) (by rw [eX]; omega)
           rw [o1, o2, o3, eX, eT]
           have HF := H127
           rw [‹(rOK (!(rOK wr rest 1)) (rR wr rest 1) 4) = true›] at HF
           exact ⟨_, _, rfl, HF, hC106, hL107⟩
         · skip
           have hb130f := of_decide_eq_true hb130
           refine G.yes rfl ?_
           refine G.sr fun K133 hK134 => ?_
           refine GL.r 1 1 [(35, pt p 0)] ?_
           refine GL.call (j := 2) (Fail_calls (ids [.blk p [.slice A104 ((rR (!(rOK wr rest 1)) (rR wr rest 1) 4).length) c105, .bool (!(rOK (!(rOK wr rest 1)) (rR wr rest 1) 4))] 107, .row R N C 5 1 (by8 whole)]) p A104 ((rR (!(rOK wr rest 1)) (rR wr rest 1) 4).length) c105 (!(rOK (!(rOK wr rest 1)) (rR wr rest 1) 4)) R N C whole w126 (Hp.startL (A := [.blk p [.slice A104 ((rR (!(rOK wr rest 1)) (rR wr rest 1) 4).length) c105, .bool (!(rOK (!(rOK wr rest 1)) (rR wr rest 1) 4))] 107, .row R N C 5 1 (by8 whole)]) (B := []) H127)) (by kernel_rfl) rfl (fun e_ w135 hR => ?_)
           obtain ⟨rfl, H137⟩ := hR
           have H136 : Hp w S [.blk p [.slice none 0 0, .bool true] 107, .row R N C 5 1 (by8 whole)] w135 := Hp.callL (A := [.blk p [.slice A104 ((rR (!(rOK wr rest 1)) (rR wr rest 1) 4).length) c105, .bool (!(rOK (!(rOK wr rest 1)) (rR wr rest 1) 4))] 107, .row R N C 5 1 (by8 whole)]) (B := []) H127 H137
           refine ⟨_, rfl, [], [], by kernel_rfl, ?_⟩
           refine GL.q hK134 ?_
           refine G.sr fun K138 hK139 => ?_
           refine GL.r 1 1 [(4, lu 0)] ?_
           refine GL.q hK139 ?_
           refine G.ret fun F_ hF_ hM_ => hRet _ _ (bodyPost_1 rfl (RV.tmp rfl) ?_ F_ hF_ hM_)
           have hn : ctN wr rest = 4 := by unfold ctN; (repeat' split) <;> omega
           obtain ⟨eX, eW, eT⟩ := ct_long hn (by decide)
           obtain ⟨o1, o2, o3⟩ := ct_bad (wr := wr) (rest := rest) (most := most) (.inr (.inr (by rw [eX]; omega)))
           rw [o1, o2, o3]
           exact ⟨none, 0, rfl, H136, Cut.nil _ _ _, Nat.le_refl _⟩
       · skip
         have hb129f : (5 : Int) ≠ (((cntSz (getB (rV (!(rOK wr rest 1)) (rR wr rest 1) 4))) : Nat) : Int) := bne_iff_ne.1 hb129
         refine GL.r 13 4 [(0, pt p 0), (5, vu (getB (rV (!(rOK wr rest 1)) (rR wr rest 1) 4))), (34, .bool true)] ?_
         refine GL.q hK114 ?_
         refine G.yes rfl ?_
         refine G.sr fun K140 hK141 => ?_
         refine GL.r 1 1 [(35, pt p 0)] ?_
         refine GL.call (j := 2) (Fail_calls (ids [.blk p [.slice A104 ((rR (!(rOK wr rest 1)) (rR wr rest 1) 4).length) c105, .bool (!(rOK (!(rOK wr rest 1)) (rR wr rest 1) 4))] 107, .row R N C 5 1 (by8 whole)]) p A104 ((rR (!(rOK wr rest 1)) (rR wr rest 1) 4).length) c105 (!(rOK (!(rOK wr rest 1)) (rR wr rest 1) 4)) R N C whole w126 (Hp.startL (A := [.blk p [.slice A104 ((rR (!(rOK wr rest 1)) (rR wr rest 1) 4).length) c105, .bool (!(rOK (!(rOK wr rest 1)) (rR wr rest 1) 4))] 107, .row R N C 5 1 (by8 whole)]) (B := []) H127)) (by kernel_rfl) rfl (fun e_ w142 hR => ?_)
         obtain ⟨rfl, H144⟩ := hR
         have H143 : Hp w S [.blk p [.slice none 0 0, .bool true] 107, .row R N C 5 1 (by8 whole)] w142 := Hp.callL (A := [.blk p [.slice A104 ((rR (!(rOK wr rest 1)) (rR wr rest 1) 4).length) c105, .bool (!(rOK (!(rOK wr rest 1)) (rR wr rest 1) 4))] 107, .row R N C 5 1 (by8 whole)]) (B := []) H127 H144
         refine ⟨_, rfl, [], [], by kernel_rfl, ?_⟩
         refine GL.q hK141 ?_
         refine G.sr fun K145 hK146 => ?_
         refine GL.r 1 1 [(4, lu 0)] ?_
         refine GL.q hK146 ?_
         refine G.ret fun F_ hF_ hM_ => hRet _ _ (bodyPost_1 rfl (RV.tmp rfl) ?_ F_ hF_ hM_)
         have hn : ctN wr rest = 4 := by unfold ctN; (repeat' split) <;> omega
         obtain ⟨eX, eW, eT⟩ := ct_long hn (by decide)
         obtain ⟨o1, o2, o3⟩ := ct_bad (wr := wr) (rest := rest) (most := most) (.inr (.inl (by rw [eX, hn]; omega)))
         rw [o1, o2, o3]
         exact ⟨none, 0, rfl, H143, Cut.nil _ _ _, Nat.le_refl _⟩
 · skip
   have hb18f := eq_of_beq hb18
   refine G.yes rfl ?_
   refine G.region ?_
   refine GL.r 1 1 [(0, pt p 0), (1, vu most), (12, pt p 0)] ?_
   refine GL.call (j := 2) (Get2_calls (ids [.blk p [.slice A5 ((rR wr rest 1).length) c6, .bool (!(rOK wr rest 1))] 107, .row R N C 5 1 (by8 whole)]) p A5 ((rR wr rest 1).length) c6 (!(rOK wr rest 1)) R N C whole (rR wr rest 1) w9 (Hp.startL (A := [.blk p [.slice A5 ((rR wr rest 1).length) c6, .bool (!(rOK wr rest 1))] 107, .row R N C 5 1 (by8 whole)]) (B := []) H10) hC7 (rfl) (hL8) ((Nat.le_trans (rR_le _ _ _) (hk ▸ hN)))) (by kernel_rfl) rfl (fun e_ w151 hR => ?_)
   obtain ⟨A147, c148, rfl, H153, hC149, hL150⟩ := hR
   have H152 : Hp w S [.blk p [.slice A147 ((rR (!(rOK wr rest 1)) (rR wr rest 1) 2).length) c148, .bool (!(rOK (!(rOK wr rest 1)) (rR wr rest 1) 2))] 107, .row R N C 5 1 (by8 whole)] w151 := Hp.callL (A := [.blk p [.slice A5 ((rR wr rest 1).length) c6, .bool (!(rOK wr rest 1))] 107, .row R N C 5 1 (by8 whole)]) (B := []) H10 H153
   refine ⟨_, rfl, [0, 1, 13], [(0, pt p 0), (1, vu most), (13, vu (getB (rV (!(rOK wr rest 1)) (rR wr rest 1) 2)))], by kernel_rfl, ?_⟩
   refine GL.r 4 2 [(0, pt p 0), (1, vu most), (5, vu (getB (rV (!(rOK wr rest 1)) (rR wr rest 1) 2))), (6, li 3)] ?_
   refine GL.q hK13 ?_
   refine G.seqK fun K154 hK155 => ?_
   refine G.sr fun K156 hK157 => ?_
   refine GL.r 1 1 [(0, pt p 0), (1, vu most), (5, vu (getB (rV (!(rOK wr rest 1)) (rR wr rest 1) 2))), (6, li 3), (22, pt p 0)] ?_
   refine GL.call (j := 2) (Wrong_calls (ids [.blk p [.slice A147 ((rR (!(rOK wr rest 1)) (rR wr rest 1) 2).length) c148, .bool (!(rOK (!(rOK wr rest 1)) (rR wr rest 1) 2))] 107, .row R N C 5 1 (by8 whole)]) p A147 ((rR (!(rOK wr rest 1)) (rR wr rest 1) 2).length) c148 (!(rOK (!(rOK wr rest 1)) (rR wr rest 1) 2)) R N C whole w151 (Hp.startL (A := [.blk p [.slice A147 ((rR (!(rOK wr rest 1)) (rR wr rest 1) 2).length) c148, .bool (!(rOK (!(rOK wr rest 1)) (rR wr rest 1) 2))] 107, .row R N C 5 1 (by8 whole)]) (B := []) H152)) (by kernel_rfl) rfl (fun e_ w158 hR => ?_)
   obtain ⟨rfl, H160⟩ := hR
   have H159 : Hp w S [.blk p [.slice A147 ((rR (!(rOK wr rest 1)) (rR wr rest 1) 2).length) c148, .bool (!(rOK (!(rOK wr rest 1)) (rR wr rest 1) 2))] 107, .row R N C 5 1 (by8 whole)] w158 := Hp.callL (A := [.blk p [.slice A147 ((rR (!(rOK wr rest 1)) (rR wr rest 1) 2).length) c148, .bool (!(rOK (!(rOK wr rest 1)) (rR wr rest 1) 2))] 107, .row R N C 5 1 (by8 whole)]) (B := []) H152 H160
   refine ⟨_, rfl, [0, 1, 5, 6, 23], [(0, pt p 0), (1, vu most), (5, vu (getB (rV (!(rOK wr rest 1)) (rR wr rest 1) 2))), (6, li 3), (23, .bool (!(rOK (!(rOK wr rest 1)) (rR wr rest 1) 2)))], by kernel_rfl, ?_⟩
   refine GL.r 3 1 [(0, pt p 0), (1, vu most), (5, vu (getB (rV (!(rOK wr rest 1)) (rR wr rest 1) 2))), (6, li 3), (24, .bool (!(rOK (!(rOK wr rest 1)) (rR wr rest 1) 2)))] ?_
   cases hb161 : (rOK (!(rOK wr rest 1)) (rR wr rest 1) 2)
   · skip
     refine GL.r 13 10 [(0, pt p 0), (5, vu (getB (rV (!(rOK wr rest 1)) (rR wr rest 1) 2))), (34, .bool true)] ?_
     refine GL.q hK157 ?_
     refine G.yes rfl ?_
     refine G.sr fun K162 hK163 => ?_
     refine GL.r 1 1 [(35, pt p 0)] ?_
     refine GL.call (j := 2) (Fail_calls (ids [.blk p [.slice A147 ((rR (!(rOK wr rest 1)) (rR wr rest 1) 2).length) c148, .bool (!(rOK (!(rOK wr rest 1)) (rR wr rest 1) 2))] 107, .row R N C 5 1 (by8 whole)]) p A147 ((rR (!(rOK wr rest 1)) (rR wr rest 1) 2).length) c148 (!(rOK (!(rOK wr rest 1)) (rR wr rest 1) 2)) R N C whole w158 (Hp.startL (A := [.blk p [.slice A147 ((rR (!(rOK wr rest 1)) (rR wr rest 1) 2).length) c148, .bool (!(rOK (!(rOK wr rest 1)) (rR wr rest 1) 2))] 107, .row R N C 5 1 (by8 whole)]) (B := []) H159)) (by kernel_rfl) rfl (fun e_ w164 hR => ?_)
     obtain ⟨rfl, H166⟩ := hR
     have H165 : Hp w S [.blk p [.slice none 0 0, .bool true] 107, .row R N C 5 1 (by8 whole)] w164 := Hp.callL (A := [.blk p [.slice A147 ((rR (!(rOK wr rest 1)) (rR wr rest 1) 2).length) c148, .bool (!(rOK (!(rOK wr rest 1)) (rR wr rest 1) 2))] 107, .row R N C 5 1 (by8 whole)]) (B := []) H159 H166
     refine ⟨_, rfl, [], [], by kernel_rfl, ?_⟩
     refine GL.q hK163 ?_
     refine G.sr fun K167 hK168 => ?_
     refine GL.r 1 1 [(4, lu 0)] ?_
     refine GL.q hK168 ?_
     refine G.ret fun F_ hF_ hM_ => hRet _ _ (bodyPost_1 rfl (RV.tmp rfl) ?_ F_ hF_ hM_)
     have hn : ctN wr rest = 2 := by unfold ctN; (repeat' split) <;> omega
     obtain ⟨eX, eW, eT⟩ := ct_long hn (by decide)
     obtain ⟨o1, o2, o3⟩ := ct_bad (most := most) (.inl (by rw [eW, ‹(rOK (!(rOK wr rest 1)) (rR wr rest 1) 2) = false›]; rfl))
     rw [o1, o2, o3]
     exact ⟨none, 0, rfl, H165, Cut.nil _ _ _, Nat.le_refl _⟩
   · skip
     refine GL.r 5 2 [(0, pt p 0), (1, vu most), (5, vu (getB (rV (!(rOK wr rest 1)) (rR wr rest 1) 2))), (24, .bool false), (25, li 3), (26, vu (getB (rV (!(rOK wr rest 1)) (rR wr rest 1) 2)))] ?_
     refine GL.call (j := 6) (CountSize_calls (getB (rV (!(rOK wr rest 1)) (rR wr rest 1) 2)) w158) (by kernel_rfl) rfl (fun e_ w169 hR => ?_)
     obtain ⟨rfl, H171⟩ := hR
     have H170 : Hp w S [.blk p [.slice A147 ((rR (!(rOK wr rest 1)) (rR wr rest 1) 2).length) c148, .bool (!(rOK (!(rOK wr rest 1)) (rR wr rest 1) 2))] 107, .row R N C 5 1 (by8 whole)] w169 := H159.callNil H171
     refine ⟨_, rfl, [0, 1, 5, 24, 25, 27], [(0, pt p 0), (1, vu most), (5, vu (getB (rV (!(rOK wr rest 1)) (rR wr rest 1) 2))), (24, .bool false), (25, li 3), (27, vi (cntSz (getB (rV (!(rOK wr rest 1)) (rR wr rest 1) 2))))], by kernel_rfl, ?_⟩
     refine GL.r 9 3 [(0, pt p 0), (1, vu most), (5, vu (getB (rV (!(rOK wr rest 1)) (rR wr rest 1) 2))), (30, .bool ((3 : Int) != (((cntSz (getB (rV (!(rOK wr rest 1)) (rR wr rest 1) 2))) : Nat) : Int)))] ?_
     cases hb172 : ((3 : Int) != (((cntSz (getB (rV (!(rOK wr rest 1)) (rR wr rest 1) 2))) : Nat) : Int))
     · skip
       have hb172f : (3 : Int) = (((cntSz (getB (rV (!(rOK wr rest 1)) (rR wr rest 1) 2))) : Nat) : Int) := bne_eq_false_iff_eq.1 hb172
       refine GL.r 13 4 [(0, pt p 0), (5, vu (getB (rV (!(rOK wr rest 1)) (rR wr rest 1) 2))), (34, .bool (decide ((most : Int) < (((getB (rV (!(rOK wr rest 1)) (rR wr rest 1) 2)) : Nat) : Int))))] ?_
       refine GL.q hK157 ?_
       cases hb173 : (decide ((most : Int) < (((getB (rV (!(rOK wr rest 1)) (rR wr rest 1) 2)) : Nat) : Int)))
       · skip
         have hb173f := of_decide_eq_false hb173
         refine G.no rfl ?_
         refine G.skipK hK155 (fun _ _ h => h) ?_
         refine G.sr fun K174 hK175 => ?_
         refine GL.r 2 2 [(4, vu (getB (rV (!(rOK wr rest 1)) (rR wr rest 1) 2)))] ?_
         refine GL.q hK175 ?_
         refine G.ret fun F_ hF_ hM_ => hRet _ _ (bodyPost_1 rfl (RV.tmp rfl) ?_ F_ hF_ hM_)
         have hn : ctN wr rest = 2 := by unfold ctN; (repeat' split) <;> omega
         obtain ⟨eX, eW, eT⟩ := ct_long hn (by decide)
         obtain ⟨o1, o2, o3⟩ := ct_ok (most := most) (by rw [eW, ‹(rOK (!(rOK wr rest 1)) (rR wr rest 1) 2) = true›]; rfl) (by rw [eX, hn]; omega) (by rw [eX]; omega)
         rw [o1, o2, o3, eX, eT]
         have HF := H170
         rw [‹(rOK (!(rOK wr rest 1)) (rR wr rest 1) 2) = true›] at HF
         exact ⟨_, _, rfl, HF, hC149, hL150⟩
       · skip
         have hb173f := of_decide_eq_true hb173
         refine G.yes rfl ?_
         refine G.sr fun K176 hK177 => ?_
         refine GL.r 1 1 [(35, pt p 0)] ?_
         refine GL.call (j := 2) (Fail_calls (ids [.blk p [.slice A147 ((rR (!(rOK wr rest 1)) (rR wr rest 1) 2).length) c148, .bool (!(rOK (!(rOK wr rest 1)) (rR wr rest 1) 2))] 107, .row R N C 5 1 (by8 whole)]) p A147 ((rR (!(rOK wr rest 1)) (rR wr rest 1) 2).length) c148 (!(rOK (!(rOK wr rest 1)) (rR wr rest 1) 2)) R N C whole w169 (Hp.startL (A := [.blk p [.slice A147 ((rR (!(rOK wr rest 1)) (rR wr rest 1) 2).length) c148, .bool (!(rOK (!(rOK wr rest 1)) (rR wr rest 1) 2))] 107, .row R N C 5 1 (by8 whole)]) (B := []) H170)) (by kernel_rfl) rfl (fun e_ w178 hR => ?_)
         obtain ⟨rfl, H180⟩ := hR
         have H179 : Hp w S [.blk p [.slice none 0 0, .bool true] 107, .row R N C 5 1 (by8 whole)] w178 := Hp.callL (A := [.blk p [.slice A147 ((rR (!(rOK wr rest 1)) (rR wr rest 1) 2).length) c148, .bool (!(rOK (!(rOK wr rest 1)) (rR wr rest 1) 2))] 107, .row R N C 5 1 (by8 whole)]) (B := []) H170 H180
         refine ⟨_, rfl, [], [], by kernel_rfl, ?_⟩
         refine GL.q hK177 ?_
         refine G.sr fun K181 hK182 => ?_
         refine GL.r 1 1 [(4, lu 0)] ?_
         refine GL.q hK182 ?_
         refine G.ret fun F_ hF_ hM_ => hRet _ _ (bodyPost_1 rfl (RV.tmp rfl) ?_ F_ hF_ hM_)
         have hn : ctN wr rest = 2 := by unfold ctN; (repeat' split) <;> omega
         obtain ⟨eX, eW, eT⟩ := ct_long hn (by decide)
         obtain ⟨o1, o2, o3⟩ := ct_bad (wr := wr) (rest := rest) (most := most) (.inr (.inr (by rw [eX]; omega)))
         rw [o1, o2, o3]
         exact ⟨none, 0, rfl, H179, Cut.nil _ _ _, Nat.le_refl _⟩
     · skip
       have hb172f : (3 : Int) ≠ (((cntSz (getB (rV (!(rOK wr rest 1)) (rR wr rest 1) 2))) : Nat) : Int) := bne_iff_ne.1 hb172
       refine GL.r 13 4 [(0, pt p 0), (5, vu (getB (rV (!(rOK wr rest 1)) (rR wr rest 1) 2))), (34, .bool true)] ?_
       refine GL.q hK157 ?_
       refine G.yes rfl ?_
       refine G.sr fun K183 hK184 => ?_
       refine GL.r 1 1 [(35, pt p 0)] ?_
       refine GL.call (j := 2) (Fail_calls (ids [.blk p [.slice A147 ((rR (!(rOK wr rest 1)) (rR wr rest 1) 2).length) c148, .bool (!(rOK (!(rOK wr rest 1)) (rR wr rest 1) 2))] 107, .row R N C 5 1 (by8 whole)]) p A147 ((rR (!(rOK wr rest 1)) (rR wr rest 1) 2).length) c148 (!(rOK (!(rOK wr rest 1)) (rR wr rest 1) 2)) R N C whole w169 (Hp.startL (A := [.blk p [.slice A147 ((rR (!(rOK wr rest 1)) (rR wr rest 1) 2).length) c148, .bool (!(rOK (!(rOK wr rest 1)) (rR wr rest 1) 2))] 107, .row R N C 5 1 (by8 whole)]) (B := []) H170)) (by kernel_rfl) rfl (fun e_ w185 hR => ?_)
       obtain ⟨rfl, H187⟩ := hR
       have H186 : Hp w S [.blk p [.slice none 0 0, .bool true] 107, .row R N C 5 1 (by8 whole)] w185 := Hp.callL (A := [.blk p [.slice A147 ((rR (!(rOK wr rest 1)) (rR wr rest 1) 2).length) c148, .bool (!(rOK (!(rOK wr rest 1)) (rR wr rest 1) 2))] 107, .row R N C 5 1 (by8 whole)]) (B := []) H170 H187
       refine ⟨_, rfl, [], [], by kernel_rfl, ?_⟩
       refine GL.q hK184 ?_
       refine G.sr fun K188 hK189 => ?_
       refine GL.r 1 1 [(4, lu 0)] ?_
       refine GL.q hK189 ?_
       refine G.ret fun F_ hF_ hM_ => hRet _ _ (bodyPost_1 rfl (RV.tmp rfl) ?_ F_ hF_ hM_)
       have hn : ctN wr rest = 2 := by unfold ctN; (repeat' split) <;> omega
       obtain ⟨eX, eW, eT⟩ := ct_long hn (by decide)
       obtain ⟨o1, o2, o3⟩ := ct_bad (wr := wr) (rest := rest) (most := most) (.inr (.inl (by rw [eX, hn]; omega)))
       rw [o1, o2, o3]
       exact ⟨none, 0, rfl, H186, Cut.nil _ _ _, Nat.le_refl _⟩
theorem RCounted_calls (S : List Nat) (p : Nat) (A : Option Addr) (k cap : Nat) (wr : Bool) (R : Option Addr) (N C : Nat) (whole rest : List UInt8) (most : Nat) (w : World) (h0 : Hp w S [.blk p [.slice A k cap, .bool wr] 107, .row R N C 5 1 (by8 whole)] w) (hcut : Cut R whole A rest) (hk : k = rest.length) (hcap : k ≤ cap) (hN : k ≤ 1000000) (hmost : most ≤ 9223372036854775807) : Calls Try.prog 40 #[pt p 0, .int .i64 (most : Int)] w fun e w' => ∃ B b D d, e = .returned (.slice D (cdV wr rest most).length d) ∧ Hp w S [.blk p [.slice B (cdR wr rest most).length b, .bool (!(cdOK wr rest most))] 107, .row R N C 5 1 (by8 whole), .row D (cdV wr rest most).length d 5 1 (by8 (cdV wr rest most))] w' ∧ Cut R whole B (cdR wr rest most) ∧ (cdR wr rest most).length ≤ b := by
 refine calls_G (args := [pt p 0, vi most]) Try.func40 rfl Try.ntmps40 rfl ?_
 intro Q0 hRet hNor hPan
 have H := h0
 refine G.sr fun K1 hK2 => ?_
 refine GL.r 1 1 [(0, pt p 0), (1, vi most)] ?_
 refine GL.q hK2 ?_
 refine G.seqK fun K3 hK4 => ?_
 refine G.sr fun K5 hK6 => ?_
 refine GL.r 2 2 [(0, pt p 0), (1, vi most), (7, .bool (decide ((most : Int) < 0)))] ?_
 refine GL.q hK6 ?_
 have hb7 : (decide ((most : Int) < 0)) = false := decide_eq_false (by omega)
 rw [hb7]
 refine G.no rfl ?_
 refine G.skipK hK4 (fun _ _ h => h) ?_
 refine G.sr fun K8 hK9 => ?_
 refine GL.r 4 4 [(0, pt p 0), (10, pt p 0), (13, lu (IntKind.u64.wrap (if (0 : Int) > (most : Int) then (0 : Int) else (most : Int))))] ?_
 have e10 : (if (0 : Int) > (most : Int) then (0 : Int) else (most : Int)) = (most : Int) := by rw [if_neg (by omega)]
 have e11 : (IntKind.u64.wrap (most : Int)) = (most : Int) := in_u64 (by omega)
 rw [e10, e11]
 clear e10 e11
 refine GL.call (j := 5) (RCount_calls (ids [.blk p [.slice A k cap, .bool wr] 107, .row R N C 5 1 (by8 whole)]) p A k cap wr R N C whole rest most w (Hp.startL (A := [.blk p [.slice A k cap, .bool wr] 107, .row R N C 5 1 (by8 whole)]) (B := []) H) hcut (hk) (hcap) (hN)) (by kernel_rfl) rfl (fun e_ w16 hR => ?_)
 obtain ⟨A12, c13, rfl, H18, hC14, hL15⟩ := hR
 have H17 : Hp w S [.blk p [.slice A12 ((ctR wr rest most).length) c13, .bool (!(ctOK wr rest most))] 107, .row R N C 5 1 (by8 whole)] w16 := Hp.callL (A := [.blk p [.slice A k cap, .bool wr] 107, .row R N C 5 1 (by8 whole)]) (B := []) H H18
 refine ⟨_, rfl, [0, 14], [(0, pt p 0), (14, vu (ctV wr rest most))], by kernel_rfl, ?_⟩
 refine GL.r 6 1 [(0, pt p 0), (5, vu (ctV wr rest most))] ?_
 refine GL.q hK9 ?_
 refine G.sr fun K19 hK20 => ?_
 refine GL.r 3 3 [(15, pt p 0), (17, li (IntKind.i64.wrap (((ctV wr rest most) : Nat) : Int)))] ?_
 have e21 : (IntKind.i64.wrap (((ctV wr rest most) : Nat) : Int)) = (((ctV wr rest most) : Nat) : Int) := in_i64 (by have := ctV_le wr rest most; omega)
 rw [e21]
 clear e21
 refine GL.call (j := 4) (Raw_calls (ids [.blk p [.slice A12 ((ctR wr rest most).length) c13, .bool (!(ctOK wr rest most))] 107, .row R N C 5 1 (by8 whole)]) p A12 ((ctR wr rest most).length) c13 (!(ctOK wr rest most)) R N C whole (ctR wr rest most) (ctV wr rest most) w16 (Hp.startL (A := [.blk p [.slice A12 ((ctR wr rest most).length) c13, .bool (!(ctOK wr rest most))] 107, .row R N C 5 1 (by8 whole)]) (B := []) H17) hC14 (rfl) (hL15) ((Nat.le_trans (ctR_le _ _ _) (hk ▸ hN)))) (by kernel_rfl) rfl (fun e_ w28 hR => ?_)
 obtain ⟨A22, c23, A24, c25, rfl, H30, hC26, hL27⟩ := hR
 have H29 : Hp w S [.blk p [.slice A22 ((rR (!(ctOK wr rest most)) (ctR wr rest most) (ctV wr rest most)).length) c23, .bool (!(rOK (!(ctOK wr rest most)) (ctR wr rest most) (ctV wr rest most)))] 107, .row R N C 5 1 (by8 whole), .row A24 ((rV (!(ctOK wr rest most)) (ctR wr rest most) (ctV wr rest most)).length) c25 5 1 (by8 (rV (!(ctOK wr rest most)) (ctR wr rest most) (ctV wr rest most)))] w28 := Hp.callL (A := [.blk p [.slice A12 ((ctR wr rest most).length) c13, .bool (!(ctOK wr rest most))] 107, .row R N C 5 1 (by8 whole)]) (B := []) H17 H30
 refine ⟨_, rfl, [18], [(18, .slice A24 ((rV (!(ctOK wr rest most)) (ctR wr rest most) (ctV wr rest most)).length) c25)], by kernel_rfl, ?_⟩
 refine GL.r 5 1 [(4, .slice A24 ((rV (!(ctOK wr rest most)) (ctR wr rest most) (ctV wr rest most)).length) c25)] ?_
 refine GL.q hK20 ?_
 refine G.ret fun F_ hF_ hM_ => hRet _ _ (bodyPost_1 rfl (RV.tmp rfl) ?_ F_ hF_ hM_)
 exact ⟨_, _, _, _, rfl, H29, hC26, hL27⟩
end Go.Proofs.Ytcedmbdahbdmaaa
