/- Part 3 of what headerBytes_proved stands on. -/
import Derived.Test.YtdepaaphgfapjaaZb2
set_option linter.unusedVariables false
namespace Go.Proofs.Ytdepaaphgfapjaa
open Go.RowKit
theorem acc_lt {V : List UInt8} {k : Nat} (h : k ≤ 7) : getB (V.drop (V.length - k)) < 72057594037927936 := by
  have h1 := getB_lt (V.drop (V.length - k))
  have h2 : (V.drop (V.length - k)).length ≤ k := by rw [List.length_drop]; omega
  have h3 : 256 ^ (V.drop (V.length - k)).length ≤ 256 ^ 7 := Nat.pow_le_pow_right (by decide) (by omega)
  exact Nat.lt_of_lt_of_le h1 h3
theorem acc_step {V : List UInt8} {k : Nat} (h : k < V.length) : (V.getD (V.length - 1 - k) 0).toNat + 256 * getB (V.drop (V.length - k)) = getB (V.drop (V.length - (k + 1))) := by
  have h1 := getB_drop (getD8 (bs := V) (k := V.length - 1 - k) (by omega))
  rw [show V.length - (k + 1) = V.length - 1 - k by omega, h1, show V.length - 1 - k + 1 = V.length - k by omega]
theorem Backward_calls (A : Option Addr) (n c : Nat) (w : World) : Calls Try.prog 44 #[.slice A n c] w fun e w' => ∃ B, e = .returned (.func (.func 63) #[] #[.pointer (some ⟨B, 0, none⟩)]) ∧ Hp w [] [.blk B [.slice A n c] 28] w' := by
  refine calls_G (args := [.slice A n c]) Try.func44 rfl Try.ntmps44 rfl ?_
  intro Q0 hRet hNor hPan
  have H := Hp.start w
  have H : Hp w [] [] w := H
  refine G.seqK fun K1 hK2 => ?_
  refine G.region ?_
  obtain ⟨p3, w4, r5, H6⟩ := H.box (P := Try.prog) 28 [.slice A n c] (.slice A n c) rfl
  have H6 : Hp w [] [.blk p3 [.slice A n c] 28] w4 := H6
  refine GL.sem (j := 1) (r5) [1] [(1, pt p3 0)] (by kernel_rfl) (by kernel_rfl) rfl ?_
  refine GL.run (j := 2) 1 [1] [(1, pt p3 0)] (by kernel_rfl) rfl ?_
  refine GL.k rfl hK2 (fun _ _ h => h) ?_
  refine G.seqK fun K7 hK8 => ?_
  refine G.region ?_
  refine GL.run (j := 2) 2 [2] [(2, .func (.func 63) #[] #[pt p3 0])] (by kernel_rfl) rfl ?_
  refine GL.k rfl hK8 (fun _ _ h => h) ?_
  refine G.ret ?_
  intro F_ hF_ hM_
  refine hRet _ _ (bodyPost_1 rfl (RV.tmp rfl) ?_ F_ hF_ hM_)
  exact ⟨_, rfl, H6⟩
theorem Backward_iter (bs : List UInt8) (hlen : bs.length ≤ 1099511627776) (A : Option Addr) (c B : Nat) : Iter Try.prog 63 #[pt B 0] bs.length (fun k => #[.int .i64 ((bs.length - 1 - k : Nat) : Int), .int .u8 ((bs.getD (bs.length - 1 - k) 0).toNat : Int)]) (fun W => W.cell? ⟨B, 0, none⟩ = some (.slice A bs.length c) ∧ RdS W A (by8 bs)) := by
  intro l J Jx hRd hst hy w h0
  rw [show (#[Value.func (.yield l) #[] #[]] ++ #[pt B 0] : Array Value) = #[.func (.yield l) #[] #[], pt B 0] by simp]
  refine calls_R (args := [.func (.yield l) #[] #[], pt B 0]) Try.func63 rfl Try.ntmps63 rfl ?_
  intro Q0 hRet hNor
  have H := Hp.start w
  have H : Hp w [] [] w := H
  refine RG.seqK fun K1 hK2 => ?_
  refine RG.region (by kernel_rfl) ?_
  refine RL.sem (j := 1) (run_ld1 (P := Try.prog) (ty := 28) (a := ⟨B, 0, none⟩) (v := .slice A bs.length c) (by kernel_rfl) ((hRd _ _ h0).1)) [0, 1, 4] [(0, .func (.yield l) #[] #[]), (1, pt B 0), (4, .slice A bs.length c)] (by kernel_rfl) (by kernel_rfl) rfl ?_
  refine RL.run (j := 4) 3 [0, 1, 3] [(0, .func (.yield l) #[] #[]), (1, pt B 0), (3, .int .i64 (IntKind.i64.wrap ((bs.length : Int) - 1)))] (by kernel_rfl) rfl ?_
  have e3 : (IntKind.i64.wrap ((bs.length : Int) - 1)) = (((bs.length - 0 : Nat) : Int) - 1) := by rw [Nat.sub_zero, in_i64 (by omega)]
  refine RL.eq (M' := [(0, .func (.yield l) #[] #[]), (1, pt B 0), (3, .int .i64 (((bs.length - 0 : Nat) : Int) - 1))]) (by rw [e3]) ?_
  clear e3
  refine RL.k rfl hK2 (fun _ _ h => h) ?_
  refine RG.block ?_
  refine RG.fit [0, 1, 3] (M' := [(0, .func (.yield l) #[] #[]), (1, pt B 0), (3, .int .i64 (((bs.length - 0 : Nat) : Int) - 1))]) (by kernel_rfl) ?_
  refine RG.loop (X := Nat) (fun k => [(0, .func (.yield l) #[] #[]), (1, pt B 0), (3, .int .i64 (((bs.length - k : Nat) : Int) - 1))]) (fun k w_ => k ≤ bs.length ∧ J k w_) (fun k => bs.length - k) 0 [0, 1, 3] (by kernel_rfl) ⟨Nat.zero_le _, h0⟩ ?_
  rintro k wk ⟨hkN, hJk⟩
  have H4 := Hp.start wk
  refine RG.eq (M' := [(0, .func (.yield l) #[] #[]), (1, pt B 0), (3, .int .i64 (((bs.length - k : Nat) : Int) - 1))]) rfl ?_
  refine RG.seqK fun K5 hK6 => ?_
  refine RG.seqK fun K7 hK8 => ?_
  refine RG.region (by kernel_rfl) ?_
  refine RL.run (j := 2) 2 [0, 1, 3, 8] [(0, .func (.yield l) #[] #[]), (1, pt B 0), (3, .int .i64 (((bs.length - k : Nat) : Int) - 1)), (8, .bool (decide (0 ≤ (((bs.length - k : Nat) : Int) - 1))))] (by kernel_rfl) rfl ?_
  refine RL.k rfl hK8 (fun _ _ h => h) ?_
  cases hb9 : (decide (0 ≤ (((bs.length - k : Nat) : Int) - 1)))
  · skip
    have hb9f := of_decide_eq_false hb9
    refine RG.no rfl ?_
    refine fun F_ hF_ hM_ => wpIn_exit ?_
    refine hNor _ _ (postM_0 rfl  ?_ F_ hF_ hM_)
    exact ⟨⟨_, rfl⟩, .inl (by first | exact hJk | (have hkk : k = bs.length := by omega); rw [← hkk]; exact hJk)⟩
  · skip
    have hb9f := of_decide_eq_true hb9
    have ei : (((bs.length - k : Nat) : Int) - 1) = ((bs.length - 1 - k : Nat) : Int) := by omega
    refine RG.eq (M' := [(0, .func (.yield l) #[] #[]), (1, pt B 0), (3, .int .i64 ((bs.length - 1 - k : Nat) : Int)), (8, .bool true)]) (by rw [ei]) ?_
    refine RG.yes rfl ?_
    refine RG.skipK hK6 (fun _ _ h => h) ?_
    refine RG.seqK fun K10 hK11 => ?_
    refine RG.block ?_
    refine RG.seqK fun K12 hK13 => ?_
    refine RG.region (by kernel_rfl) ?_
    refine RL.run (j := 2) 2 [0, 1, 3, 11, 12] [(0, .func (.yield l) #[] #[]), (1, pt B 0), (3, .int .i64 ((bs.length - 1 - k : Nat) : Int)), (11, .func (.yield l) #[] #[]), (12, .int .i64 ((bs.length - 1 - k : Nat) : Int))] (by kernel_rfl) rfl ?_
    refine RL.sem (j := 3) (run_ld1 (P := Try.prog) (ty := 28) (a := ⟨B, 0, none⟩) (v := .slice A bs.length c) (by kernel_rfl) ((hRd _ _ hJk).1)) [0, 1, 3, 11, 12, 13] [(0, .func (.yield l) #[] #[]), (1, pt B 0), (3, .int .i64 ((bs.length - 1 - k : Nat) : Int)), (11, .func (.yield l) #[] #[]), (12, .int .i64 ((bs.length - 1 - k : Nat) : Int)), (13, .slice A bs.length c)] (by kernel_rfl) (by kernel_rfl) rfl ?_
    refine RL.run (j := 4) 1 [0, 1, 3, 11, 12, 13, 14] [(0, .func (.yield l) #[] #[]), (1, pt B 0), (3, .int .i64 ((bs.length - 1 - k : Nat) : Int)), (11, .func (.yield l) #[] #[]), (12, .int .i64 ((bs.length - 1 - k : Nat) : Int)), (13, .slice A bs.length c), (14, .int .i64 ((bs.length - 1 - k : Nat) : Int))] (by kernel_rfl) rfl ?_
    refine RL.sem (j := 5) (run_idxRd (P := Try.prog) (k := .i64) (t := 28) (A := A) (len := bs.length) (cap := c) (j := bs.length - 1 - k) (by kernel_rfl) rfl ((hRd _ _ hJk).2) (by rw [by8_length]) (by first | rfl | omega | (simp only [List.length_cons, List.length_nil, List.length_drop, List.length_take, List.length_append] <;> omega))) [0, 1, 3, 11, 12, 15] [(0, .func (.yield l) #[] #[]), (1, pt B 0), (3, .int .i64 ((bs.length - 1 - k : Nat) : Int)), (11, .func (.yield l) #[] #[]), (12, .int .i64 ((bs.length - 1 - k : Nat) : Int)), (15, .pointer (Option.map (fun x => Addr.add x (bs.length - 1 - k)) A))] (by kernel_rfl) (by kernel_rfl) rfl ?_
    refine RL.sem (j := 6) (run_ldRd (P := Try.prog) (ty := 5) (A := A) (j := bs.length - 1 - k) (v := .int .u8 ((bs.getD (bs.length - 1 - k) 0).toNat : Int)) (by kernel_rfl) ((hRd _ _ hJk).2) (by8_at (getD8 (by omega)))) [0, 1, 3, 11, 12, 16] [(0, .func (.yield l) #[] #[]), (1, pt B 0), (3, .int .i64 ((bs.length - 1 - k : Nat) : Int)), (11, .func (.yield l) #[] #[]), (12, .int .i64 ((bs.length - 1 - k : Nat) : Int)), (16, .int .u8 ((bs.getD (bs.length - 1 - k) 0).toNat : Int))] (by kernel_rfl) (by kernel_rfl) rfl ?_
    refine RL.yield (j := 7) (hy k _ (by omega) hJk) (by kernel_rfl) rfl (fun e_ w14 hR18 => ?_)
    obtain ⟨b15, rfl, hyt16, hyf17⟩ := yield_cases hR18
    have H19 := Hp.start w14
    refine ⟨_, rfl, [0, 1, 3, 17], [(0, .func (.yield l) #[] #[]), (1, pt B 0), (3, .int .i64 ((bs.length - 1 - k : Nat) : Int)), (17, .bool b15)], by kernel_rfl, ?_⟩
    refine RL.run (j := 8) 1 [0, 1, 3, 18] [(0, .func (.yield l) #[] #[]), (1, pt B 0), (3, .int .i64 ((bs.length - 1 - k : Nat) : Int)), (18, .bool (!b15))] (by kernel_rfl) rfl ?_
    refine RL.k rfl hK13 (fun _ _ h => h) ?_
    rcases (Bool.eq_false_or_eq_true b15).symm with hb20 | hb20
    · skip
      refine RG.eq (M' := [(0, .func (.yield l) #[] #[]), (1, pt B 0), (3, .int .i64 ((bs.length - 1 - k : Nat) : Int)), (18, .bool true)]) (by first | (rw [hb20]; done) | (rw [hb20]; rfl)) ?_
      have hJ21 := hyf17 hb20
      refine RG.yes rfl ?_
      refine RG.ret ?_
      intro F_ hF_ hM_
      refine hRet _ _ (postM_0 rfl  ?_ F_ hF_ hM_)
      exact ⟨⟨_, rfl⟩, .inr hJ21⟩
    · skip
      refine RG.eq (M' := [(0, .func (.yield l) #[] #[]), (1, pt B 0), (3, .int .i64 ((bs.length - 1 - k : Nat) : Int)), (18, .bool false)]) (by first | (rw [hb20]; done) | (rw [hb20]; rfl)) ?_
      have hJ22 := hyt16 hb20
      refine RG.no rfl ?_
      refine RG.skipK hK11 (fun _ _ h => h) ?_
      refine RG.region (by kernel_rfl) ?_
      refine RL.run (j := 3) 3 [0, 1, 3] [(0, .func (.yield l) #[] #[]), (1, pt B 0), (3, .int .i64 (IntKind.i64.wrap (((bs.length - 1 - k : Nat) : Int) - 1)))] (by kernel_rfl) rfl ?_
      have e23 : (IntKind.i64.wrap (((bs.length - 1 - k : Nat) : Int) - 1)) = (((bs.length - (k + 1) : Nat) : Int) - 1) := by rw [in_i64 (by omega)]; omega
      refine RL.eq (M' := [(0, .func (.yield l) #[] #[]), (1, pt B 0), (3, .int .i64 (((bs.length - (k + 1) : Nat) : Int) - 1))]) (by rw [e23]) ?_
      clear e23
      exact RL.again (k + 1) [0, 1, 3] rfl (by kernel_rfl) (by show bs.length - (k + 1) < bs.length - k; omega) ⟨by omega, hJ22⟩
theorem run_indexByte (c : UInt8) (w : World) : (callFunc 75 #[.string (strOf signs), .int .u8 (c.toNat : Int)]).run Try.prog w = .ok (.value (.int .i64 (hexZ c))) w := by
  rw [run_callFunc_extern Try.func75 (by kernel_rfl) (by kernel_rfl) (by kernel_rfl) (e := Extern.BytealgIndexByte.indexByte) (by kernel_rfl)]
  have hc : (c.toNat : Int).toNat.toUInt8 = c := by simp
  change Result.andThen ((do
      let b ← Extern.Bytes.bytesOf (.string (strOf signs))
      let c ← Extern.Bytes.asByte (.int .u8 (c.toNat : Int))
      match (List.range b.size).find? fun i => b[i]! == c with
      | some i => pure (goInt i)
      | none => pure (goInt (-1)) : Sem Value).run Try.prog w) _ = _
  simp only [Extern.Bytes.bytesOf, Extern.Bytes.asByte, Sem.run_bind, Sem.run_pure, Result.andThen_ok, hc, hex_find, hexZ]
  cases hexOK c <;> simp [goInt, Result.andThen]
theorem Index0_calls (c : UInt8) (w : World) : Calls Try.prog 71 #[.string (strOf signs), .int .u8 (c.toNat : Int)] w fun e w' => e = .returned (.int .i64 (hexZ c)) ∧ Hp w [] [] w' := by
  refine calls_G (args := [.string (strOf signs), .int .u8 (c.toNat : Int)]) Try.func71 rfl Try.ntmps71 rfl ?_
  intro Q0 hRet hNor hPan
  have H := Hp.start w
  have H : Hp w [] [] w := H
  refine G.seqK fun K1 hK2 => ?_
  refine G.region ?_
  refine GL.run (j := 1) 1 [0, 1] [(0, .string (strOf signs)), (1, .int .u8 (c.toNat : Int))] (by kernel_rfl) rfl ?_
  refine GL.k rfl hK2 (fun _ _ h => h) ?_
  refine G.seqK fun K3 hK4 => ?_
  refine G.region ?_
  refine GL.run (j := 2) 2 [5, 6] [(5, .string (strOf signs)), (6, .int .u8 (c.toNat : Int))] (by kernel_rfl) rfl ?_
  refine GL.semN (j := 3) (run_indexByte c _) [7] [(7, .int .i64 (hexZ c))] (by kernel_rfl) (by kernel_rfl) rfl ?_
  refine GL.run (j := 4) 1 [4] [(4, .int .i64 (hexZ c))] (by kernel_rfl) rfl ?_
  refine GL.k rfl hK4 (fun _ _ h => h) ?_
  refine G.ret ?_
  intro F_ hF_ hM_
  refine hRet _ _ (bodyPost_1 rfl (RV.tmp rfl) ?_ F_ hF_ hM_)
  exact ⟨rfl, H⟩
theorem Index1_calls (c : UInt8) (w : World) : Calls Try.prog 61 #[.string (strOf signs), .int .u8 (c.toNat : Int)] w fun e w' => e = .returned (.int .i64 (hexZ c)) ∧ Hp w [] [] w' := by
  refine calls_G (args := [.string (strOf signs), .int .u8 (c.toNat : Int)]) Try.func61 rfl Try.ntmps61 rfl ?_
  intro Q0 hRet hNor hPan
  have H := Hp.start w
  have H : Hp w [] [] w := H
  refine G.seqK fun K1 hK2 => ?_
  refine G.region ?_
  refine GL.run (j := 1) 1 [0, 1] [(0, .string (strOf signs)), (1, .int .u8 (c.toNat : Int))] (by kernel_rfl) rfl ?_
  refine GL.k rfl hK2 (fun _ _ h => h) ?_
  refine G.seqK fun K3 hK4 => ?_
  refine G.region ?_
  refine GL.run (j := 2) 2 [5, 6] [(5, .string (strOf signs)), (6, .int .u8 (c.toNat : Int))] (by kernel_rfl) rfl ?_
  refine GL.call (j := 3) (Index0_calls c w) (by kernel_rfl) rfl (fun e_ w5 hR => ?_)
  obtain ⟨rfl, H7⟩ := hR
  have H6 : Hp w [] [] w5 := H.callNil H7
  refine ⟨_, rfl, [7], [(7, .int .i64 (hexZ c))], by kernel_rfl, ?_⟩
  refine GL.run (j := 4) 1 [4] [(4, .int .i64 (hexZ c))] (by kernel_rfl) rfl ?_
  refine GL.k rfl hK4 (fun _ _ h => h) ?_
  refine G.ret ?_
  intro F_ hF_ hM_
  refine hRet _ _ (bodyPost_1 rfl (RV.tmp rfl) ?_ F_ hF_ hM_)
  exact ⟨rfl, H6⟩
theorem Reverse_calls (S : List Nat) (q : Nat) (X : List UInt8) (hX : X.length = 32) (w : World) (h0 : Hp w S [.blk q (by8 X) 24] w) : Calls Try.prog 62 #[.slice (some ⟨q, 0, none⟩) 32 32] w fun e w' => e = .returned (.tuple #[]) ∧ Hp w S [.blk q (by8 X.reverse) 24] w' := by
  refine calls_G (args := [.slice (some ⟨q, 0, none⟩) 32 32]) Try.func62 rfl Try.ntmps62 rfl ?_
  intro Q0 hRet hNor hPan
  have H := h0
  have H : Hp w S [.blk q (by8 X) 24] w := H
  refine G.seqK fun K1 hK2 => ?_
  refine G.region ?_
  refine GL.run (j := 5) 5 [0, 2, 3] [(0, .slice (some ⟨q, 0, none⟩) 32 32), (2, .int .i64 0), (3, .int .i64 31)] (by kernel_rfl) rfl ?_
  refine GL.k rfl hK2 (fun _ _ h => h) ?_
  refine G.block ?_
  have H3 : Hp w S [.blk q (by8 (swP X 0)) 24] w := by rw [swP_zero hX]; exact H
  refine G.fit [0, 2, 3] (M' := [(0, .slice (some ⟨q, 0, none⟩) 32 32), (2, .int .i64 0), (3, .int .i64 31)]) (by kernel_rfl) ?_
  refine G.eq (M' := [(0, .slice (some ⟨q, 0, none⟩) 32 32), (2, .int .i64 0), (3, .int .i64 (((31 - 0) : Nat) : Int))]) (by rfl) ?_
  refine G.loop (X := Nat) (fun k => [(0, .slice (some ⟨q, 0, none⟩) 32 32), (2, .int .i64 (k : Int)), (3, .int .i64 (((31 - k) : Nat) : Int))]) (fun k w_ => (k ≤ 16) ∧ Hp w S [.blk q (by8 (swP X k)) 24] w_) (fun k => 16 - k) 0 [0, 2, 3] (by kernel_rfl) ⟨by omega, H3⟩ ?_
  rintro k w4 ⟨hi5, H6⟩
  refine G.eq (M' := [(0, .slice (some ⟨q, 0, none⟩) 32 32), (2, .int .i64 (k : Int)), (3, .int .i64 (((31 - k) : Nat) : Int))]) rfl ?_
  have H6 : Hp w S [.blk q (by8 (swP X k)) 24] w4 := H6
  have hk16 := hi5
  refine G.seqK fun K7 hK8 => ?_
  refine G.seqK fun K9 hK10 => ?_
  refine G.region ?_
  refine GL.run (j := 3) 3 [0, 2, 3, 9] [(0, .slice (some ⟨q, 0, none⟩) 32 32), (2, .int .i64 (k : Int)), (3, .int .i64 (((31 - k) : Nat) : Int)), (9, .bool (decide ((k : Int) < (((31 - k) : Nat) : Int))))] (by kernel_rfl) rfl ?_
  refine GL.k rfl hK10 (fun _ _ h => h) ?_
  cases hb11 : (decide ((k : Int) < (((31 - k) : Nat) : Int)))
  · skip
    have hb11f := of_decide_eq_false hb11
    refine G.no rfl ?_
    refine fun F_ hF_ hM_ => wp_exit ?_
    refine hNor _ _ (bodyPost_0 rfl  ?_ F_ hF_ hM_)
    have HF := H6
    rw [show k = 16 by omega, swP_all hX] at HF
    exact ⟨rfl, HF⟩
  · skip
    have hb11f := of_decide_eq_true hb11
    refine G.yes rfl ?_
    refine G.skipK hK8 (fun _ _ h => h) ?_
    refine G.seqK fun K12 hK13 => ?_
    refine G.block ?_
    refine G.heldP (Hp w S []) (by kernel_rfl) (by kernel_rfl) (fun c_ a_ d_ v_ w_ h_ => hPan c_ a_ d_ v_ w_ h_) ?_
    have H14 := H6.drew
    generalize ({ w4 with drawn := w4.drawn + 1 } : World) = w15 at H14 ⊢
    have hS16 : Hp w S [] w15 := H14.sub (List.Sublist.cons _ (List.Sublist.slnil))
    refine GP.run [0, 1, 2, 3, 4, 5] [0, 2, 3, 14, 15, 16, 17, 18, 19] [(0, .slice (some ⟨q, 0, none⟩) 32 32), (2, .int .i64 (k : Int)), (3, .int .i64 (((31 - k) : Nat) : Int)), (14, .slice (some ⟨q, 0, none⟩) 32 32), (15, .int .i64 (k : Int)), (16, .slice (some ⟨q, 0, none⟩) 32 32), (17, .int .i64 (((31 - k) : Nat) : Int)), (18, .slice (some ⟨q, 0, none⟩) 32 32), (19, .int .i64 (((31 - k) : Nat) : Int))] [0, 1, 2, 3, 4, 5] (by kernel_rfl) rfl hS16 ?_
    refine GP.sem 6 (fun w_ H_ => run_idxBlk (P := Try.prog) (k := .i64) (t := 28) (sz := 1) (b := q) (o := 0) (len := 32) (cap := 32) (j := (31 - k)) (by kernel_rfl) (by omega) _) [0, 2, 3, 14, 15, 16, 17, 20] [(0, .slice (some ⟨q, 0, none⟩) 32 32), (2, .int .i64 (k : Int)), (3, .int .i64 (((31 - k) : Nat) : Int)), (14, .slice (some ⟨q, 0, none⟩) 32 32), (15, .int .i64 (k : Int)), (16, .slice (some ⟨q, 0, none⟩) 32 32), (17, .int .i64 (((31 - k) : Nat) : Int)), (20, pt q (0 + (31 - k) * 1))] (by kernel_rfl) (by kernel_rfl) (by kernel_rfl) hS16 ?_
    refine GP.run [8, 9] [0, 2, 3, 14, 15, 16, 17, 20, 22, 23] [(0, .slice (some ⟨q, 0, none⟩) 32 32), (2, .int .i64 (k : Int)), (3, .int .i64 (((31 - k) : Nat) : Int)), (14, .slice (some ⟨q, 0, none⟩) 32 32), (15, .int .i64 (k : Int)), (16, .slice (some ⟨q, 0, none⟩) 32 32), (17, .int .i64 (((31 - k) : Nat) : Int)), (20, pt q (0 + (31 - k) * 1)), (22, .slice (some ⟨q, 0, none⟩) 32 32), (23, .int .i64 (k : Int))] [0, 1, 2, 3, 4, 5, 6, 8, 9] (by kernel_rfl) rfl hS16 ?_
    refine GP.sem 10 (fun w_ H_ => run_idxBlk (P := Try.prog) (k := .i64) (t := 28) (sz := 1) (b := q) (o := 0) (len := 32) (cap := 32) (j := k) (by kernel_rfl) (by omega) _) [0, 2, 3, 14, 15, 16, 17, 20, 24] [(0, .slice (some ⟨q, 0, none⟩) 32 32), (2, .int .i64 (k : Int)), (3, .int .i64 (((31 - k) : Nat) : Int)), (14, .slice (some ⟨q, 0, none⟩) 32 32), (15, .int .i64 (k : Int)), (16, .slice (some ⟨q, 0, none⟩) 32 32), (17, .int .i64 (((31 - k) : Nat) : Int)), (20, pt q (0 + (31 - k) * 1)), (24, pt q (0 + k * 1))] (by kernel_rfl) (by kernel_rfl) (by kernel_rfl) hS16 ?_
    refine GP.named fun Xd_ hXd_ => ?_
    have st24 : ∀ (wD_ : World), Hp w S [.blk q (by8 (swP X k)) 24] wD_ → Xd_ [0, 1, 2, 3, 4, 5, 6, 8, 9, 10, 7, 11, 12] [(0, .slice (some ⟨q, 0, none⟩) 32 32), (2, .int .i64 (k : Int)), (3, .int .i64 (((31 - k) : Nat) : Int)), (16, .slice (some ⟨q, 0, none⟩) 32 32), (17, .int .i64 (((31 - k) : Nat) : Int)), (21, .int .u8 ((((swP X k).getD (31 - k) 0)).toNat : Int)), (25, .int .u8 ((((swP X k).getD k 0)).toNat : Int)), (26, pt q (0 + k * 1))] wD_ := by
      intro wD_ HD_
      rw [hXd_]
      have hS25 : Hp w S [] wD_ := HD_.sub (List.Sublist.cons _ (List.Sublist.slnil))
      obtain ⟨w26, r27, H28⟩ := HD_.st (P := Try.prog) (o := (0 + k * 1)) (ty := 5) (v := .int .u8 ((((swP X k).getD (31 - k) 0)).toNat : Int)) 0 rfl (by kernel_rfl) (by rw [by8_length, swP_length]; omega) rfl
      rw [show (0 + k * 1) = k by omega, by8_set] at H28
      have H28 : Hp w S [.blk q (by8 (List.set (swP X k) k (((swP X k).getD (31 - k) 0)))) 24] w26 := H28
      have hS29 : Hp w S [] w26 := H28.sub (List.Sublist.cons _ (List.Sublist.slnil))
      refine GP.semU 13 r27 [0, 2, 3, 16, 17, 25] [(0, .slice (some ⟨q, 0, none⟩) 32 32), (2, .int .i64 (k : Int)), (3, .int .i64 (((31 - k) : Nat) : Int)), (16, .slice (some ⟨q, 0, none⟩) 32 32), (17, .int .i64 (((31 - k) : Nat) : Int)), (25, .int .u8 ((((swP X k).getD k 0)).toNat : Int))] (by kernel_rfl) rfl rfl (by kernel_rfl) hS29 ?_
      refine GP.sem 14 (fun w_ H_ => run_idxBlk (P := Try.prog) (k := .i64) (t := 28) (sz := 1) (b := q) (o := 0) (len := 32) (cap := 32) (j := (31 - k)) (by kernel_rfl) (by omega) _) [0, 2, 3, 25, 27] [(0, .slice (some ⟨q, 0, none⟩) 32 32), (2, .int .i64 (k : Int)), (3, .int .i64 (((31 - k) : Nat) : Int)), (25, .int .u8 ((((swP X k).getD k 0)).toNat : Int)), (27, pt q (0 + (31 - k) * 1))] (by kernel_rfl) (by kernel_rfl) (by kernel_rfl) hS29 ?_
      obtain ⟨w30, r31, H32⟩ := H28.st (P := Try.prog) (o := (0 + (31 - k) * 1)) (ty := 5) (v := .int .u8 ((((swP X k).getD k 0)).toNat : Int)) 0 rfl (by kernel_rfl) (by rw [by8_length, List.length_set, swP_length]; omega) rfl
      rw [show (0 + (31 - k) * 1) = (31 - k) by omega, by8_set] at H32
      have H32 : Hp w S [.blk q (by8 (List.set (List.set (swP X k) k (((swP X k).getD (31 - k) 0))) (31 - k) (((swP X k).getD k 0)))) 24] w30 := H32
      have hS33 : Hp w S [] w30 := H32.sub (List.Sublist.cons _ (List.Sublist.slnil))
      refine GP.semU 15 r31 [0, 2, 3] [(0, .slice (some ⟨q, 0, none⟩) 32 32), (2, .int .i64 (k : Int)), (3, .int .i64 (((31 - k) : Nat) : Int))] (by kernel_rfl) rfl rfl (by kernel_rfl) hS33 ?_
      refine GP.k (by kernel_rfl) hK13 (fun _ _ h => h) ?_
      refine G.region ?_
      refine GL.run (j := 6) 6 [0, 2, 3] [(0, .slice (some ⟨q, 0, none⟩) 32 32), (2, .int .i64 (IntKind.i64.wrap ((k : Int) + 1))), (3, .int .i64 (IntKind.i64.wrap ((((31 - k) : Nat) : Int) - 1)))] (by kernel_rfl) rfl ?_
      have e34 : (IntKind.i64.wrap ((k : Int) + 1)) = ((k + 1 : Nat) : Int) := by rw [in_i64 (by omega)]; omega
      have e35 : (IntKind.i64.wrap ((((31 - k) : Nat) : Int) - 1)) = (((31 - k - 1) : Nat) : Int) := by rw [in_i64 (by omega)]; omega
      refine GL.eq (M' := [(0, .slice (some ⟨q, 0, none⟩) 32 32), (2, .int .i64 ((k + 1 : Nat) : Int)), (3, .int .i64 (((31 - k - 1) : Nat) : Int))]) (by rw [e34, e35]) ?_
      clear e34 e35
      have H36 : Hp w S [.blk q (by8 (swP X (k + 1))) 24] w30 := by rw [← swP_step (by omega)]; exact H32
      refine GL.fit (ts := [0, 2, 3]) (M' := [(0, .slice (some ⟨q, 0, none⟩) 32 32), (2, .int .i64 ((k + 1 : Nat) : Int)), (3, .int .i64 (((31 - k - 1) : Nat) : Int))]) (by kernel_rfl) ?_
      refine GL.eq (M' := [(0, .slice (some ⟨q, 0, none⟩) 32 32), (2, .int .i64 (((k + 1) : Nat) : Int)), (3, .int .i64 (((31 - (k + 1)) : Nat) : Int))]) (by rw [show 31 - k - 1 = 31 - (k + 1) by omega]) ?_
      exact GL.again (k + 1) [0, 2, 3] rfl (by kernel_rfl) (by show 16 - (k + 1) < 16 - k; omega) ⟨by omega, H36⟩
    have st22 : ∀ (wD_ : World), Hp w S [.blk q (by8 (swP X k)) 24] wD_ → Xd_ [0, 1, 2, 3, 4, 5, 6, 8, 9, 10, 7] [(0, .slice (some ⟨q, 0, none⟩) 32 32), (2, .int .i64 (k : Int)), (3, .int .i64 (((31 - k) : Nat) : Int)), (14, .slice (some ⟨q, 0, none⟩) 32 32), (15, .int .i64 (k : Int)), (16, .slice (some ⟨q, 0, none⟩) 32 32), (17, .int .i64 (((31 - k) : Nat) : Int)), (21, .int .u8 ((((swP X k).getD (31 - k) 0)).toNat : Int)), (24, pt q (0 + k * 1))] wD_ := by
      intro wD_ HD_
      rw [hXd_]
      have hS37 : Hp w S [] wD_ := HD_.sub (List.Sublist.cons _ (List.Sublist.slnil))
      refine GP.all1 11 (by kernel_rfl) ?_
      · skip
        have hS38 : Hp w S [] wD_ := HD_.sub (List.Sublist.cons _ (List.Sublist.slnil))
        have hS39 : Hp w S [] wD_ := HD_.sub (List.Sublist.cons _ (List.Sublist.slnil))
        refine GO.made (HD_.ld (o := (0 + k * 1)) (ty := 5) (v := .int .u8 ((((swP X k).getD k 0)).toNat : Int)) 0 rfl (by kernel_rfl) (by rw [show (0 + k * 1) = k by omega]; exact by8_at (getD8 (by rw [swP_length]; omega)))) [0, 2, 3, 14, 15, 16, 17, 21, 25] [(0, .slice (some ⟨q, 0, none⟩) 32 32), (2, .int .i64 (k : Int)), (3, .int .i64 (((31 - k) : Nat) : Int)), (14, .slice (some ⟨q, 0, none⟩) 32 32), (15, .int .i64 (k : Int)), (16, .slice (some ⟨q, 0, none⟩) 32 32), (17, .int .i64 (((31 - k) : Nat) : Int)), (21, .int .u8 ((((swP X k).getD (31 - k) 0)).toNat : Int)), (25, .int .u8 ((((swP X k).getD k 0)).toNat : Int))] (by kernel_rfl) (by kernel_rfl) hS39 ?_
        refine GP.sem 12 (fun w_ H_ => run_idxBlk (P := Try.prog) (k := .i64) (t := 28) (sz := 1) (b := q) (o := 0) (len := 32) (cap := 32) (j := k) (by kernel_rfl) (by omega) _) [0, 2, 3, 16, 17, 21, 25, 26] [(0, .slice (some ⟨q, 0, none⟩) 32 32), (2, .int .i64 (k : Int)), (3, .int .i64 (((31 - k) : Nat) : Int)), (16, .slice (some ⟨q, 0, none⟩) 32 32), (17, .int .i64 (((31 - k) : Nat) : Int)), (21, .int .u8 ((((swP X k).getD (31 - k) 0)).toNat : Int)), (25, .int .u8 ((((swP X k).getD k 0)).toNat : Int)), (26, pt q (0 + k * 1))] (by kernel_rfl) (by kernel_rfl) (by kernel_rfl) hS39 ?_
        refine GP.perm [0, 1, 2, 3, 4, 5, 6, 8, 9, 10, 7, 11, 12] (by kernel_rfl) rfl ?_
        rw [← hXd_]
        exact st24 _ HD_
    have st23 : ∀ (wD_ : World), Hp w S [.blk q (by8 (swP X k)) 24] wD_ → Xd_ [0, 1, 2, 3, 4, 5, 6, 8, 9, 10, 11] [(0, .slice (some ⟨q, 0, none⟩) 32 32), (2, .int .i64 (k : Int)), (3, .int .i64 (((31 - k) : Nat) : Int)), (14, .slice (some ⟨q, 0, none⟩) 32 32), (15, .int .i64 (k : Int)), (16, .slice (some ⟨q, 0, none⟩) 32 32), (17, .int .i64 (((31 - k) : Nat) : Int)), (20, pt q (0 + (31 - k) * 1)), (25, .int .u8 ((((swP X k).getD k 0)).toNat : Int))] wD_ := by
      intro wD_ HD_
      rw [hXd_]
      have hS40 : Hp w S [] wD_ := HD_.sub (List.Sublist.cons _ (List.Sublist.slnil))
      refine GP.all1 7 (by kernel_rfl) ?_
      · skip
        have hS41 : Hp w S [] wD_ := HD_.sub (List.Sublist.cons _ (List.Sublist.slnil))
        have hS42 : Hp w S [] wD_ := HD_.sub (List.Sublist.cons _ (List.Sublist.slnil))
        refine GO.made (HD_.ld (o := (0 + (31 - k) * 1)) (ty := 5) (v := .int .u8 ((((swP X k).getD (31 - k) 0)).toNat : Int)) 0 rfl (by kernel_rfl) (by rw [show (0 + (31 - k) * 1) = (31 - k) by omega]; exact by8_at (getD8 (by rw [swP_length]; omega)))) [0, 2, 3, 14, 15, 16, 17, 21, 25] [(0, .slice (some ⟨q, 0, none⟩) 32 32), (2, .int .i64 (k : Int)), (3, .int .i64 (((31 - k) : Nat) : Int)), (14, .slice (some ⟨q, 0, none⟩) 32 32), (15, .int .i64 (k : Int)), (16, .slice (some ⟨q, 0, none⟩) 32 32), (17, .int .i64 (((31 - k) : Nat) : Int)), (21, .int .u8 ((((swP X k).getD (31 - k) 0)).toNat : Int)), (25, .int .u8 ((((swP X k).getD k 0)).toNat : Int))] (by kernel_rfl) (by kernel_rfl) hS42 ?_
        refine GP.sem 12 (fun w_ H_ => run_idxBlk (P := Try.prog) (k := .i64) (t := 28) (sz := 1) (b := q) (o := 0) (len := 32) (cap := 32) (j := k) (by kernel_rfl) (by omega) _) [0, 2, 3, 16, 17, 21, 25, 26] [(0, .slice (some ⟨q, 0, none⟩) 32 32), (2, .int .i64 (k : Int)), (3, .int .i64 (((31 - k) : Nat) : Int)), (16, .slice (some ⟨q, 0, none⟩) 32 32), (17, .int .i64 (((31 - k) : Nat) : Int)), (21, .int .u8 ((((swP X k).getD (31 - k) 0)).toNat : Int)), (25, .int .u8 ((((swP X k).getD k 0)).toNat : Int)), (26, pt q (0 + k * 1))] (by kernel_rfl) (by kernel_rfl) (by kernel_rfl) hS42 ?_
        refine GP.perm [0, 1, 2, 3, 4, 5, 6, 8, 9, 10, 7, 11, 12] (by kernel_rfl) rfl ?_
        rw [← hXd_]
        exact st24 _ HD_
    have st21 : ∀ (wD_ : World), Hp w S [.blk q (by8 (swP X k)) 24] wD_ → Xd_ [0, 1, 2, 3, 4, 5, 6, 8, 9, 10] [(0, .slice (some ⟨q, 0, none⟩) 32 32), (2, .int .i64 (k : Int)), (3, .int .i64 (((31 - k) : Nat) : Int)), (14, .slice (some ⟨q, 0, none⟩) 32 32), (15, .int .i64 (k : Int)), (16, .slice (some ⟨q, 0, none⟩) 32 32), (17, .int .i64 (((31 - k) : Nat) : Int)), (20, pt q (0 + (31 - k) * 1)), (24, pt q (0 + k * 1))] wD_ := by
      intro wD_ HD_
      rw [hXd_]
      have hS43 : Hp w S [] wD_ := HD_.sub (List.Sublist.cons _ (List.Sublist.slnil))
      refine GP.all2 7 11 (by kernel_rfl) ?_ ?_
      · skip
        have hS44 : Hp w S [] wD_ := HD_.sub (List.Sublist.cons _ (List.Sublist.slnil))
        have hS45 : Hp w S [] wD_ := HD_.sub (List.Sublist.cons _ (List.Sublist.slnil))
        refine GO.made (HD_.ld (o := (0 + (31 - k) * 1)) (ty := 5) (v := .int .u8 ((((swP X k).getD (31 - k) 0)).toNat : Int)) 0 rfl (by kernel_rfl) (by rw [show (0 + (31 - k) * 1) = (31 - k) by omega]; exact by8_at (getD8 (by rw [swP_length]; omega)))) [0, 2, 3, 14, 15, 16, 17, 21, 24] [(0, .slice (some ⟨q, 0, none⟩) 32 32), (2, .int .i64 (k : Int)), (3, .int .i64 (((31 - k) : Nat) : Int)), (14, .slice (some ⟨q, 0, none⟩) 32 32), (15, .int .i64 (k : Int)), (16, .slice (some ⟨q, 0, none⟩) 32 32), (17, .int .i64 (((31 - k) : Nat) : Int)), (21, .int .u8 ((((swP X k).getD (31 - k) 0)).toNat : Int)), (24, pt q (0 + k * 1))] (by kernel_rfl) (by kernel_rfl) hS45 ?_
        refine GP.perm [0, 1, 2, 3, 4, 5, 6, 8, 9, 10, 7] (by kernel_rfl) rfl ?_
        rw [← hXd_]
        exact st22 _ HD_
      · skip
        have hS46 : Hp w S [] wD_ := HD_.sub (List.Sublist.cons _ (List.Sublist.slnil))
        have hS47 : Hp w S [] wD_ := HD_.sub (List.Sublist.cons _ (List.Sublist.slnil))
        refine GO.made (HD_.ld (o := (0 + k * 1)) (ty := 5) (v := .int .u8 ((((swP X k).getD k 0)).toNat : Int)) 0 rfl (by kernel_rfl) (by rw [show (0 + k * 1) = k by omega]; exact by8_at (getD8 (by rw [swP_length]; omega)))) [0, 2, 3, 14, 15, 16, 17, 20, 25] [(0, .slice (some ⟨q, 0, none⟩) 32 32), (2, .int .i64 (k : Int)), (3, .int .i64 (((31 - k) : Nat) : Int)), (14, .slice (some ⟨q, 0, none⟩) 32 32), (15, .int .i64 (k : Int)), (16, .slice (some ⟨q, 0, none⟩) 32 32), (17, .int .i64 (((31 - k) : Nat) : Int)), (20, pt q (0 + (31 - k) * 1)), (25, .int .u8 ((((swP X k).getD k 0)).toNat : Int))] (by kernel_rfl) (by kernel_rfl) hS47 ?_
        refine GP.perm [0, 1, 2, 3, 4, 5, 6, 8, 9, 10, 11] (by kernel_rfl) rfl ?_
        rw [← hXd_]
        exact st23 _ HD_
    exact st21 _ H14
theorem Backward32_iter (X : List UInt8) (hX : X.length = 32) (A : Option Addr) (B : Nat) : Iter Try.prog 63 #[.pointer (some ⟨B, 0, none⟩)] 32 (fun k => #[.int .i64 ((31 - k : Nat) : Int), .int .u8 ((X.getD (31 - k) 0).toNat : Int)]) (fun W => W.cell? ⟨B, 0, none⟩ = some (.slice A 32 32) ∧ RdS W A (by8 X)) := by
  have h := Backward_iter X (by omega) A 32 B
  rw [hX] at h
  exact h
theorem Text_calls (X : List UInt8) (hX : X.length = 32) (w : World) : Calls Try.prog 21 #[.agg (by8 X).toArray] w fun e w' => e = .returned (.string (strOf (hexT X))) ∧ Hp w [] [] w' := by
  refine calls_R (args := [.agg (by8 X).toArray]) Try.func21 rfl Try.ntmps21 rfl ?_
  intro Q0 hRet hNor
  have H := Hp.start w
  have H : Hp w [] [] w := H
  refine RG.seqK fun K1 hK2 => ?_
  refine RG.region (by kernel_rfl) ?_
  obtain ⟨p3, w4, r5, H6⟩ := H.box (P := Try.prog) 24 (by8 X) (.agg (by8 X).toArray) rfl
  have H6 : Hp w [] [.blk p3 (by8 X) 24] w4 := H6
  refine RL.sem (j := 1) (r5) [1] [(1, pt p3 0)] (by kernel_rfl) (by kernel_rfl) rfl ?_
  refine RL.run (j := 2) 1 [1] [(1, pt p3 0)] (by kernel_rfl) rfl ?_
  refine RL.k rfl hK2 (fun _ _ h => h) ?_
  refine RG.seqK fun K7 hK8 => ?_
  refine RG.region (by kernel_rfl) ?_
  obtain ⟨p9, w10, r11, H12⟩ := H6.alloc (P := Try.prog) 28 [.slice none 0 0] (by kernel_rfl)
  have H12 : Hp w [] [.blk p3 (by8 X) 24, .blk p9 [.slice none 0 0] 28] w10 := H12
  refine RL.sem (j := 1) (r11) [1, 3] [(1, pt p3 0), (3, pt p9 0)] (by kernel_rfl) (by kernel_rfl) rfl ?_
  refine RL.k rfl hK8 (fun _ _ h => h) ?_
  refine RG.seqK fun K13 hK14 => ?_
  refine RG.seqK fun K15 hK16 => ?_
  refine RG.region (by kernel_rfl) ?_
  refine RL.run (j := 1) 1 [3, 6] [(3, pt p9 0), (6, .slice (some ⟨p3, 0, none⟩) 32 32)] (by kernel_rfl) rfl ?_
  refine RL.call (j := 2) (Backward_calls (some ⟨p3, 0, none⟩) 32 32 w10) (by kernel_rfl) rfl (fun e_ w20 hR => ?_)
  obtain ⟨B17, rfl, H19⟩ := hR
  have H18 : Hp w [] [.blk p3 (by8 X) 24, .blk p9 [.slice none 0 0] 28, .blk B17 [.slice (some ⟨p3, 0, none⟩) 32 32] 28] w20 := H12.callNew H19
  refine ⟨_, rfl, [3, 7], [(3, pt p9 0), (7, .func (.func 63) #[] #[pt B17 0])], by kernel_rfl, ?_⟩
  refine RL.k rfl hK16 (fun _ _ h => h) ?_
  refine RG.block ?_
  have H21 := H18.rowNil 5 1
  have H21 : Hp w [] [.blk p3 (by8 X) 24, .blk p9 [.slice none (2 * 0) 0] 28, .blk B17 [.slice (some ⟨p3, 0, none⟩) 32 32] 28, .row none (2 * 0) 0 5 1 (by8 (hexP X 0))] w20 := H21
  refine RG.fit [3, 7] (M' := [(3, pt p9 0), (7, .func (.func 63) #[] #[pt B17 0])]) (by kernel_rfl) ?_
  refine RG.range H21 (gf := 63) (lb := #[pt B17 0]) rfl (enters_of Try.func63 (by kernel_rfl) rfl) (Xt := Option Addr × Nat) (fun k ⟨A_, c_⟩ => True) (fun k ⟨A_, c_⟩ => [.blk p3 (by8 X) 24, .blk p9 [.slice A_ (2 * k) c_] 28, .blk B17 [.slice (some ⟨p3, 0, none⟩) 32 32] 28, .row A_ (2 * k) c_ 5 1 (by8 (hexP X k))]) (fun ⟨A_, c_⟩ => False) (fun ⟨A_, c_⟩ => []) (N := 32) (enc := fun k => #[.int .i64 ((31 - k : Nat) : Int), .int .u8 ((X.getD (31 - k) 0).toNat : Int)]) (Backward32_iter X hX (some ⟨p3, 0, none⟩) B17) (fun _ => rfl) ⟨none, 0⟩ trivial rfl (fun k s E W hx HW => ⟨(HW.blkAt 2 rfl).cell 0, HW.rdBlk (o := 0) (xs := by8 X) 0 32 rfl (sub_whole (by rw [by8_length, hX]))⟩) (fun k => [(9, .int .u8 ((X.getD (31 - k) 0).toNat : Int)), (8, .int .i64 ((31 - k : Nat) : Int)), (3, pt p9 0), (7, .func (.func 63) #[] #[pt B17 0])]) (fun _ => rfl) ?_ ?_ ?_
  · skip
    rintro D25 l26 oR27 oB28 k ⟨A_, c_⟩ w22 K29 hk30 hx23 H24 hK31
    have H24 : Hp w [] [.blk p3 (by8 X) 24, .blk p9 [.slice A_ (2 * k) c_] 28, .blk B17 [.slice (some ⟨p3, 0, none⟩) 32 32] 28, .row A_ (2 * k) c_ 5 1 (by8 (hexP X k)), .obj D25 DF, .obj l26 oR27] w22 := H24
    have hk9 := hk30
    have hxb := UInt8.toNat_lt (X.getD (31 - k) 0)
    refine RG.region (by kernel_rfl) ?_
    refine RL.run (j := 1) 1 [3, 5] [(3, pt p9 0), (5, .int .u8 ((X.getD (31 - k) 0).toNat : Int))] (by kernel_rfl) rfl ?_
    refine RL.done rfl (fun F_ hF_ hM_ => hK31 F_ _ [.blk p3 (by8 X) 24, .blk p9 [.slice A_ (2 * k) c_] 28, .blk B17 [.slice (some ⟨p3, 0, none⟩) 32 32] 28, .row A_ (2 * k) c_ 5 1 (by8 (hexP X k))] _ hF_ hM_ H24 ?_)
    intro w32 H33
    have H33 : Hp w [] [.blk p3 (by8 X) 24, .blk p9 [.slice A_ (2 * k) c_] 28, .blk B17 [.slice (some ⟨p3, 0, none⟩) 32 32] 28, .row A_ (2 * k) c_ 5 1 (by8 (hexP X k)), .obj D25 DF, .obj l26 oB28] w32 := H33
    refine RG.block ?_
    refine RG.heldP (Hp w [] [.blk p3 (by8 X) 24, .blk B17 [.slice (some ⟨p3, 0, none⟩) 32 32] 28, .obj D25 DF, .obj l26 oB28]) (by kernel_rfl) (by kernel_rfl) (by kernel_rfl) (fun ⟨_, _, h_⟩ => h_) (fun c_ a_ d_ v_ w_ h_ => h_) ?_
    have H34 := H33.drew
    generalize ({ w32 with drawn := w32.drawn + 1 } : World) = w35 at H34 ⊢
    have hS36 : Hp w [] [.blk p3 (by8 X) 24, .blk B17 [.slice (some ⟨p3, 0, none⟩) 32 32] 28, .obj D25 DF, .obj l26 oB28] w35 := H34.sub (List.Sublist.cons_cons _ (List.Sublist.cons _ (List.Sublist.cons_cons _ (List.Sublist.cons _ (List.Sublist.cons_cons _ (List.Sublist.cons_cons _ (List.Sublist.slnil)))))))
    refine GP.run [1, 2] [3, 5, 12] [(3, pt p9 0), (5, .int .u8 ((X.getD (31 - k) 0).toNat : Int)), (12, .int .u8 (Int.fdiv ((X.getD (31 - k) 0).toNat : Int) (2 ^ 4)))] [1, 2] (by kernel_rfl) rfl hS36 ?_
    have e37 : (Int.fdiv ((X.getD (31 - k) 0).toNat : Int) (2 ^ 4)) = ((((X.getD (31 - k) 0).toNat / 16) : Nat) : Int) := n_shr _ 4
    refine GP.eq (M' := [(3, pt p9 0), (5, .int .u8 ((X.getD (31 - k) 0).toNat : Int)), (12, .int .u8 ((((X.getD (31 - k) 0).toNat / 16) : Nat) : Int))]) (by rw [e37]) ?_
    clear e37
    refine GP.sem 3 (fun w_ H_ => run_strIdx (P := Try.prog) (k := .u8) (t := 9) (s := signs) (i := ((X.getD (31 - k) 0).toNat / 16)) (by kernel_rfl) (signs_at (by omega)) _) [3, 5, 13] [(3, pt p9 0), (5, .int .u8 ((X.getD (31 - k) 0).toNat : Int)), (13, .int .u8 (((sg ((X.getD (31 - k) 0).toNat / 16))).toNat : Int))] (by kernel_rfl) (by kernel_rfl) (by kernel_rfl) hS36 ?_
    refine GP.run [4, 5] [3, 13, 15] [(3, pt p9 0), (13, .int .u8 (((sg ((X.getD (31 - k) 0).toNat / 16))).toNat : Int)), (15, .int .u8 (Go.bits .and .u8 ((X.getD (31 - k) 0).toNat : Int) 15))] [1, 2, 3, 4, 5] (by kernel_rfl) rfl hS36 ?_
    have e38 : (Go.bits .and .u8 ((X.getD (31 - k) 0).toNat : Int) 15) = ((((X.getD (31 - k) 0).toNat % 16) : Nat) : Int) := u8_and15 _
    refine GP.eq (M' := [(3, pt p9 0), (13, .int .u8 (((sg ((X.getD (31 - k) 0).toNat / 16))).toNat : Int)), (15, .int .u8 ((((X.getD (31 - k) 0).toNat % 16) : Nat) : Int))]) (by rw [e38]) ?_
    clear e38
    refine GP.sem 6 (fun w_ H_ => run_strIdx (P := Try.prog) (k := .u8) (t := 9) (s := signs) (i := ((X.getD (31 - k) 0).toNat % 16)) (by kernel_rfl) (signs_at (by omega)) _) [3, 13, 16] [(3, pt p9 0), (13, .int .u8 (((sg ((X.getD (31 - k) 0).toNat / 16))).toNat : Int)), (16, .int .u8 (((sg ((X.getD (31 - k) 0).toNat % 16))).toNat : Int))] (by kernel_rfl) (by kernel_rfl) (by kernel_rfl) hS36 ?_
    refine GP.named fun Xd_ hXd_ => ?_
    have st54 : ∀ (wD_ : World) (p45 : Nat), Hp w [] [.blk p3 (by8 X) 24, .blk p9 [.slice A_ (2 * k) c_] 28, .blk B17 [.slice (some ⟨p3, 0, none⟩) 32 32] 28, .row A_ (2 * k) c_ 5 1 (by8 (hexP X k)), .obj D25 DF, .obj l26 oB28, .row (some ⟨p45, 0, none⟩) 2 2 5 1 (by8 ([((sg ((X.getD (31 - k) 0).toNat / 16))), ((sg ((X.getD (31 - k) 0).toNat % 16)))] : List UInt8))] wD_ → Xd_ [1, 2, 3, 4, 5, 6, 0, 7] [(3, pt p9 0), (10, .slice A_ (2 * k) c_), (17, .slice (some ⟨p45, 0, none⟩) 2 2)] wD_ := by
      intro wD_ p45 HD_
      rw [hXd_]
      have hS55 : Hp w [] [.blk p3 (by8 X) 24, .blk B17 [.slice (some ⟨p3, 0, none⟩) 32 32] 28, .obj D25 DF, .obj l26 oB28] wD_ := HD_.sub (List.Sublist.cons_cons _ (List.Sublist.cons _ (List.Sublist.cons_cons _ (List.Sublist.cons _ (List.Sublist.cons_cons _ (List.Sublist.cons_cons _ (List.Sublist.cons _ (List.Sublist.slnil))))))))
      obtain ⟨A56, c57, w58, r59, H60⟩ := HD_.append (P := Try.prog) (e := 5) (sz := 1) (by_ := 1) (n := (2 * k)) (c := c_) (m := 2) (d := 2) (t := 28) (ty := 28) (xs := by8 (hexP X k)) (news := by8 ([((sg ((X.getD (31 - k) 0).toNat / 16))), ((sg ((X.getD (31 - k) 0).toNat % 16)))] : List UInt8)) 3 rfl (by kernel_rfl) (HD_.rdRow 6 rfl) (by first | (simp [by8_length]; done) | (rw [by8_length]; omega) | (rw [by8_length, putB_length])) (by8_one _) (by omega) (by simp only [maxLen]; omega)
      rw [← by8_append] at H60
      have H60 : Hp w [] [.blk p3 (by8 X) 24, .blk p9 [.slice A_ (2 * k) c_] 28, .blk B17 [.slice (some ⟨p3, 0, none⟩) 32 32] 28, .row A56 ((2 * k) + 2) c57 5 1 (by8 ((hexP X k) ++ ([((sg ((X.getD (31 - k) 0).toNat / 16))), ((sg ((X.getD (31 - k) 0).toNat % 16)))] : List UInt8))), .obj D25 DF, .obj l26 oB28, .row (some ⟨p45, 0, none⟩) 2 2 5 1 (by8 ([((sg ((X.getD (31 - k) 0).toNat / 16))), ((sg ((X.getD (31 - k) 0).toNat % 16)))] : List UInt8))] w58 := H60
      have hS61 : Hp w [] [.blk p3 (by8 X) 24, .blk B17 [.slice (some ⟨p3, 0, none⟩) 32 32] 28, .obj D25 DF, .obj l26 oB28] w58 := H60.sub (List.Sublist.cons_cons _ (List.Sublist.cons _ (List.Sublist.cons_cons _ (List.Sublist.cons _ (List.Sublist.cons_cons _ (List.Sublist.cons_cons _ (List.Sublist.cons _ (List.Sublist.slnil))))))))
      refine GP.made 8 r59 [3, 18] [(3, pt p9 0), (18, .slice A56 ((2 * k) + 2) c57)] (by kernel_rfl) (by kernel_rfl) (by kernel_rfl) hS61 ?_
      obtain ⟨w62, r63, H64⟩ := H60.st (P := Try.prog) (o := 0) (ty := 28) (v := .slice A56 ((2 * k) + 2) c57) 1 rfl (by kernel_rfl) (by simp) rfl
      have H64 : Hp w [] [.blk p3 (by8 X) 24, .blk p9 [.slice A56 ((2 * k) + 2) c57] 28, .blk B17 [.slice (some ⟨p3, 0, none⟩) 32 32] 28, .row A56 ((2 * k) + 2) c57 5 1 (by8 ((hexP X k) ++ ([((sg ((X.getD (31 - k) 0).toNat / 16))), ((sg ((X.getD (31 - k) 0).toNat % 16)))] : List UInt8))), .obj D25 DF, .obj l26 oB28, .row (some ⟨p45, 0, none⟩) 2 2 5 1 (by8 ([((sg ((X.getD (31 - k) 0).toNat / 16))), ((sg ((X.getD (31 - k) 0).toNat % 16)))] : List UInt8))] w62 := H64
      have hS65 : Hp w [] [.blk p3 (by8 X) 24, .blk B17 [.slice (some ⟨p3, 0, none⟩) 32 32] 28, .obj D25 DF, .obj l26 oB28] w62 := H64.sub (List.Sublist.cons_cons _ (List.Sublist.cons _ (List.Sublist.cons_cons _ (List.Sublist.cons _ (List.Sublist.cons_cons _ (List.Sublist.cons_cons _ (List.Sublist.cons _ (List.Sublist.slnil))))))))
      refine GP.semU 9 r63 [] [] (by kernel_rfl) rfl rfl (by kernel_rfl) hS65 ?_
      have H66 : Hp w [] [.blk p3 (by8 X) 24, .blk p9 [.slice A56 ((2 * k) + 2) c57] 28, .blk B17 [.slice (some ⟨p3, 0, none⟩) 32 32] 28, .row A56 ((2 * k) + 2) c57 5 1 (by8 ((hexP X k) ++ ([((sg ((X.getD (31 - k) 0).toNat / 16))), ((sg ((X.getD (31 - k) 0).toNat % 16)))] : List UInt8))), .obj D25 DF, .obj l26 oB28] w62 := H64.sub (List.Sublist.cons_cons _ (List.Sublist.cons_cons _ (List.Sublist.cons_cons _ (List.Sublist.cons_cons _ (List.Sublist.cons_cons _ (List.Sublist.cons_cons _ (List.Sublist.cons _ (List.Sublist.slnil))))))))
      have H67 : Hp w [] [.blk p3 (by8 X) 24, .blk p9 [.slice A56 (2 * (k + 1)) c57] 28, .blk B17 [.slice (some ⟨p3, 0, none⟩) 32 32] 28, .row A56 (2 * (k + 1)) c57 5 1 (by8 (hexP X (k + 1))), .obj D25 DF, .obj l26 oB28] w62 := H66
      exact GP.fin (by kernel_rfl) (fun F_ hF_ hM_ => ⟨⟨A56, c57⟩, trivial, H67⟩)
    have st52 : ∀ (wD_ : World), Hp w [] [.blk p3 (by8 X) 24, .blk p9 [.slice A_ (2 * k) c_] 28, .blk B17 [.slice (some ⟨p3, 0, none⟩) 32 32] 28, .row A_ (2 * k) c_ 5 1 (by8 (hexP X k)), .obj D25 DF, .obj l26 oB28] wD_ → Xd_ [1, 2, 3, 4, 5, 6, 0] [(3, pt p9 0), (10, .slice A_ (2 * k) c_), (13, .int .u8 (((sg ((X.getD (31 - k) 0).toNat / 16))).toNat : Int)), (16, .int .u8 (((sg ((X.getD (31 - k) 0).toNat % 16))).toNat : Int))] wD_ := by
      intro wD_ HD_
      rw [hXd_]
      have hS68 : Hp w [] [.blk p3 (by8 X) 24, .blk B17 [.slice (some ⟨p3, 0, none⟩) 32 32] 28, .obj D25 DF, .obj l26 oB28] wD_ := HD_.sub (List.Sublist.cons_cons _ (List.Sublist.cons _ (List.Sublist.cons_cons _ (List.Sublist.cons _ (List.Sublist.cons_cons _ (List.Sublist.cons_cons _ (List.Sublist.slnil)))))))
      refine GP.all1 7 (by kernel_rfl) ?_
      · skip
        have hS69 : Hp w [] [.blk p3 (by8 X) 24, .blk B17 [.slice (some ⟨p3, 0, none⟩) 32 32] 28, .obj D25 DF, .obj l26 oB28] wD_ := HD_.sub (List.Sublist.cons_cons _ (List.Sublist.cons _ (List.Sublist.cons_cons _ (List.Sublist.cons _ (List.Sublist.cons_cons _ (List.Sublist.cons_cons _ (List.Sublist.slnil)))))))
        obtain ⟨p70, w71, r72, H73⟩ := HD_.madeRow (P := Try.prog) (Instr.buildSlice 28 2 #[(0, .int .u8 (((sg ((X.getD (31 - k) 0).toNat / 16))).toNat : Int)), (1, .int .u8 (((sg ((X.getD (31 - k) 0).toNat % 16))).toNat : Int))]) (fun b_ => .slice (some ⟨b_, 0, none⟩) 2 2) [.int .u8 (((sg ((X.getD (31 - k) 0).toNat / 16))).toNat : Int), .int .u8 (((sg ((X.getD (31 - k) 0).toNat % 16))).toNat : Int)] 5 2 2 1 (by kernel_rfl) (by decide) (by decide) rfl
        have H73 : Hp w [] [.blk p3 (by8 X) 24, .blk p9 [.slice A_ (2 * k) c_] 28, .blk B17 [.slice (some ⟨p3, 0, none⟩) 32 32] 28, .row A_ (2 * k) c_ 5 1 (by8 (hexP X k)), .obj D25 DF, .obj l26 oB28, .row (some ⟨p70, 0, none⟩) 2 2 5 1 (by8 ([((sg ((X.getD (31 - k) 0).toNat / 16))), ((sg ((X.getD (31 - k) 0).toNat % 16)))] : List UInt8))] w71 := H73
        have hS74 : Hp w [] [.blk p3 (by8 X) 24, .blk B17 [.slice (some ⟨p3, 0, none⟩) 32 32] 28, .obj D25 DF, .obj l26 oB28] w71 := H73.sub (List.Sublist.cons_cons _ (List.Sublist.cons _ (List.Sublist.cons_cons _ (List.Sublist.cons _ (List.Sublist.cons_cons _ (List.Sublist.cons_cons _ (List.Sublist.cons _ (List.Sublist.slnil))))))))
        refine GO.made r72 [3, 10, 17] [(3, pt p9 0), (10, .slice A_ (2 * k) c_), (17, .slice (some ⟨p70, 0, none⟩) 2 2)] (by kernel_rfl) (by kernel_rfl) hS74 ?_
        refine GP.perm [1, 2, 3, 4, 5, 6, 0, 7] (by kernel_rfl) rfl ?_
        rw [← hXd_]
        exact st54 _ p70 H73
    have st53 : ∀ (wD_ : World) (p40 : Nat), Hp w [] [.blk p3 (by8 X) 24, .blk p9 [.slice A_ (2 * k) c_] 28, .blk B17 [.slice (some ⟨p3, 0, none⟩) 32 32] 28, .row A_ (2 * k) c_ 5 1 (by8 (hexP X k)), .obj D25 DF, .obj l26 oB28, .row (some ⟨p40, 0, none⟩) 2 2 5 1 (by8 ([((sg ((X.getD (31 - k) 0).toNat / 16))), ((sg ((X.getD (31 - k) 0).toNat % 16)))] : List UInt8))] wD_ → Xd_ [1, 2, 3, 4, 5, 6, 7] [(3, pt p9 0), (17, .slice (some ⟨p40, 0, none⟩) 2 2)] wD_ := by
      intro wD_ p40 HD_
      rw [hXd_]
      have hS75 : Hp w [] [.blk p3 (by8 X) 24, .blk B17 [.slice (some ⟨p3, 0, none⟩) 32 32] 28, .obj D25 DF, .obj l26 oB28] wD_ := HD_.sub (List.Sublist.cons_cons _ (List.Sublist.cons _ (List.Sublist.cons_cons _ (List.Sublist.cons _ (List.Sublist.cons_cons _ (List.Sublist.cons_cons _ (List.Sublist.cons _ (List.Sublist.slnil))))))))
      refine GP.all1 0 (by kernel_rfl) ?_
      · skip
        have hS76 : Hp w [] [.blk p3 (by8 X) 24, .blk B17 [.slice (some ⟨p3, 0, none⟩) 32 32] 28, .obj D25 DF, .obj l26 oB28] wD_ := HD_.sub (List.Sublist.cons_cons _ (List.Sublist.cons _ (List.Sublist.cons_cons _ (List.Sublist.cons _ (List.Sublist.cons_cons _ (List.Sublist.cons_cons _ (List.Sublist.cons _ (List.Sublist.slnil))))))))
        have hS77 : Hp w [] [.blk p3 (by8 X) 24, .blk B17 [.slice (some ⟨p3, 0, none⟩) 32 32] 28, .obj D25 DF, .obj l26 oB28] wD_ := HD_.sub (List.Sublist.cons_cons _ (List.Sublist.cons _ (List.Sublist.cons_cons _ (List.Sublist.cons _ (List.Sublist.cons_cons _ (List.Sublist.cons_cons _ (List.Sublist.cons _ (List.Sublist.slnil))))))))
        refine GO.made (HD_.ld (o := 0) (ty := 28) (v := .slice A_ (2 * k) c_) 1 rfl (by kernel_rfl) rfl) [3, 10, 17] [(3, pt p9 0), (10, .slice A_ (2 * k) c_), (17, .slice (some ⟨p40, 0, none⟩) 2 2)] (by kernel_rfl) (by kernel_rfl) hS77 ?_
        refine GP.perm [1, 2, 3, 4, 5, 6, 0, 7] (by kernel_rfl) rfl ?_
        rw [← hXd_]
        exact st54 _ p40 HD_
    have st51 : ∀ (wD_ : World), Hp w [] [.blk p3 (by8 X) 24, .blk p9 [.slice A_ (2 * k) c_] 28, .blk B17 [.slice (some ⟨p3, 0, none⟩) 32 32] 28, .row A_ (2 * k) c_ 5 1 (by8 (hexP X k)), .obj D25 DF, .obj l26 oB28] wD_ → Xd_ [1, 2, 3, 4, 5, 6] [(3, pt p9 0), (13, .int .u8 (((sg ((X.getD (31 - k) 0).toNat / 16))).toNat : Int)), (16, .int .u8 (((sg ((X.getD (31 - k) 0).toNat % 16))).toNat : Int))] wD_ := by
      intro wD_ HD_
      rw [hXd_]
      have hS78 : Hp w [] [.blk p3 (by8 X) 24, .blk B17 [.slice (some ⟨p3, 0, none⟩) 32 32] 28, .obj D25 DF, .obj l26 oB28] wD_ := HD_.sub (List.Sublist.cons_cons _ (List.Sublist.cons _ (List.Sublist.cons_cons _ (List.Sublist.cons _ (List.Sublist.cons_cons _ (List.Sublist.cons_cons _ (List.Sublist.slnil)))))))
      refine GP.all2 0 7 (by kernel_rfl) ?_ ?_
      · skip
        have hS79 : Hp w [] [.blk p3 (by8 X) 24, .blk B17 [.slice (some ⟨p3, 0, none⟩) 32 32] 28, .obj D25 DF, .obj l26 oB28] wD_ := HD_.sub (List.Sublist.cons_cons _ (List.Sublist.cons _ (List.Sublist.cons_cons _ (List.Sublist.cons _ (List.Sublist.cons_cons _ (List.Sublist.cons_cons _ (List.Sublist.slnil)))))))
        have hS80 : Hp w [] [.blk p3 (by8 X) 24, .blk B17 [.slice (some ⟨p3, 0, none⟩) 32 32] 28, .obj D25 DF, .obj l26 oB28] wD_ := HD_.sub (List.Sublist.cons_cons _ (List.Sublist.cons _ (List.Sublist.cons_cons _ (List.Sublist.cons _ (List.Sublist.cons_cons _ (List.Sublist.cons_cons _ (List.Sublist.slnil)))))))
        refine GO.made (HD_.ld (o := 0) (ty := 28) (v := .slice A_ (2 * k) c_) 1 rfl (by kernel_rfl) rfl) [3, 10, 13, 16] [(3, pt p9 0), (10, .slice A_ (2 * k) c_), (13, .int .u8 (((sg ((X.getD (31 - k) 0).toNat / 16))).toNat : Int)), (16, .int .u8 (((sg ((X.getD (31 - k) 0).toNat % 16))).toNat : Int))] (by kernel_rfl) (by kernel_rfl) hS80 ?_
        refine GP.perm [1, 2, 3, 4, 5, 6, 0] (by kernel_rfl) rfl ?_
        rw [← hXd_]
        exact st52 _ HD_
      · skip
        have hS81 : Hp w [] [.blk p3 (by8 X) 24, .blk B17 [.slice (some ⟨p3, 0, none⟩) 32 32] 28, .obj D25 DF, .obj l26 oB28] wD_ := HD_.sub (List.Sublist.cons_cons _ (List.Sublist.cons _ (List.Sublist.cons_cons _ (List.Sublist.cons _ (List.Sublist.cons_cons _ (List.Sublist.cons_cons _ (List.Sublist.slnil)))))))
        obtain ⟨p82, w83, r84, H85⟩ := HD_.madeRow (P := Try.prog) (Instr.buildSlice 28 2 #[(0, .int .u8 (((sg ((X.getD (31 - k) 0).toNat / 16))).toNat : Int)), (1, .int .u8 (((sg ((X.getD (31 - k) 0).toNat % 16))).toNat : Int))]) (fun b_ => .slice (some ⟨b_, 0, none⟩) 2 2) [.int .u8 (((sg ((X.getD (31 - k) 0).toNat / 16))).toNat : Int), .int .u8 (((sg ((X.getD (31 - k) 0).toNat % 16))).toNat : Int)] 5 2 2 1 (by kernel_rfl) (by decide) (by decide) rfl
        have H85 : Hp w [] [.blk p3 (by8 X) 24, .blk p9 [.slice A_ (2 * k) c_] 28, .blk B17 [.slice (some ⟨p3, 0, none⟩) 32 32] 28, .row A_ (2 * k) c_ 5 1 (by8 (hexP X k)), .obj D25 DF, .obj l26 oB28, .row (some ⟨p82, 0, none⟩) 2 2 5 1 (by8 ([((sg ((X.getD (31 - k) 0).toNat / 16))), ((sg ((X.getD (31 - k) 0).toNat % 16)))] : List UInt8))] w83 := H85
        have hS86 : Hp w [] [.blk p3 (by8 X) 24, .blk B17 [.slice (some ⟨p3, 0, none⟩) 32 32] 28, .obj D25 DF, .obj l26 oB28] w83 := H85.sub (List.Sublist.cons_cons _ (List.Sublist.cons _ (List.Sublist.cons_cons _ (List.Sublist.cons _ (List.Sublist.cons_cons _ (List.Sublist.cons_cons _ (List.Sublist.cons _ (List.Sublist.slnil))))))))
        refine GO.made r84 [3, 17] [(3, pt p9 0), (17, .slice (some ⟨p82, 0, none⟩) 2 2)] (by kernel_rfl) (by kernel_rfl) hS86 ?_
        refine GP.perm [1, 2, 3, 4, 5, 6, 7] (by kernel_rfl) rfl ?_
        rw [← hXd_]
        exact st53 _ p82 H85
    exact st51 _ H34
  · skip
    rintro D90 ⟨A_, c_⟩ w87 hx88 H89
    refine RG.kk hK14 (fun _ _ h => h) ?_
    have H89 : Hp w [] [.blk p3 (by8 X) 24, .blk p9 [.slice A_ (2 * 32) c_] 28, .blk B17 [.slice (some ⟨p3, 0, none⟩) 32 32] 28, .row A_ (2 * 32) c_ 5 1 (by8 (hexP X 32)), .obj D90 DF] w87 := H89
    refine RG.seqK fun K91 hK92 => ?_
    refine RG.region (by kernel_rfl) ?_
    refine RL.sem (j := 1) (H89.ld (o := 0) (ty := 28) (v := .slice A_ (2 * 32) c_) 1 rfl (by kernel_rfl) rfl) [19] [(19, .slice A_ (2 * 32) c_)] (by kernel_rfl) (by kernel_rfl) rfl ?_
    refine RL.sem (j := 2) (run_toStr (P := Try.prog) (src := 28) (dst := 9) (A := A_) (bs := (hexP X 32)) (n := (2 * 32)) (c := c_) (by kernel_rfl) (by kernel_rfl) (H89.rdRow 3 rfl) (by rw [hexP_length])) [20] [(20, .string (strOf (hexP X 32)))] (by kernel_rfl) (by kernel_rfl) rfl ?_
    refine RL.run (j := 3) 1 [2] [(2, .string (strOf (hexP X 32)))] (by kernel_rfl) rfl ?_
    refine RL.k rfl hK92 (fun _ _ h => h) ?_
    refine RG.ret ?_
    have hD93 := H89.objAt 4 rfl
    have H94 : Hp w [] [.blk p3 (by8 X) 24, .blk p9 [.slice A_ (2 * 32) c_] 28, .blk B17 [.slice (some ⟨p3, 0, none⟩) 32 32] 28, .row A_ (2 * 32) c_ 5 1 (by8 (hexP X 32)), .obj D90 (.deferred none)] (World.putObj w87 D90 (.deferred none)) := H89.putObj 4 (.deferred none) rfl
    intro F_ hF_ hM_
    refine hRet _ _ (postK_1 hD93 rfl (RV.tmp rfl) ?_ F_ hF_ hM_)
    exact ⟨rfl, H94.sub (List.nil_sublist _)⟩
  · skip
    rintro D98 ⟨A_, c_⟩ w95 hx96 H97
    exact hx96.elim
theorem Parse_calls (s : List UInt8) (w : World) (hs : s.length ≤ maxLen) : Calls Try.prog 43 #[.string (strOf s)] w fun e w' => e = .returned (.tuple #[.agg (by8 (parT s)).toArray, .int .i64 ((parE s : Nat) : Int)]) ∧ Hp w [] [] w' := by
  have hsm : s.length ≤ 9223372036854775807 := Nat.le_trans hs (by decide)
  have hsz := strOf_size s
  refine calls_G (args := [.string (strOf s)]) Try.func43 rfl Try.ntmps43 rfl ?_
  intro Q0 hRet hNor hPan
  have H := Hp.start w
  have H : Hp w [] [] w := H
  refine G.seqK fun K1 hK2 => ?_
  refine G.region ?_
  obtain ⟨p3, w4, r5, H6⟩ := H.alloc (P := Try.prog) 24 (by8 (List.replicate 32 0)) (by kernel_rfl)
  have H6 : Hp w [] [.blk p3 (by8 (List.replicate 32 0)) 24] w4 := H6
  refine GL.sem (j := 1) (r5) [0, 2] [(0, .string (strOf s)), (2, pt p3 0)] (by kernel_rfl) (by kernel_rfl) rfl ?_
  refine GL.run (j := 2) 1 [0, 2] [(0, .string (strOf s)), (2, pt p3 0)] (by kernel_rfl) rfl ?_
  refine GL.k rfl hK2 (fun _ _ h => h) ?_
  refine G.seqK fun K7 hK8 => ?_
  refine G.region ?_
  obtain ⟨p9, w10, r11, H12⟩ := H6.alloc (P := Try.prog) 24 (by8 (List.replicate 32 0)) (by kernel_rfl)
  have H12 : Hp w [] [.blk p3 (by8 (List.replicate 32 0)) 24, .blk p9 (by8 (List.replicate 32 0)) 24] w10 := H12
  refine GL.sem (j := 1) (r11) [0, 2, 4] [(0, .string (strOf s)), (2, pt p3 0), (4, pt p9 0)] (by kernel_rfl) (by kernel_rfl) rfl ?_
  refine GL.k rfl hK8 (fun _ _ h => h) ?_
  refine G.seqK fun K13 hK14 => ?_
  refine G.seqK fun K15 hK16 => ?_
  refine G.region ?_
  refine GL.run (j := 3) 3 [0, 2, 4, 9] [(0, .string (strOf s)), (2, pt p3 0), (4, pt p9 0), (9, .bool (((strOf s).size : Int) != 64))] (by kernel_rfl) rfl ?_
  refine GL.k rfl hK16 (fun _ _ h => h) ?_
  cases hb17 : (((strOf s).size : Int) != 64)
  · skip
    have hb17f : ((strOf s).size : Int) = 64 := bne_eq_false_iff_eq.1 hb17
    refine G.no rfl ?_
    refine G.skipK hK14 (fun _ _ h => h) ?_
    refine G.seqK fun K18 hK19 => ?_
    refine G.seqK fun K20 hK21 => ?_
    refine G.region ?_
    refine GL.run (j := 1) 1 [0, 2, 4, 11] [(0, .string (strOf s)), (2, pt p3 0), (4, pt p9 0), (11, .string (strOf s))] (by kernel_rfl) rfl ?_
    obtain ⟨k22, w23, r24, H25⟩ := H12.strRange (P := Try.prog) (t := 9) (by kernel_rfl) (strOf s)
    have H25 : Hp w [] [.blk p3 (by8 (List.replicate 32 0)) 24, .blk p9 (by8 (List.replicate 32 0)) 24, .obj k22 (.stringIter (strOf s) 0)] w23 := H25
    refine GL.sem (j := 2) (r24) [0, 2, 4, 12] [(0, .string (strOf s)), (2, pt p3 0), (4, pt p9 0), (12, pt k22 0)] (by kernel_rfl) (by kernel_rfl) rfl ?_
    refine GL.k rfl hK21 (fun _ _ h => h) ?_
    refine G.block ?_
    have hs64 : s.length = 64 := by omega
    refine G.fit [0, 2, 4, 12] (M' := [(0, .string (strOf s)), (2, pt p3 0), (4, pt p9 0), (12, pt k22 0)]) (by kernel_rfl) ?_
    refine G.loop (X := Nat) (fun k => [(0, .string (strOf s)), (2, pt p3 0), (4, pt p9 0), (12, pt k22 0)]) (fun k w_ => (k ≤ 64 ∧ (s.take k).all hexOK = true) ∧ Hp w [] [.blk p3 (by8 (List.replicate 32 0)) 24, .blk p9 (by8 (pX s k)) 24, .obj k22 (.stringIter (strOf s) k)] w_) (fun k => 64 - k) 0 [0, 2, 4, 12] (by kernel_rfl) ⟨⟨by omega, by rw [List.take_zero]; rfl⟩, H25⟩ ?_
    rintro k w26 ⟨hi27, H28⟩
    refine G.eq (M' := [(0, .string (strOf s)), (2, pt p3 0), (4, pt p9 0), (12, pt k22 0)]) rfl ?_
    have H28 : Hp w [] [.blk p3 (by8 (List.replicate 32 0)) 24, .blk p9 (by8 (pX s k)) 24, .obj k22 (.stringIter (strOf s) k)] w26 := H28
    obtain ⟨hk64, hal⟩ := hi27
    by_cases hkk : k < 64
    · skip
      refine G.seqK fun K29 hK30 => ?_
      refine G.region ?_
      obtain ⟨r31, wd32, w33, hr34, H35, h36⟩ := H28.strAny (P := Try.prog) 2 rfl (getD8 (bs := s) (k := k) (by omega)) 0
      have H35 : Hp w [] [.blk p3 (by8 (List.replicate 32 0)) 24, .blk p9 (by8 (pX s k)) 24, .obj k22 (.stringIter (strOf s) (k + wd32))] w33 := H35
      refine GL.sem (j := 1) (hr34) [0, 2, 4, 12, 13] [(0, .string (strOf s)), (2, pt p3 0), (4, pt p9 0), (12, pt k22 0), (13, .tuple #[.bool true, .int .i64 (k : Int), .int .i32 (r31 : Int)])] (by kernel_rfl) (by kernel_rfl) rfl ?_
      refine GL.run (j := 2) 1 [0, 2, 4, 12, 13, 14] [(0, .string (strOf s)), (2, pt p3 0), (4, pt p9 0), (12, pt k22 0), (13, .tuple #[.bool true, .int .i64 (k : Int), .int .i32 (r31 : Int)]), (14, .bool true)] (by kernel_rfl) rfl ?_
      refine GL.k rfl hK30 (fun _ _ h => h) ?_
      refine G.seqK fun K37 hK38 => ?_
      refine G.yes rfl ?_
      refine G.skipK hK38 (fun _ _ h => h) ?_
      refine G.block ?_
      refine G.seqK fun K39 hK40 => ?_
      refine G.region ?_
      refine GL.run (j := 2) 2 [0, 2, 4, 5, 12] [(0, .string (strOf s)), (2, pt p3 0), (4, pt p9 0), (5, .int .i64 (k : Int)), (12, pt k22 0)] (by kernel_rfl) rfl ?_
      refine GL.k rfl hK40 (fun _ _ h => h) ?_
      refine G.seqK fun K41 hK42 => ?_
      refine G.region ?_
      refine GL.run (j := 2) 2 [0, 2, 4, 5, 12, 16, 17] [(0, .string (strOf s)), (2, pt p3 0), (4, pt p9 0), (5, .int .i64 (k : Int)), (12, pt k22 0), (16, .string (strOf s)), (17, .int .i64 (k : Int))] (by kernel_rfl) rfl ?_
      refine GL.sem (j := 3) (run_strIdx (P := Try.prog) (k := .i64) (t := 9) (s := s) (i := k) (by kernel_rfl) (getD8 (by omega)) _) [0, 2, 4, 5, 12, 18] [(0, .string (strOf s)), (2, pt p3 0), (4, pt p9 0), (5, .int .i64 (k : Int)), (12, pt k22 0), (18, .int .u8 (((s.getD k 0)).toNat : Int))] (by kernel_rfl) (by kernel_rfl) rfl ?_
      refine GL.call (j := 4) (Index1_calls ((s.getD k 0)) w33) (by kernel_rfl) rfl (fun e_ w43 hR => ?_)
      obtain ⟨rfl, H45⟩ := hR
      have H44 : Hp w [] [.blk p3 (by8 (List.replicate 32 0)) 24, .blk p9 (by8 (pX s k)) 24, .obj k22 (.stringIter (strOf s) (k + wd32))] w43 := H35.callNil H45
      refine ⟨_, rfl, [0, 2, 4, 5, 12, 19], [(0, .string (strOf s)), (2, pt p3 0), (4, pt p9 0), (5, .int .i64 (k : Int)), (12, pt k22 0), (19, .int .i64 (hexZ ((s.getD k 0))))], by kernel_rfl, ?_⟩
      refine GL.run (j := 5) 1 [0, 2, 4, 5, 6, 12] [(0, .string (strOf s)), (2, pt p3 0), (4, pt p9 0), (5, .int .i64 (k : Int)), (6, .int .i64 (hexZ ((s.getD k 0)))), (12, pt k22 0)] (by kernel_rfl) rfl ?_
      refine GL.k rfl hK42 (fun _ _ h => h) ?_
      refine G.seqK fun K46 hK47 => ?_
      refine G.seqK fun K48 hK49 => ?_
      refine G.region ?_
      refine GL.run (j := 2) 2 [0, 2, 4, 5, 6, 12, 21] [(0, .string (strOf s)), (2, pt p3 0), (4, pt p9 0), (5, .int .i64 (k : Int)), (6, .int .i64 (hexZ ((s.getD k 0)))), (12, pt k22 0), (21, .bool (decide ((hexZ ((s.getD k 0))) < 0)))] (by kernel_rfl) rfl ?_
      refine GL.k rfl hK49 (fun _ _ h => h) ?_
      cases hb50 : (decide ((hexZ ((s.getD k 0))) < 0))
      · skip
        have hb50f := of_decide_eq_false hb50
        have hok := hexZ_pos (c := s.getD k 0) (by omega)
        have hdl := hexD_lt hok.1
        refine G.eq (M' := [(0, .string (strOf s)), (2, pt p3 0), (4, pt p9 0), (5, .int .i64 (k : Int)), (6, .int .i64 (((hexD (s.getD k 0)) : Nat) : Int)), (12, pt k22 0), (21, .bool false)]) (by rw [hok.2]) ?_
        refine G.no rfl ?_
        refine G.skipK hK47 (fun _ _ h => h) ?_
        refine G.region ?_
        refine GL.run (j := 4) 4 [0, 2, 4, 6, 12, 24, 26] [(0, .string (strOf s)), (2, pt p3 0), (4, pt p9 0), (6, .int .i64 (((hexD (s.getD k 0)) : Nat) : Int)), (12, pt k22 0), (24, .int .i64 (IntKind.i64.wrap (Int.tdiv (k : Int) 2))), (26, .int .i64 (IntKind.i64.wrap (Int.tdiv (k : Int) 2)))] (by kernel_rfl) rfl ?_
        have e51 : (IntKind.i64.wrap (Int.tdiv (k : Int) 2)) = (((k / 2) : Nat) : Int) := i_quo 2 (by omega)
        refine GL.eq (M' := [(0, .string (strOf s)), (2, pt p3 0), (4, pt p9 0), (6, .int .i64 (((hexD (s.getD k 0)) : Nat) : Int)), (12, pt k22 0), (24, .int .i64 (((k / 2) : Nat) : Int)), (26, .int .i64 (((k / 2) : Nat) : Int))]) (by rw [e51]) ?_
        clear e51
        refine GL.sem (j := 5) (run_idxArr (P := Try.prog) (k := .i64) (t := 24) (len := 32) (sz := 1) (b := p9) (o := 0) (j := (k / 2)) (by kernel_rfl) rfl (by omega)) [0, 2, 4, 6, 12, 24, 27] [(0, .string (strOf s)), (2, pt p3 0), (4, pt p9 0), (6, .int .i64 (((hexD (s.getD k 0)) : Nat) : Int)), (12, pt k22 0), (24, .int .i64 (((k / 2) : Nat) : Int)), (27, pt p9 (0 + (k / 2) * 1))] (by kernel_rfl) (by kernel_rfl) rfl ?_
        refine GL.sem (j := 6) (H44.ld (o := (0 + (k / 2) * 1)) (ty := 5) (v := .int .u8 ((((pX s k).getD (k / 2) 0)).toNat : Int)) 1 rfl (by kernel_rfl) (by rw [show (0 + (k / 2) * 1) = (k / 2) by omega]; exact by8_at (getD8 (by rw [pX_length]; omega)))) [0, 2, 4, 6, 12, 24, 28] [(0, .string (strOf s)), (2, pt p3 0), (4, pt p9 0), (6, .int .i64 (((hexD (s.getD k 0)) : Nat) : Int)), (12, pt k22 0), (24, .int .i64 (((k / 2) : Nat) : Int)), (28, .int .u8 ((((pX s k).getD (k / 2) 0)).toNat : Int))] (by kernel_rfl) (by kernel_rfl) rfl ?_
        refine GL.run (j := 10) 4 [0, 2, 4, 12, 24, 32] [(0, .string (strOf s)), (2, pt p3 0), (4, pt p9 0), (12, pt k22 0), (24, .int .i64 (((k / 2) : Nat) : Int)), (32, .int .u8 (Go.bits .or .u8 (IntKind.u8.wrap (((((pX s k).getD (k / 2) 0)).toNat : Int) * 2 ^ 4)) (IntKind.u8.wrap (((hexD (s.getD k 0)) : Nat) : Int))))] (by kernel_rfl) rfl ?_
        have e52 : (IntKind.u8.wrap (((((pX s k).getD (k / 2) 0)).toNat : Int) * 2 ^ 4)) = ((((((pX s k).getD (k / 2) 0)).toNat * 16 % 256) : Nat) : Int) := u8_mul16 _
        have e53 : (IntKind.u8.wrap (((hexD (s.getD k 0)) : Nat) : Int)) = (((hexD (s.getD k 0)) : Nat) : Int) := in_u8 (by omega)
        have e54 : (Go.bits .or .u8 ((((((pX s k).getD (k / 2) 0)).toNat * 16 % 256) : Nat) : Int) (((hexD (s.getD k 0)) : Nat) : Int)) = (((nib (((pX s k).getD (k / 2) 0)) (hexD (s.getD k 0))).toNat : Nat) : Int) := u8_or16 hdl
        refine GL.eq (M' := [(0, .string (strOf s)), (2, pt p3 0), (4, pt p9 0), (12, pt k22 0), (24, .int .i64 (((k / 2) : Nat) : Int)), (32, .int .u8 (((nib (((pX s k).getD (k / 2) 0)) (hexD (s.getD k 0))).toNat : Nat) : Int))]) (by rw [e52, e53, e54]) ?_
        clear e52 e53 e54
        refine GL.sem (j := 11) (run_idxArr (P := Try.prog) (k := .i64) (t := 24) (len := 32) (sz := 1) (b := p9) (o := 0) (j := (k / 2)) (by kernel_rfl) rfl (by omega)) [0, 2, 4, 12, 32, 33] [(0, .string (strOf s)), (2, pt p3 0), (4, pt p9 0), (12, pt k22 0), (32, .int .u8 (((nib (((pX s k).getD (k / 2) 0)) (hexD (s.getD k 0))).toNat : Nat) : Int)), (33, pt p9 (0 + (k / 2) * 1))] (by kernel_rfl) (by kernel_rfl) rfl ?_
        obtain ⟨w55, r56, H57⟩ := H44.st (P := Try.prog) (o := (0 + (k / 2) * 1)) (ty := 5) (v := .int .u8 (((nib (((pX s k).getD (k / 2) 0)) (hexD (s.getD k 0))).toNat : Nat) : Int)) 1 rfl (by kernel_rfl) (by rw [by8_length, pX_length]; omega) rfl
        rw [show (0 + (k / 2) * 1) = (k / 2) by omega, by8_set] at H57
        have H57 : Hp w [] [.blk p3 (by8 (List.replicate 32 0)) 24, .blk p9 (by8 (List.set (pX s k) (k / 2) (nib (((pX s k).getD (k / 2) 0)) (hexD (s.getD k 0))))) 24, .obj k22 (.stringIter (strOf s) (k + wd32))] w55 := H57
        refine GL.semU (j := 12) r56 [0, 2, 4, 12] [(0, .string (strOf s)), (2, pt p3 0), (4, pt p9 0), (12, pt k22 0)] (by kernel_rfl) rfl rfl rfl ?_
        have hwd : wd32 = 1 := h36 (hex_ascii hok.1)
        rw [hwd] at H57
        have H58 : Hp w [] [.blk p3 (by8 (List.replicate 32 0)) 24, .blk p9 (by8 (pX s (k + 1))) 24, .obj k22 (.stringIter (strOf s) (k + 1))] w55 := by rw [pX]; exact H57
        exact GL.againB (k + 1) [0, 2, 4, 12] rfl (by kernel_rfl) (by show 64 - (k + 1) < 64 - k; omega) ⟨⟨by omega, all_step (by omega) hal hok.1⟩, H58⟩
      · skip
        have hb50f := of_decide_eq_true hb50
        have hno := okT_no (s := s) (.inr ⟨k, by omega, hexZ_neg (by omega)⟩)
        refine G.yes rfl ?_
        refine G.seqK fun K59 hK60 => ?_
        refine G.region ?_
        refine GL.run (j := 1) 1 [2, 22] [(2, pt p3 0), (22, .agg (by8 (List.replicate 32 0)).toArray)] (by kernel_rfl) rfl ?_
        obtain ⟨w61, r62, H63⟩ := H44.stA (P := Try.prog) (o := 0) (vs := by8 (List.replicate 32 0)) (ty := 24) (m := 32) 0 rfl (by kernel_rfl) (by rw [by8_length, List.length_replicate]) (Nat.le_of_eq (by rw [Nat.zero_add]; exact ((show (by8 (List.replicate 32 0)).length = 32 from by rw [by8_length]; rfl)).symm)) (by8_one _)
        rw [st_whole (by rw [by8_length]; rfl)] at H63
        have H63 : Hp w [] [.blk p3 (by8 (List.replicate 32 0)) 24, .blk p9 (by8 (pX s k)) 24, .obj k22 (.stringIter (strOf s) (k + wd32))] w61 := H63
        refine GL.semU (j := 2) r62 [2] [(2, pt p3 0)] (by kernel_rfl) rfl rfl rfl ?_
        refine GL.run (j := 3) 1 [2, 3] [(2, pt p3 0), (3, .int .i64 2)] (by kernel_rfl) rfl ?_
        refine GL.k rfl hK60 (fun _ _ h => h) ?_
        refine G.ret ?_
        intro F_ hF_ hM_
        refine hRet _ _ (bodyPost_2 rfl (RV.cell rfl (H63.ldA (o := 0) (ty := 24) (m := 32) (sub := by8 (List.replicate 32 0)) 0 rfl (by kernel_rfl) (sub_whole (by rw [by8_length, List.length_replicate])) (by rw [by8_length, List.length_replicate]))) (RV.tmp rfl) ?_ F_ hF_ hM_)
        obtain ⟨e1, e2⟩ := par_no hno
        rw [e1, e2]
        exact ⟨rfl, H63.sub (List.nil_sublist _)⟩
    · skip
      refine G.seqK fun K64 hK65 => ?_
      refine G.region ?_
      refine GL.sem (j := 1) (H28.strEnd (P := Try.prog) 2 rfl (by omega) 0) [0, 2, 4, 12, 13] [(0, .string (strOf s)), (2, pt p3 0), (4, pt p9 0), (12, pt k22 0), (13, .tuple #[.bool false])] (by kernel_rfl) (by kernel_rfl) rfl ?_
      refine GL.run (j := 2) 1 [0, 2, 4, 12, 13, 14] [(0, .string (strOf s)), (2, pt p3 0), (4, pt p9 0), (12, pt k22 0), (13, .tuple #[.bool false]), (14, .bool false)] (by kernel_rfl) rfl ?_
      refine GL.k rfl hK65 (fun _ _ h => h) ?_
      refine G.seqK fun K66 hK67 => ?_
      refine G.no rfl ?_
      refine G.exitK hK19 (fun _ _ h => h) ?_
      refine G.seqK fun K68 hK69 => ?_
      refine G.region ?_
      refine GL.run (j := 1) 1 [2, 4, 34] [(2, pt p3 0), (4, pt p9 0), (34, .slice (some ⟨p9, 0, none⟩) 32 32)] (by kernel_rfl) rfl ?_
      have H70 := (Hp.reorder (L' := [.blk p9 (by8 (pX s k)) 24, .blk p3 (by8 (List.replicate 32 0)) 24, .obj k22 (.stringIter (strOf s) k)]) H28 (List.Perm.trans (List.Perm.swap _ _ _) (List.Perm.refl _)))
      refine GL.call (j := 2) (Reverse_calls (ids [.blk p9 (by8 (pX s k)) 24]) p9 (pX s k) (by rw [pX_length]) w26 (Hp.startL (A := [.blk p9 (by8 (pX s k)) 24]) (B := [.blk p3 (by8 (List.replicate 32 0)) 24, .obj k22 (.stringIter (strOf s) k)]) H70)) (by kernel_rfl) rfl (fun e_ w71 hR => ?_)
      obtain ⟨rfl, H73⟩ := hR
      have H72 : Hp w [] [.blk p9 (by8 (List.reverse (pX s k))) 24, .blk p3 (by8 (List.replicate 32 0)) 24, .obj k22 (.stringIter (strOf s) k)] w71 := Hp.callL (A := [.blk p9 (by8 (pX s k)) 24]) (B := [.blk p3 (by8 (List.replicate 32 0)) 24, .obj k22 (.stringIter (strOf s) k)]) H70 H73
      refine ⟨_, rfl, [2, 4], [(2, pt p3 0), (4, pt p9 0)], by kernel_rfl, ?_⟩
      refine GL.k rfl hK69 (fun _ _ h => h) ?_
      refine G.seqK fun K74 hK75 => ?_
      refine G.region ?_
      refine GL.sem (j := 1) (H72.ldA (o := 0) (ty := 24) (m := 32) (sub := by8 (List.reverse (pX s k))) 0 rfl (by kernel_rfl) (sub_whole (by rw [by8_length, List.length_reverse, pX_length])) (by rw [by8_length, List.length_reverse, pX_length])) [2, 36] [(2, pt p3 0), (36, .agg (by8 (List.reverse (pX s k))).toArray)] (by kernel_rfl) (by kernel_rfl) rfl ?_
      obtain ⟨w76, r77, H78⟩ := H72.stA (P := Try.prog) (o := 0) (vs := by8 (List.reverse (pX s k))) (ty := 24) (m := 32) 1 rfl (by kernel_rfl) (by rw [by8_length, List.length_reverse, pX_length]) (Nat.le_of_eq (by rw [Nat.zero_add]; exact ((show (by8 (List.replicate 32 0)).length = 32 from by rw [by8_length]; rfl)).symm)) (by8_one _)
      rw [st_whole (by rw [by8_length]; rfl)] at H78
      have H78 : Hp w [] [.blk p9 (by8 (List.reverse (pX s k))) 24, .blk p3 (by8 (List.reverse (pX s k))) 24, .obj k22 (.stringIter (strOf s) k)] w76 := H78
      refine GL.semU (j := 2) r77 [2] [(2, pt p3 0)] (by kernel_rfl) rfl rfl rfl ?_
      refine GL.run (j := 3) 1 [2, 3] [(2, pt p3 0), (3, .int .i64 0)] (by kernel_rfl) rfl ?_
      refine GL.k rfl hK75 (fun _ _ h => h) ?_
      refine G.ret ?_
      intro F_ hF_ hM_
      refine hRet _ _ (bodyPost_2 rfl (RV.cell rfl (H78.ldA (o := 0) (ty := 24) (m := 32) (sub := by8 (List.reverse (pX s k))) 1 rfl (by kernel_rfl) (sub_whole (by rw [by8_length, List.length_reverse, pX_length])) (by rw [by8_length, List.length_reverse, pX_length]))) (RV.tmp rfl) ?_ F_ hF_ hM_)
      rw [show k = 64 by omega] at hal
      obtain ⟨_, e1, e2⟩ := par_yes hs64 (by rw [List.take_of_length_le (by omega)] at hal; exact hal)
      rw [e1, e2, show 64 = k by omega]
      exact ⟨rfl, H78.sub (List.nil_sublist _)⟩
  · skip
    have hb17f : ((strOf s).size : Int) ≠ 64 := bne_iff_ne.1 hb17
    have hno := okT_no (s := s) (.inl (by omega))
    refine G.yes rfl ?_
    refine G.seqK fun K79 hK80 => ?_
    refine G.region ?_
    refine GL.run (j := 1) 1 [2, 10] [(2, pt p3 0), (10, .agg (by8 (List.replicate 32 0)).toArray)] (by kernel_rfl) rfl ?_
    obtain ⟨w81, r82, H83⟩ := H12.stA (P := Try.prog) (o := 0) (vs := by8 (List.replicate 32 0)) (ty := 24) (m := 32) 0 rfl (by kernel_rfl) (by rw [by8_length, List.length_replicate]) (Nat.le_of_eq (by rw [Nat.zero_add]; exact ((show (by8 (List.replicate 32 0)).length = 32 from by rw [by8_length]; rfl)).symm)) (by8_one _)
    rw [st_whole (by rw [by8_length]; rfl)] at H83
    have H83 : Hp w [] [.blk p3 (by8 (List.replicate 32 0)) 24, .blk p9 (by8 (List.replicate 32 0)) 24] w81 := H83
    refine GL.semU (j := 2) r82 [2] [(2, pt p3 0)] (by kernel_rfl) rfl rfl rfl ?_
    refine GL.run (j := 3) 1 [2, 3] [(2, pt p3 0), (3, .int .i64 2)] (by kernel_rfl) rfl ?_
    refine GL.k rfl hK80 (fun _ _ h => h) ?_
    refine G.ret ?_
    intro F_ hF_ hM_
    refine hRet _ _ (bodyPost_2 rfl (RV.cell rfl (H83.ldA (o := 0) (ty := 24) (m := 32) (sub := by8 (List.replicate 32 0)) 0 rfl (by kernel_rfl) (sub_whole (by rw [by8_length, List.length_replicate])) (by rw [by8_length, List.length_replicate]))) (RV.tmp rfl) ?_ F_ hF_ hM_)
    obtain ⟨e1, e2⟩ := par_no hno
    rw [e1, e2]
    exact ⟨rfl, H83.sub (List.nil_sublist _)⟩
end Go.Proofs.Ytdepaaphgfapjaa
namespace Go.Proofs.Ytdepaaphgfapjaa
open Go.RowKit
theorem Put4_calls (S : List Nat) (p : Nat) (A : Option Addr) (n c : Nat) (bs : List UInt8) (x : Nat) (w : World) (h0 : Hp w S [.blk p [.slice A n c] 57, .row A n c 5 1 (by8 bs)] w) (hn : n ≤ 1000000) : Calls Try.prog 22 #[pt p 0, .int .u64 (x : Int), .int .i64 4] w fun e w' => ∃ A c, e = .returned (.tuple #[]) ∧ Hp w S [.blk p [.slice A (n + 4) c] 57, .row A (n + 4) c 5 1 (by8 (bs ++ putB x 4))] w' := by
  refine calls_G (args := [pt p 0, .int .u64 (x : Int), .int .i64 4]) Try.func22 rfl Try.ntmps22 rfl ?_
  intro Q0 hRet hNor hPan
  have H := h0
  have H : Hp w S [.blk p [.slice A n c] 57, .row A n c 5 1 (by8 bs)] w := H
  refine G.seqK fun K1 hK2 => ?_
  refine G.seqK fun K3 hK4 => ?_
  refine G.region ?_
  refine GL.run (j := 2) 2 [0, 1, 2, 7] [(0, pt p 0), (1, .int .u64 (x : Int)), (2, .int .i64 4), (7, .bool false)] (by kernel_rfl) rfl ?_
  refine GL.k rfl hK4 (fun _ _ h => h) ?_
  refine G.no rfl ?_
  refine G.skipK hK2 (fun _ _ h => h) ?_
  refine G.seqK fun K5 hK6 => ?_
  refine G.region ?_
  refine GL.run (j := 1) 1 [0, 1, 2, 8] [(0, pt p 0), (1, .int .u64 (x : Int)), (2, .int .i64 4), (8, .int .i64 4)] (by kernel_rfl) rfl ?_
  refine GL.k rfl hK6 (fun _ _ h => h) ?_
  refine G.block ?_
  refine G.seqK fun K7 hK8 => ?_
  refine G.seqK fun K9 hK10 => ?_
  refine G.region ?_
  refine GL.run (j := 2) 2 [0, 1, 2, 8, 9] [(0, pt p 0), (1, .int .u64 (x : Int)), (2, .int .i64 4), (8, .int .i64 4), (9, .bool false)] (by kernel_rfl) rfl ?_
  refine GL.k rfl hK10 (fun _ _ h => h) ?_
  refine G.no rfl ?_
  refine G.seqK fun K11 hK12 => ?_
  refine G.region ?_
  refine GL.run (j := 2) 2 [0, 1, 2, 8, 9] [(0, pt p 0), (1, .int .u64 (x : Int)), (2, .int .i64 4), (8, .int .i64 4), (9, .bool false)] (by kernel_rfl) rfl ?_
  refine GL.k rfl hK12 (fun _ _ h => h) ?_
  refine G.no rfl ?_
  refine G.seqK fun K13 hK14 => ?_
  refine G.region ?_
  refine GL.run (j := 2) 2 [0, 1, 2, 8, 9] [(0, pt p 0), (1, .int .u64 (x : Int)), (2, .int .i64 4), (8, .int .i64 4), (9, .bool true)] (by kernel_rfl) rfl ?_
  refine GL.k rfl hK14 (fun _ _ h => h) ?_
  refine G.yes rfl ?_
  refine G.skipK hK8 (fun _ _ h => h) ?_
  refine G.yes rfl ?_
  refine G.seqK fun K15 hK16 => ?_
  refine G.region ?_
  refine GL.run (j := 2) 2 [0, 1, 14, 15] [(0, pt p 0), (1, .int .u64 (x : Int)), (14, .int .i64 4), (15, .int .i64 0)] (by kernel_rfl) rfl ?_
  refine GL.k rfl hK16 (fun _ _ h => h) ?_
  refine G.block ?_
  have H17 : Hp w S [.blk p [.slice A (n + 0) c] 57, .row A (n + 0) c 5 1 (by8 (bs ++ putB x 0))] w := by rw [show putB x 0 = [] from rfl, List.append_nil]; exact H
  refine G.fit [0, 1, 14, 15] (M' := [(0, pt p 0), (1, .int .u64 (x : Int)), (14, .int .i64 4), (15, .int .i64 0)]) (by kernel_rfl) ?_
  refine G.eq (M' := [(0, pt p 0), (1, .int .u64 ((x / 256 ^ 0 : Nat) : Int)), (14, .int .i64 4), (15, .int .i64 0)]) (by simp only [Nat.pow_zero, Nat.div_one]) ?_
  refine G.loop (X := Nat × Option Addr × Nat) (fun ⟨i, B_, b_⟩ => [(0, pt p 0), (1, .int .u64 ((x / 256 ^ i : Nat) : Int)), (14, .int .i64 4), (15, .int .i64 (i : Int))]) (fun ⟨i, B_, b_⟩ w_ => (i ≤ 4) ∧ Hp w S [.blk p [.slice B_ (n + i) b_] 57, .row B_ (n + i) b_ 5 1 (by8 (bs ++ putB x i))] w_) (fun ⟨i, B_, b_⟩ => 4 - i) ⟨0, A, c⟩ [0, 1, 14, 15] (by kernel_rfl) ⟨by omega, H17⟩ ?_
  rintro ⟨i, B_, b_⟩ w18 ⟨hi19, H20⟩
  refine G.eq (M' := [(0, pt p 0), (1, .int .u64 ((x / 256 ^ i : Nat) : Int)), (14, .int .i64 4), (15, .int .i64 (i : Int))]) rfl ?_
  have H20 : Hp w S [.blk p [.slice B_ (n + i) b_] 57, .row B_ (n + i) b_ 5 1 (by8 (bs ++ putB x i))] w18 := H20
  have hi9 := hi19
  refine G.seqK fun K21 hK22 => ?_
  refine G.region ?_
  refine GL.run (j := 1) 1 [0, 1, 14, 15, 16] [(0, pt p 0), (1, .int .u64 ((x / 256 ^ i : Nat) : Int)), (14, .int .i64 4), (15, .int .i64 (i : Int)), (16, .bool (decide ((i : Int) < 4)))] (by kernel_rfl) rfl ?_
  refine GL.k rfl hK22 (fun _ _ h => h) ?_
  refine G.seqK fun K23 hK24 => ?_
  cases hb25 : (decide ((i : Int) < 4))
  · skip
    have hb25f := of_decide_eq_false hb25
    refine G.no rfl ?_
    refine fun F_ hF_ hM_ => wp_exit ?_
    refine hNor _ _ (bodyPost_0 rfl  ?_ F_ hF_ hM_)
    have HF := H20
    rw [show i = 4 by omega] at HF
    exact ⟨_, _, rfl, HF⟩
  · skip
    have hb25f := of_decide_eq_true hb25
    refine G.yes rfl ?_
    refine G.skipK hK24 (fun _ _ h => h) ?_
    refine G.seqK fun K26 hK27 => ?_
    refine G.block ?_
    refine G.seqK fun K28 hK29 => ?_
    refine G.region ?_
    refine GL.run (j := 4) 4 [0, 1, 14, 15, 17, 20] [(0, pt p 0), (1, .int .u64 ((x / 256 ^ i : Nat) : Int)), (14, .int .i64 4), (15, .int .i64 (i : Int)), (17, pt p 0), (20, pt p 0)] (by kernel_rfl) rfl ?_
    refine GL.sem (j := 5) (H20.ld (o := 0) (ty := 28) (v := .slice B_ (n + i) b_) 0 rfl (by kernel_rfl) rfl) [0, 1, 14, 15, 17, 21] [(0, pt p 0), (1, .int .u64 ((x / 256 ^ i : Nat) : Int)), (14, .int .i64 4), (15, .int .i64 (i : Int)), (17, pt p 0), (21, .slice B_ (n + i) b_)] (by kernel_rfl) (by kernel_rfl) rfl ?_
    refine GL.run (j := 7) 2 [0, 1, 14, 15, 17, 21, 23] [(0, pt p 0), (1, .int .u64 ((x / 256 ^ i : Nat) : Int)), (14, .int .i64 4), (15, .int .i64 (i : Int)), (17, pt p 0), (21, .slice B_ (n + i) b_), (23, .int .u8 (IntKind.u8.wrap ((x / 256 ^ i : Nat) : Int)))] (by kernel_rfl) rfl ?_
    have e30 : (IntKind.u8.wrap ((x / 256 ^ i : Nat) : Int)) = ((UInt8.ofNat (x / 256 ^ i)).toNat : Int) := n_byte _
    refine GL.eq (M' := [(0, pt p 0), (1, .int .u64 ((x / 256 ^ i : Nat) : Int)), (14, .int .i64 4), (15, .int .i64 (i : Int)), (17, pt p 0), (21, .slice B_ (n + i) b_), (23, .int .u8 ((UInt8.ofNat (x / 256 ^ i)).toNat : Int))]) (by rw [e30]) ?_
    clear e30
    obtain ⟨p31, w32, r33, H34⟩ := H20.made (P := Try.prog) (Instr.buildSlice 28 1 #[(0, .int .u8 ((UInt8.ofNat (x / 256 ^ i)).toNat : Int))]) (fun b_ => .slice (some ⟨b_, 0, none⟩) 1 1) [.int .u8 ((UInt8.ofNat (x / 256 ^ i)).toNat : Int)] 5 (by kernel_rfl)
    have H34 : Hp w S [.blk p [.slice B_ (n + i) b_] 57, .row B_ (n + i) b_ 5 1 (by8 (bs ++ putB x i)), .blk p31 [.int .u8 ((UInt8.ofNat (x / 256 ^ i)).toNat : Int)] 5] w32 := H34
    refine GL.sem (j := 8) (r33) [0, 1, 14, 15, 17, 21, 24] [(0, pt p 0), (1, .int .u64 ((x / 256 ^ i : Nat) : Int)), (14, .int .i64 4), (15, .int .i64 (i : Int)), (17, pt p 0), (21, .slice B_ (n + i) b_), (24, .slice (some ⟨p31, 0, none⟩) 1 1)] (by kernel_rfl) (by kernel_rfl) rfl ?_
    obtain ⟨A35, c36, w37, r38, H39⟩ := H34.append (P := Try.prog) (e := 5) (sz := 1) (by_ := 1) (n := (n + i)) (c := b_) (m := 1) (d := 1) (t := 28) (ty := 28) (xs := by8 (bs ++ putB x i)) (news := by8 ([(UInt8.ofNat (x / 256 ^ i))] : List UInt8)) 1 rfl (by kernel_rfl) (H34.rdBlk (o := 0) (xs := by8 ([(UInt8.ofNat (x / 256 ^ i))] : List UInt8)) 2 1 rfl rfl) (by first | (simp [by8_length]; done) | (rw [by8_length]; omega) | (rw [by8_length, putB_length])) (by8_one _) (by omega) (by simp only [maxLen]; omega)
    rw [← by8_append] at H39
    have H39 : Hp w S [.blk p [.slice B_ (n + i) b_] 57, .row A35 ((n + i) + 1) c36 5 1 (by8 ((bs ++ putB x i) ++ ([(UInt8.ofNat (x / 256 ^ i))] : List UInt8))), .blk p31 [.int .u8 ((UInt8.ofNat (x / 256 ^ i)).toNat : Int)] 5] w37 := H39
    refine GL.sem (j := 9) (r38) [0, 1, 14, 15, 17, 25] [(0, pt p 0), (1, .int .u64 ((x / 256 ^ i : Nat) : Int)), (14, .int .i64 4), (15, .int .i64 (i : Int)), (17, pt p 0), (25, .slice A35 ((n + i) + 1) c36)] (by kernel_rfl) (by kernel_rfl) rfl ?_
    refine GL.run (j := 11) 2 [0, 1, 14, 15, 25, 27] [(0, pt p 0), (1, .int .u64 ((x / 256 ^ i : Nat) : Int)), (14, .int .i64 4), (15, .int .i64 (i : Int)), (25, .slice A35 ((n + i) + 1) c36), (27, pt p 0)] (by kernel_rfl) rfl ?_
    obtain ⟨w40, r41, H42⟩ := H39.st (P := Try.prog) (o := 0) (ty := 28) (v := .slice A35 ((n + i) + 1) c36) 0 rfl (by kernel_rfl) (by simp) rfl
    have H42 : Hp w S [.blk p [.slice A35 ((n + i) + 1) c36] 57, .row A35 ((n + i) + 1) c36 5 1 (by8 ((bs ++ putB x i) ++ ([(UInt8.ofNat (x / 256 ^ i))] : List UInt8))), .blk p31 [.int .u8 ((UInt8.ofNat (x / 256 ^ i)).toNat : Int)] 5] w40 := H42
    refine GL.semU (j := 12) r41 [0, 1, 14, 15] [(0, pt p 0), (1, .int .u64 ((x / 256 ^ i : Nat) : Int)), (14, .int .i64 4), (15, .int .i64 (i : Int))] (by kernel_rfl) rfl rfl rfl ?_
    refine GL.k rfl hK29 (fun _ _ h => h) ?_
    refine G.region ?_
    refine GL.run (j := 3) 3 [0, 1, 14, 15] [(0, pt p 0), (1, .int .u64 (Int.fdiv ((x / 256 ^ i : Nat) : Int) (2 ^ 8))), (14, .int .i64 4), (15, .int .i64 (i : Int))] (by kernel_rfl) rfl ?_
    have e43 : (Int.fdiv ((x / 256 ^ i : Nat) : Int) (2 ^ 8)) = (((x / 256 ^ i) / 256 : Nat) : Int) := n_shr _ 8
    refine GL.eq (M' := [(0, pt p 0), (1, .int .u64 (((x / 256 ^ i) / 256 : Nat) : Int)), (14, .int .i64 4), (15, .int .i64 (i : Int))]) (by rw [e43]) ?_
    clear e43
    refine GL.k rfl hK27 (fun _ _ h => h) ?_
    refine G.region ?_
    refine GL.run (j := 2) 2 [0, 1, 14, 15] [(0, pt p 0), (1, .int .u64 (((x / 256 ^ i) / 256 : Nat) : Int)), (14, .int .i64 4), (15, .int .i64 (IntKind.i64.wrap ((i : Int) + 1)))] (by kernel_rfl) rfl ?_
    have e44 : (IntKind.i64.wrap ((i : Int) + 1)) = ((i + 1 : Nat) : Int) := by rw [in_i64 (by omega)]; omega
    refine GL.eq (M' := [(0, pt p 0), (1, .int .u64 (((x / 256 ^ i) / 256 : Nat) : Int)), (14, .int .i64 4), (15, .int .i64 ((i + 1 : Nat) : Int))]) (by rw [e44]) ?_
    clear e44
    have H45 : Hp w S [.blk p [.slice A35 ((n + i) + 1) c36] 57, .row A35 ((n + i) + 1) c36 5 1 (by8 ((bs ++ putB x i) ++ ([(UInt8.ofNat (x / 256 ^ i))] : List UInt8)))] w40 := H42.sub (List.Sublist.cons_cons _ (List.Sublist.cons_cons _ (List.Sublist.cons _ (List.Sublist.slnil))))
    have H46 : Hp w S [.blk p [.slice A35 (n + (i + 1)) c36] 57, .row A35 (n + (i + 1)) c36 5 1 (by8 (bs ++ putB x (i + 1)))] w40 := by rw [putB_snoc, ← List.append_assoc]; exact H45
    refine GL.fit (ts := [0, 1, 14, 15]) (M' := [(0, pt p 0), (1, .int .u64 (((x / 256 ^ i) / 256 : Nat) : Int)), (14, .int .i64 4), (15, .int .i64 ((i + 1 : Nat) : Int))]) (by kernel_rfl) ?_
    refine GL.eq (M' := [(0, pt p 0), (1, .int .u64 ((x / 256 ^ (i + 1) : Nat) : Int)), (14, .int .i64 4), (15, .int .i64 (((i + 1) : Nat) : Int))]) (by rw [Nat.pow_succ, ← Nat.div_div_eq_div_mul]) ?_
    exact GL.again ⟨(i + 1), A35, c36⟩ [0, 1, 14, 15] rfl (by kernel_rfl) (by show 4 - (i + 1) < 4 - i; omega) ⟨by omega, H46⟩
theorem WBytes_calls (S : List Nat) (p : Nat) (A : Option Addr) (n c : Nat) (bs : List UInt8) (w : World) (h0 : Hp w S [.blk p [.slice A n c] 57, .row A n c 5 1 (by8 bs)] w) (hn : n ≤ 1000000) : Calls Try.prog 24 #[pt p 0] w fun e w' => ∃ B b, e = .returned (.slice B n b) ∧ Hp w S [.blk p [.slice A n c] 57, .row A n c 5 1 (by8 bs), .row B n b 5 1 (by8 bs)] w' := by
  refine calls_G (args := [pt p 0]) Try.func24 rfl Try.ntmps24 rfl ?_
  intro Q0 hRet hNor hPan
  have H := h0
  have H : Hp w S [.blk p [.slice A n c] 57, .row A n c 5 1 (by8 bs)] w := H
  refine G.seqK fun K1 hK2 => ?_
  refine G.region ?_
  refine GL.run (j := 1) 1 [0] [(0, pt p 0)] (by kernel_rfl) rfl ?_
  refine GL.k rfl hK2 (fun _ _ h => h) ?_
  refine G.seqK fun K3 hK4 => ?_
  refine G.seqK fun K5 hK6 => ?_
  refine G.region ?_
  refine GL.run (j := 2) 2 [0, 4] [(0, pt p 0), (4, .bool false)] (by kernel_rfl) rfl ?_
  refine GL.k rfl hK6 (fun _ _ h => h) ?_
  refine G.no rfl ?_
  refine G.skipK hK4 (fun _ _ h => h) ?_
  refine G.seqK fun K7 hK8 => ?_
  refine G.region ?_
  refine GL.run (j := 3) 3 [7] [(7, pt p 0)] (by kernel_rfl) rfl ?_
  refine GL.sem (j := 4) (H.ld (o := 0) (ty := 28) (v := .slice A n c) 0 rfl (by kernel_rfl) rfl) [8] [(8, .slice A n c)] (by kernel_rfl) (by kernel_rfl) rfl ?_
  have hl14 := (H.rowLe 1 rfl).2.1
  rw [by8_length, Nat.mul_one] at hl14
  refine GL.call (j := 5) (Clone_calls bs A n c w (H.rdRow 1 rfl) (by omega) (by omega)) (by kernel_rfl) rfl (fun e_ w13 hR => ?_)
  obtain ⟨A9, c10, rfl, H12⟩ := hR
  have H11 : Hp w S [.blk p [.slice A n c] 57, .row A n c 5 1 (by8 bs), .row A9 n c10 5 1 (by8 bs)] w13 := H.callNew H12
  refine ⟨_, rfl, [9], [(9, .slice A9 n c10)], by kernel_rfl, ?_⟩
  refine GL.run (j := 6) 1 [2] [(2, .slice A9 n c10)] (by kernel_rfl) rfl ?_
  refine GL.k rfl hK8 (fun _ _ h => h) ?_
  refine G.ret ?_
  intro F_ hF_ hM_
  refine hRet _ _ (bodyPost_1 rfl (RV.tmp rfl) ?_ F_ hF_ hM_)
  exact ⟨_, _, rfl, H11⟩
theorem WRaw_calls (S : List Nat) (p : Nat) (A : Option Addr) (n c : Nat) (bs : List UInt8) (B : Option Addr) (m d : Nat) (ys : List UInt8) (w : World) (h0 : Hp w S [.blk p [.slice A n c] 57, .row A n c 5 1 (by8 bs)] w) (hn : n ≤ 1000000) (hx : RdO w S B (by8 ys)) (hm : m = ys.length) (hmb : m ≤ 100000) : Calls Try.prog 23 #[pt p 0, .slice B m d] w fun e w' => ∃ A c, e = .returned (.tuple #[]) ∧ Hp w S [.blk p [.slice A (n + m) c] 57, .row A (n + m) c 5 1 (by8 (bs ++ ys))] w' := by
  refine calls_G (args := [pt p 0, .slice B m d]) Try.func23 rfl Try.ntmps23 rfl ?_
  intro Q0 hRet hNor hPan
  have H := h0
  have H : Hp w S [.blk p [.slice A n c] 57, .row A n c 5 1 (by8 bs)] w := H
  refine G.seqK fun K1 hK2 => ?_
  refine G.region ?_
  refine GL.run (j := 2) 2 [0, 1, 5] [(0, pt p 0), (1, .slice B m d), (5, .bool true)] (by kernel_rfl) rfl ?_
  refine GL.k rfl hK2 (fun _ _ h => h) ?_
  refine G.yes rfl ?_
  refine G.region ?_
  refine GL.run (j := 4) 4 [1, 6, 9] [(1, .slice B m d), (6, pt p 0), (9, pt p 0)] (by kernel_rfl) rfl ?_
  refine GL.sem (j := 5) (H.ld (o := 0) (ty := 28) (v := .slice A n c) 0 rfl (by kernel_rfl) rfl) [1, 6, 10] [(1, .slice B m d), (6, pt p 0), (10, .slice A n c)] (by kernel_rfl) (by kernel_rfl) rfl ?_
  refine GL.run (j := 6) 1 [6, 10, 11] [(6, pt p 0), (10, .slice A n c), (11, .slice B m d)] (by kernel_rfl) rfl ?_
  obtain ⟨A3, c4, w5, r6, H7⟩ := H.append (P := Try.prog) (e := 5) (sz := 1) (by_ := 1) (n := n) (c := c) (m := m) (d := d) (t := 28) (ty := 28) (xs := by8 bs) (news := by8 ys) 1 rfl (by kernel_rfl) (hx.hp H) (by first | (simp [by8_length]; done) | (rw [by8_length]; omega) | (rw [by8_length, putB_length])) (by8_one _) (by omega) (by simp only [maxLen]; omega)
  rw [← by8_append] at H7
  have H7 : Hp w S [.blk p [.slice A n c] 57, .row A3 (n + m) c4 5 1 (by8 (bs ++ ys))] w5 := H7
  refine GL.sem (j := 7) (r6) [6, 12] [(6, pt p 0), (12, .slice A3 (n + m) c4)] (by kernel_rfl) (by kernel_rfl) rfl ?_
  refine GL.run (j := 9) 2 [12, 14] [(12, .slice A3 (n + m) c4), (14, pt p 0)] (by kernel_rfl) rfl ?_
  obtain ⟨w8, r9, H10⟩ := H7.st (P := Try.prog) (o := 0) (ty := 28) (v := .slice A3 (n + m) c4) 0 rfl (by kernel_rfl) (by simp) rfl
  have H10 : Hp w S [.blk p [.slice A3 (n + m) c4] 57, .row A3 (n + m) c4 5 1 (by8 (bs ++ ys))] w8 := H10
  refine GL.semU (j := 10) r9 [] [] (by kernel_rfl) rfl rfl rfl ?_
  refine GL.done rfl ?_
  intro F_ hF_ hM_
  refine hNor _ _ (bodyPost_0 rfl  ?_ F_ hF_ hM_)
  exact ⟨_, _, rfl, H10⟩
end Go.Proofs.Ytdepaaphgfapjaa
namespace Go.Proofs.Ytdepaaphgfapjaa
open Go.RowKit
section
variable {P : Program} {w0 w : World} {S : List Nat} {L : List Ent}
theorem Hp.copyBlk (H : Hp w0 S L w) (i : Nat) {A : Option Addr} {b o n c m d t t2 ty e0 : Nat} {cs : List Value} {ys : List UInt8} (hL : L[i]? = some (.blk b cs e0)) (ht : slcOf P t = some 1) (hx : RdS w A (by8 ys)) (hm : ys.length = m) (hmn : m ≤ n) (hfit : o + m ≤ cs.length) :
    ∃ w', (Builtin.copy_ #[t, t2] ty #[.slice (some ⟨b, o, none⟩) n c, .slice A m d]).run P w = .ok (goInt m) w' ∧ Hp w0 S (L.set i (.blk b (cs.take o ++ by8 ys ++ cs.drop (o + m)) e0)) w' := by
  obtain ⟨e, hu, hs⟩ := slcOf_spec ht
  obtain ⟨w', hr, H'⟩ := Hp.stCells (P := P) i (b := b) (t := e0) o (by8 ys) 0 L w cs H hL (by rw [by8_length]; omega) (by8_one ys)
  rw [by8_length, hm, Nat.add_zero] at H'
  have hmin : Nat.min m n = m := Nat.min_eq_left hmn
  refine ⟨w', ?_, H'⟩
  rcases hx with h0 | ⟨a, hA, _, hc⟩
  · have hy : ys = [] := List.eq_nil_of_length_eq_zero (by rw [← by8_length, h0]; rfl)
    subst hy
    have hm0 : m = 0 := hm.symm
    subst hm0
    cases A with
    | none =>
      have hr0 : (storeCells ⟨b, o, none⟩ [] 0).run P w = .ok () w' := hr
      simp [Builtin.copy_, run_underlying hu, Builtin.lenOf, Builtin.firstCells, hs, hr0]
    | some a =>
      have hl := run_loadCells_list (P := P) w a [] (fun j v h => by simp at h)
      have hr0 : (storeCells ⟨b, o, none⟩ [] 0).run P w = .ok () w' := hr
      simp at hl
      simp [Builtin.copy_, run_underlying hu, Builtin.lenOf, Builtin.firstCells, hs, hl, hr0]
  · subst hA
    have hl := run_loadCells_list (P := P) w a (by8 ys) hc
    rw [by8_length, hm] at hl
    simp [Builtin.copy_, run_underlying hu, Builtin.lenOf, Builtin.firstCells, hs, hmin, hl, hr]
theorem copied_whole {cs : List Value} {ys : List UInt8} (h : cs.length = ys.length) : cs.take 0 ++ by8 ys ++ cs.drop (0 + ys.length) = by8 ys := by
  rw [List.take_zero, List.nil_append, List.drop_eq_nil_of_le (by omega), List.append_nil]
theorem copied_none {cs : List Value} (o : Nat) : cs.take o ++ by8 [] ++ cs.drop (o + 0) = cs := by
  show cs.take o ++ [] ++ _ = _
  rw [List.append_nil, Nat.add_zero, List.take_append_drop]
end
end Go.Proofs.Ytdepaaphgfapjaa
namespace Go.Proofs.Ytdepaaphgfapjaa
open Go.RowKit
section
variable {wr z : Bool} {rest q v : List UInt8} {n : Nat}
theorem rV_or (wr : Bool) (rest : List UInt8) (n : Nat) : (rV wr rest n).length = n ∨ (rV wr rest n).length = 0 := by
  rcases rOK_cases wr rest n with ⟨h1, h2, h3⟩ | ⟨_, h2, _⟩
  · left
    unfold rV
    rw [if_pos h1, List.length_take]
    omega
  · right
    rw [h2]
    rfl
theorem rd_back (hz : z = (!(rOK wr rest n))) (hq : q = rR wr rest n) (hv : v = rV wr rest n) (h : z = false) : wr = false ∧ n ≤ rest.length ∧ q = rest.drop n ∧ v = rest.take n := by
  rcases rOK_cases wr rest n with ⟨h1, h2, h3⟩ | ⟨h1, _, _⟩
  · subst h2
    obtain ⟨_, o2, o3⟩ := rOK_true (rest := rest) (n := n) h3
    exact ⟨rfl, h3, hq.trans o3, hv.trans o2⟩
  · rw [hz, h1] at h
    cases h
theorem rd_on (hz : z = (!(rOK wr rest n))) (hq : q = rR wr rest n) (hv : v = rV wr rest n) (h : wr = false) (hn : n ≤ rest.length) : z = false ∧ q = rest.drop n ∧ v = rest.take n := by
  subst h
  obtain ⟨o1, o2, o3⟩ := rOK_true (rest := rest) (n := n) hn
  exact ⟨by rw [hz, o1]; rfl, hq.trans o3, hv.trans o2⟩
end
def endB (z : Bool) (q : List UInt8) : Bool := !z && (q.length == 0)
theorem endB_true {z : Bool} {q : List UInt8} (h : endB z q = true) : z = false ∧ q.length = 0 := by
  unfold endB at h
  rw [Bool.and_eq_true, Bool.not_eq_true', beq_iff_eq] at h
  exact h
theorem endB_false {z : Bool} {q : List UInt8} (h : endB z q = false) (hz : z = false) (hq : q.length = 0) : False := by
  subst hz
  unfold endB at h
  rw [hq] at h
  cases h
def hsh (ys : List UInt8) : List UInt8 := if ys.length = 32 then ys else List.replicate 32 0
theorem hsh_length (ys : List UInt8) : (hsh ys).length = 32 := by
  unfold hsh
  split
  · assumption
  · rfl
theorem hsh_of {ys : List UInt8} (h : ys.length = 32) : hsh ys = ys := if_pos h
theorem hsh_copied {ys : List UInt8} (h : ys.length = 32 ∨ ys.length = 0) : (by8 (List.replicate 32 0)).take 0 ++ by8 ys ++ (by8 (List.replicate 32 0)).drop (0 + ys.length) = by8 (hsh ys) := by
  rcases h with h | h
  · rw [copied_whole (by rw [by8_length, h]; rfl), hsh_of h]
  · obtain rfl := List.eq_nil_of_length_eq_zero h
    rw [List.length_nil, copied_none]
    rfl
end Go.Proofs.Ytdepaaphgfapjaa
namespace Go.Proofs.Ytdepaaphgfapjaa
open Go.RowKit
theorem Read_calls (xs : List UInt8) (A : Option Addr) (n c : Nat) (w : World) (hx : RdS w A (by8 xs)) (hn : n = xs.length) (hb : n ≤ 1000000) : Calls Try.prog 36 #[.slice A n c] w fun e w' => ∃ p R C, e = .returned (.pointer (some ⟨p, 0, none⟩)) ∧ Hp w [] [.row R n C 5 1 (by8 xs), .blk p [.slice R n C, .bool false] 95] w' := by
  refine calls_G (args := [.slice A n c]) Try.func36 rfl Try.ntmps36 rfl ?_
  intro Q0 hRet hNor hPan
  have H := Hp.start w
  have H : Hp w [] [] w := H
  refine G.seqK fun K1 hK2 => ?_
  refine G.region ?_
  refine GL.run (j := 1) 1 [0] [(0, .slice A n c)] (by kernel_rfl) rfl ?_
  refine GL.k rfl hK2 (fun _ _ h => h) ?_
  refine G.seqK fun K3 hK4 => ?_
  refine G.region ?_
  refine GL.run (j := 1) 1 [3] [(3, .slice A n c)] (by kernel_rfl) rfl ?_
  refine GL.call (j := 2) (Clone_calls xs A n c w (hx.hp H) (by omega) (by omega)) (by kernel_rfl) rfl (fun e_ w9 hR => ?_)
  obtain ⟨A5, c6, rfl, H8⟩ := hR
  have H7 : Hp w [] [.row A5 n c6 5 1 (by8 xs)] w9 := H.callNew H8
  refine ⟨_, rfl, [4], [(4, .slice A5 n c6)], by kernel_rfl, ?_⟩
  refine GL.run (j := 3) 1 [5] [(5, .agg #[.slice A5 n c6, .bool false])] (by kernel_rfl) rfl ?_
  obtain ⟨p10, w11, r12, H13⟩ := H7.box (P := Try.prog) 95 [.slice A5 n c6, .bool false] (.agg #[.slice A5 n c6, .bool false]) rfl
  have H13 : Hp w [] [.row A5 n c6 5 1 (by8 xs), .blk p10 [.slice A5 n c6, .bool false] 95] w11 := H13
  refine GL.sem (j := 4) (r12) [6] [(6, pt p10 0)] (by kernel_rfl) (by kernel_rfl) rfl ?_
  refine GL.run (j := 5) 1 [2] [(2, pt p10 0)] (by kernel_rfl) rfl ?_
  refine GL.k rfl hK4 (fun _ _ h => h) ?_
  refine G.ret ?_
  intro F_ hF_ hM_
  refine hRet _ _ (bodyPost_1 rfl (RV.tmp rfl) ?_ F_ hF_ hM_)
  exact ⟨_, _, _, rfl, H13⟩
theorem Wrong_calls (S : List Nat) (p : Nat) (A : Option Addr) (k cap : Nat) (wr : Bool) (R : Option Addr) (N C : Nat) (whole : List UInt8) (w : World) (h0 : Hp w S [.blk p [.slice A k cap, .bool wr] 95, .row R N C 5 1 (by8 whole)] w) : Calls Try.prog 56 #[pt p 0] w fun e w' => e = .returned (.bool wr) ∧ Hp w S [.blk p [.slice A k cap, .bool wr] 95, .row R N C 5 1 (by8 whole)] w' := by
  refine calls_G (args := [pt p 0]) Try.func56 rfl Try.ntmps56 rfl ?_
  intro Q0 hRet hNor hPan
  have H := h0
  have H : Hp w S [.blk p [.slice A k cap, .bool wr] 95, .row R N C 5 1 (by8 whole)] w := H
  refine G.seqK fun K1 hK2 => ?_
  refine G.region ?_
  refine GL.run (j := 1) 1 [0] [(0, pt p 0)] (by kernel_rfl) rfl ?_
  refine GL.k rfl hK2 (fun _ _ h => h) ?_
  refine G.seqK fun K3 hK4 => ?_
  refine G.region ?_
  refine GL.run (j := 6) 6 [5, 8] [(5, .bool false), (8, pt p 1)] (by kernel_rfl) rfl ?_
  refine GL.sem (j := 7) (H.ld (o := 1) (ty := 4) (v := .bool wr) 0 rfl (by kernel_rfl) rfl) [5, 9] [(5, .bool false), (9, .bool wr)] (by kernel_rfl) (by kernel_rfl) rfl ?_
  refine GL.run (j := 9) 2 [2] [(2, .bool wr)] (by kernel_rfl) rfl ?_
  refine GL.k rfl hK4 (fun _ _ h => h) ?_
  refine G.ret ?_
  intro F_ hF_ hM_
  refine hRet _ _ (bodyPost_1 rfl (RV.tmp rfl) ?_ F_ hF_ hM_)
  exact ⟨rfl, H⟩
theorem Fail_calls (S : List Nat) (p : Nat) (A : Option Addr) (k cap : Nat) (wr : Bool) (R : Option Addr) (N C : Nat) (whole : List UInt8) (w : World) (h0 : Hp w S [.blk p [.slice A k cap, .bool wr] 95, .row R N C 5 1 (by8 whole)] w) : Calls Try.prog 55 #[pt p 0] w fun e w' => e = .returned (.tuple #[]) ∧ Hp w S [.blk p [.slice none 0 0, .bool true] 95, .row R N C 5 1 (by8 whole)] w' := by
  refine calls_G (args := [pt p 0]) Try.func55 rfl Try.ntmps55 rfl ?_
  intro Q0 hRet hNor hPan
  have H := h0
  have H : Hp w S [.blk p [.slice A k cap, .bool wr] 95, .row R N C 5 1 (by8 whole)] w := H
  refine G.seqK fun K1 hK2 => ?_
  refine G.region ?_
  refine GL.run (j := 2) 2 [0, 3] [(0, pt p 0), (3, .bool true)] (by kernel_rfl) rfl ?_
  refine GL.k rfl hK2 (fun _ _ h => h) ?_
  refine G.yes rfl ?_
  refine G.region ?_
  refine GL.run (j := 4) 4 [5, 7] [(5, pt p 0), (7, pt p 1)] (by kernel_rfl) rfl ?_
  obtain ⟨w3, r4, H5⟩ := H.st (P := Try.prog) (o := 1) (ty := 4) (v := .bool true) 0 rfl (by kernel_rfl) (by simp) rfl
  have H5 : Hp w S [.blk p [.slice A k cap, .bool true] 95, .row R N C 5 1 (by8 whole)] w3 := H5
  refine GL.semU (j := 5) r4 [5] [(5, pt p 0)] (by kernel_rfl) rfl rfl rfl ?_
  refine GL.run (j := 7) 2 [9] [(9, pt p 0)] (by kernel_rfl) rfl ?_
  obtain ⟨w6, r7, H8⟩ := H5.st (P := Try.prog) (o := 0) (ty := 28) (v := .slice none 0 0) 0 rfl (by kernel_rfl) (by simp) rfl
  have H8 : Hp w S [.blk p [.slice none 0 0, .bool true] 95, .row R N C 5 1 (by8 whole)] w6 := H8
  refine GL.semU (j := 8) r7 [] [] (by kernel_rfl) rfl rfl rfl ?_
  refine GL.done rfl ?_
  intro F_ hF_ hM_
  refine hNor _ _ (bodyPost_0 rfl  ?_ F_ hF_ hM_)
  exact ⟨rfl, H8⟩
theorem Raw_calls (S : List Nat) (p : Nat) (A : Option Addr) (k cap : Nat) (wr : Bool) (R : Option Addr) (N C : Nat) (whole rest : List UInt8) (n : Nat) (w : World) (h0 : Hp w S [.blk p [.slice A k cap, .bool wr] 95, .row R N C 5 1 (by8 whole)] w) (hcut : Cut R whole A rest) (hk : k = rest.length) (hcap : k ≤ cap) (hN : k ≤ 1000000) : Calls Try.prog 39 #[pt p 0, .int .i64 (n : Int)] w fun e w' => ∃ B b D d, e = .returned (.slice D (rV wr rest n).length d) ∧ Hp w S [.blk p [.slice B (rR wr rest n).length b, .bool (!(rOK wr rest n))] 95, .row R N C 5 1 (by8 whole), .row D (rV wr rest n).length d 5 1 (by8 (rV wr rest n))] w' ∧ Cut R whole B (rR wr rest n) ∧ (rR wr rest n).length ≤ b := by
  refine calls_G (args := [pt p 0, .int .i64 (n : Int)]) Try.func39 rfl Try.ntmps39 rfl ?_
  intro Q0 hRet hNor hPan
  have H := h0
  have H : Hp w S [.blk p [.slice A k cap, .bool wr] 95, .row R N C 5 1 (by8 whole)] w := H
  refine G.seqK fun K1 hK2 => ?_
  refine G.region ?_
  refine GL.run (j := 1) 1 [0, 1] [(0, pt p 0), (1, .int .i64 (n : Int))] (by kernel_rfl) rfl ?_
  refine GL.k rfl hK2 (fun _ _ h => h) ?_
  refine G.seqK fun K3 hK4 => ?_
  refine G.seqK fun K5 hK6 => ?_
  refine G.region ?_
  refine GL.run (j := 1) 1 [0, 1, 6] [(0, pt p 0), (1, .int .i64 (n : Int)), (6, pt p 0)] (by kernel_rfl) rfl ?_
  refine GL.call (j := 2) (Wrong_calls (ids [.blk p [.slice A k cap, .bool wr] 95, .row R N C 5 1 (by8 whole)]) p A k cap wr R N C whole w (Hp.startL (A := [.blk p [.slice A k cap, .bool wr] 95, .row R N C 5 1 (by8 whole)]) (B := []) H)) (by kernel_rfl) rfl (fun e_ w7 hR => ?_)
  obtain ⟨rfl, H9⟩ := hR
  have H8 : Hp w S [.blk p [.slice A k cap, .bool wr] 95, .row R N C 5 1 (by8 whole)] w7 := Hp.callL (A := [.blk p [.slice A k cap, .bool wr] 95, .row R N C 5 1 (by8 whole)]) (B := []) H H9
  refine ⟨_, rfl, [0, 1, 7], [(0, pt p 0), (1, .int .i64 (n : Int)), (7, .bool wr)], by kernel_rfl, ?_⟩
  refine GL.run (j := 3) 1 [0, 1, 8] [(0, pt p 0), (1, .int .i64 (n : Int)), (8, .bool wr)] (by kernel_rfl) rfl ?_
  rcases (Bool.eq_false_or_eq_true wr).symm with hb10 | hb10
  · skip
    refine GL.eq (M' := [(0, pt p 0), (1, .int .i64 (n : Int)), (8, .bool false)]) (by first | (rw [hb10]; done) | (rw [hb10]; rfl)) ?_
    have hwrF : wr = false := hb10
    refine GL.run (j := 7) 4 [0, 1, 12] [(0, pt p 0), (1, .int .i64 (n : Int)), (12, .bool (decide ((n : Int) < 0)))] (by kernel_rfl) rfl ?_
    have hb11 : (decide ((n : Int) < 0)) = false := decide_eq_false (by omega)
    rw [hb11]
    refine GL.run (j := 11) 4 [0, 1, 12, 13, 16] [(0, pt p 0), (1, .int .i64 (n : Int)), (12, .bool false), (13, .int .i64 (n : Int)), (16, pt p 0)] (by kernel_rfl) rfl ?_
    refine GL.sem (j := 12) (H8.ld (o := 0) (ty := 28) (v := .slice A k cap) 0 rfl (by kernel_rfl) rfl) [0, 1, 12, 13, 17] [(0, pt p 0), (1, .int .i64 (n : Int)), (12, .bool false), (13, .int .i64 (n : Int)), (17, .slice A k cap)] (by kernel_rfl) (by kernel_rfl) rfl ?_
    refine GL.run (j := 15) 3 [0, 1, 20] [(0, pt p 0), (1, .int .i64 (n : Int)), (20, .bool (decide ((k : Int) < (n : Int))))] (by kernel_rfl) rfl ?_
    refine GL.k rfl hK6 (fun _ _ h => h) ?_
    cases hb12 : (decide ((k : Int) < (n : Int)))
    · skip
      have hb12f := of_decide_eq_false hb12
      refine G.no rfl ?_
      refine G.skipK hK4 (fun _ _ h => h) ?_
      refine G.seqK fun K13 hK14 => ?_
      refine G.region ?_
      refine GL.run (j := 3) 3 [0, 1, 25] [(0, pt p 0), (1, .int .i64 (n : Int)), (25, pt p 0)] (by kernel_rfl) rfl ?_
      refine GL.sem (j := 4) (H8.ld (o := 0) (ty := 28) (v := .slice A k cap) 0 rfl (by kernel_rfl) rfl) [0, 1, 26] [(0, pt p 0), (1, .int .i64 (n : Int)), (26, .slice A k cap)] (by kernel_rfl) (by kernel_rfl) rfl ?_
      refine GL.run (j := 5) 1 [0, 1, 26, 27] [(0, pt p 0), (1, .int .i64 (n : Int)), (26, .slice A k cap), (27, .int .i64 (n : Int))] (by kernel_rfl) rfl ?_
      refine GL.sem (j := 6) (run_sliceSl0 (P := Try.prog) (lo := none) (hi := some (.int .i64 (n : Int))) (t := 28) (len := k) (cap := cap) (A := A) (h := n) (by kernel_rfl) (Or.inl ⟨rfl, rfl⟩) (Or.inr ⟨_, _, rfl, rfl⟩) (by omega)) [0, 1, 28] [(0, pt p 0), (1, .int .i64 (n : Int)), (28, .slice A n cap)] (by kernel_rfl) (by kernel_rfl) rfl ?_
      refine GL.call (j := 7) (Clone_calls (rest.take n) A n cap w7 (RdS.take8 (hcut _ (H8.rdRow 1 rfl)) n (cs := (rest.take n)) rfl) (by rw [List.length_take]; omega) (by omega)) (by kernel_rfl) rfl (fun e_ w19 hR => ?_)
      obtain ⟨A15, c16, rfl, H18⟩ := hR
      have H17 : Hp w S [.blk p [.slice A k cap, .bool wr] 95, .row R N C 5 1 (by8 whole), .row A15 n c16 5 1 (by8 (rest.take n))] w19 := H8.callNew H18
      refine ⟨_, rfl, [0, 1, 29], [(0, pt p 0), (1, .int .i64 (n : Int)), (29, .slice A15 n c16)], by kernel_rfl, ?_⟩
      refine GL.run (j := 8) 1 [0, 1, 5] [(0, pt p 0), (1, .int .i64 (n : Int)), (5, .slice A15 n c16)] (by kernel_rfl) rfl ?_
      refine GL.k rfl hK14 (fun _ _ h => h) ?_
      refine G.seqK fun K20 hK21 => ?_
      refine G.region ?_
      refine GL.run (j := 4) 4 [1, 5, 30, 33] [(1, .int .i64 (n : Int)), (5, .slice A15 n c16), (30, pt p 0), (33, pt p 0)] (by kernel_rfl) rfl ?_
      refine GL.sem (j := 5) (H17.ld (o := 0) (ty := 28) (v := .slice A k cap) 0 rfl (by kernel_rfl) rfl) [1, 5, 30, 34] [(1, .int .i64 (n : Int)), (5, .slice A15 n c16), (30, pt p 0), (34, .slice A k cap)] (by kernel_rfl) (by kernel_rfl) rfl ?_
      refine GL.run (j := 6) 1 [5, 30, 34, 35] [(5, .slice A15 n c16), (30, pt p 0), (34, .slice A k cap), (35, .int .i64 (n : Int))] (by kernel_rfl) rfl ?_
      refine GL.sem (j := 7) (run_sliceSl (P := Try.prog) (lo := some (.int .i64 (n : Int))) (hi := none) (t := 28) (len := k) (cap := cap) (A := A) (l := n) (h := k) (by kernel_rfl) (Or.inr ⟨_, _, rfl, rfl⟩) (Or.inl ⟨rfl, rfl⟩) (by omega) (by omega)) [5, 30, 36] [(5, .slice A15 n c16), (30, pt p 0), (36, .slice (if cap = n then A else Option.map (fun x => Addr.add x n) A) (k - n) (cap - n))] (by kernel_rfl) (by kernel_rfl) rfl ?_
      refine GL.run (j := 9) 2 [5, 36, 38] [(5, .slice A15 n c16), (36, .slice (if cap = n then A else Option.map (fun x => Addr.add x n) A) (k - n) (cap - n)), (38, pt p 0)] (by kernel_rfl) rfl ?_
      obtain ⟨w22, r23, H24⟩ := H17.st (P := Try.prog) (o := 0) (ty := 28) (v := .slice (if cap = n then A else Option.map (fun x => Addr.add x n) A) (k - n) (cap - n)) 0 rfl (by kernel_rfl) (by simp) rfl
      have H24 : Hp w S [.blk p [.slice (if cap = n then A else Option.map (fun x => Addr.add x n) A) (k - n) (cap - n), .bool wr] 95, .row R N C 5 1 (by8 whole), .row A15 n c16 5 1 (by8 (rest.take n))] w22 := H24
      refine GL.semU (j := 10) r23 [5] [(5, .slice A15 n c16)] (by kernel_rfl) rfl rfl rfl ?_
      refine GL.k rfl hK21 (fun _ _ h => h) ?_
      refine G.seqK fun K25 hK26 => ?_
      refine G.region ?_
      refine GL.run (j := 2) 2 [4] [(4, .slice A15 n c16)] (by kernel_rfl) rfl ?_
      refine GL.k rfl hK26 (fun _ _ h => h) ?_
      refine G.ret ?_
      intro F_ hF_ hM_
      refine hRet _ _ (bodyPost_1 rfl (RV.tmp rfl) ?_ F_ hF_ hM_)
      have hwr : wr = false := hwrF
      subst hwr
      obtain ⟨e1, e2, e3⟩ := rOK_true (rest := rest) (n := n) (by omega)
      rw [e1, e2, e3, show (rest.take n).length = n by rw [List.length_take]; omega, show (rest.drop n).length = k - n by rw [List.length_drop]; omega]
      exact ⟨_, _, _, _, rfl, H24, hcut.drop n (by omega), by omega⟩
    · skip
      have hb12f := of_decide_eq_true hb12
      refine G.yes rfl ?_
      refine G.seqK fun K27 hK28 => ?_
      refine G.region ?_
      refine GL.run (j := 1) 1 [21] [(21, pt p 0)] (by kernel_rfl) rfl ?_
      refine GL.call (j := 2) (Fail_calls (ids [.blk p [.slice A k cap, .bool wr] 95, .row R N C 5 1 (by8 whole)]) p A k cap wr R N C whole w7 (Hp.startL (A := [.blk p [.slice A k cap, .bool wr] 95, .row R N C 5 1 (by8 whole)]) (B := []) H8)) (by kernel_rfl) rfl (fun e_ w29 hR => ?_)
      obtain ⟨rfl, H31⟩ := hR
      have H30 : Hp w S [.blk p [.slice none 0 0, .bool true] 95, .row R N C 5 1 (by8 whole)] w29 := Hp.callL (A := [.blk p [.slice A k cap, .bool wr] 95, .row R N C 5 1 (by8 whole)]) (B := []) H8 H31
      refine ⟨_, rfl, [], [], by kernel_rfl, ?_⟩
      refine GL.k rfl hK28 (fun _ _ h => h) ?_
      refine G.seqK fun K32 hK33 => ?_
      refine G.region ?_
      refine GL.run (j := 1) 1 [4] [(4, .slice none 0 0)] (by kernel_rfl) rfl ?_
      refine GL.k rfl hK33 (fun _ _ h => h) ?_
      refine G.ret ?_
      intro F_ hF_ hM_
      refine hRet _ _ (bodyPost_1 rfl (RV.tmp rfl) ?_ F_ hF_ hM_)
      obtain ⟨e1, e2, e3⟩ := rOK_false (wr := wr) (rest := rest) (n := n) (.inr (by omega))
      rw [e1, e2, e3]
      exact ⟨none, 0, none, 0, rfl, H30.rowNil 5 1, Cut.nil _ _ _, Nat.le_refl _⟩
  · skip
    refine GL.eq (M' := [(0, pt p 0), (1, .int .i64 (n : Int)), (8, .bool true)]) (by first | (rw [hb10]; done) | (rw [hb10]; rfl)) ?_
    refine GL.run (j := 15) 12 [0, 1, 20] [(0, pt p 0), (1, .int .i64 (n : Int)), (20, .bool true)] (by kernel_rfl) rfl ?_
    refine GL.k rfl hK6 (fun _ _ h => h) ?_
    refine G.yes rfl ?_
    refine G.seqK fun K34 hK35 => ?_
    refine G.region ?_
    refine GL.run (j := 1) 1 [21] [(21, pt p 0)] (by kernel_rfl) rfl ?_
    refine GL.call (j := 2) (Fail_calls (ids [.blk p [.slice A k cap, .bool wr] 95, .row R N C 5 1 (by8 whole)]) p A k cap wr R N C whole w7 (Hp.startL (A := [.blk p [.slice A k cap, .bool wr] 95, .row R N C 5 1 (by8 whole)]) (B := []) H8)) (by kernel_rfl) rfl (fun e_ w36 hR => ?_)
    obtain ⟨rfl, H38⟩ := hR
    have H37 : Hp w S [.blk p [.slice none 0 0, .bool true] 95, .row R N C 5 1 (by8 whole)] w36 := Hp.callL (A := [.blk p [.slice A k cap, .bool wr] 95, .row R N C 5 1 (by8 whole)]) (B := []) H8 H38
    refine ⟨_, rfl, [], [], by kernel_rfl, ?_⟩
    refine GL.k rfl hK35 (fun _ _ h => h) ?_
    refine G.seqK fun K39 hK40 => ?_
    refine G.region ?_
    refine GL.run (j := 1) 1 [4] [(4, .slice none 0 0)] (by kernel_rfl) rfl ?_
    refine GL.k rfl hK40 (fun _ _ h => h) ?_
    refine G.ret ?_
    intro F_ hF_ hM_
    refine hRet _ _ (bodyPost_1 rfl (RV.tmp rfl) ?_ F_ hF_ hM_)
    obtain ⟨e1, e2, e3⟩ := rOK_false (wr := wr) (rest := rest) (n := n) (.inl (by assumption))
    rw [e1, e2, e3]
    exact ⟨none, 0, none, 0, rfl, H37.rowNil 5 1, Cut.nil _ _ _, Nat.le_refl _⟩
theorem Get4_calls (S : List Nat) (p : Nat) (A : Option Addr) (k cap : Nat) (wr : Bool) (R : Option Addr) (N C : Nat) (whole rest : List UInt8) (w : World) (h0 : Hp w S [.blk p [.slice A k cap, .bool wr] 95, .row R N C 5 1 (by8 whole)] w) (hcut : Cut R whole A rest) (hk : k = rest.length) (hcap : k ≤ cap) (hN : k ≤ 1000000) : Calls Try.prog 37 #[pt p 0, .int .i64 4] w fun e w' => ∃ B b, e = .returned (.int .u64 ((getB (rV wr rest 4) : Nat) : Int)) ∧ Hp w S [.blk p [.slice B (rR wr rest 4).length b, .bool (!(rOK wr rest 4))] 95, .row R N C 5 1 (by8 whole)] w' ∧ Cut R whole B (rR wr rest 4) ∧ (rR wr rest 4).length ≤ b := by
  refine calls_R (args := [pt p 0, .int .i64 4]) Try.func37 rfl Try.ntmps37 rfl ?_
  intro Q0 hRet hNor
  have H := h0
  have H : Hp w S [.blk p [.slice A k cap, .bool wr] 95, .row R N C 5 1 (by8 whole)] w := H
  refine RG.seqK fun K1 hK2 => ?_
  refine RG.region (by kernel_rfl) ?_
  refine RL.run (j := 1) 1 [0, 1] [(0, pt p 0), (1, .int .i64 4)] (by kernel_rfl) rfl ?_
  refine RL.k rfl hK2 (fun _ _ h => h) ?_
  refine RG.seqK fun K3 hK4 => ?_
  refine RG.seqK fun K5 hK6 => ?_
  refine RG.region (by kernel_rfl) ?_
  refine RL.run (j := 14) 14 [0, 1, 21] [(0, pt p 0), (1, .int .i64 4), (21, .bool false)] (by kernel_rfl) rfl ?_
  refine RL.k rfl hK6 (fun _ _ h => h) ?_
  refine RG.no rfl ?_
  refine RG.skipK hK4 (fun _ _ h => h) ?_
  refine RG.seqK fun K7 hK8 => ?_
  refine RG.region (by kernel_rfl) ?_
  obtain ⟨p9, w10, r11, H12⟩ := H.alloc (P := Try.prog) 31 [.int .u64 0] (by kernel_rfl)
  have H12 : Hp w S [.blk p [.slice A k cap, .bool wr] 95, .row R N C 5 1 (by8 whole), .blk p9 [.int .u64 0] 31] w10 := H12
  refine RL.sem (j := 1) (r11) [0, 1, 5] [(0, pt p 0), (1, .int .i64 4), (5, pt p9 0)] (by kernel_rfl) (by kernel_rfl) rfl ?_
  refine RL.k rfl hK8 (fun _ _ h => h) ?_
  refine RG.seqK fun K13 hK14 => ?_
  refine RG.seqK fun K15 hK16 => ?_
  refine RG.region (by kernel_rfl) ?_
  refine RL.run (j := 2) 2 [5, 24, 25] [(5, pt p9 0), (24, pt p 0), (25, .int .i64 4)] (by kernel_rfl) rfl ?_
  refine RL.call (j := 3) (Raw_calls (ids [.blk p [.slice A k cap, .bool wr] 95, .row R N C 5 1 (by8 whole)]) p A k cap wr R N C whole rest 4 w10 (Hp.startL (A := [.blk p [.slice A k cap, .bool wr] 95, .row R N C 5 1 (by8 whole)]) (B := [.blk p9 [.int .u64 0] 31]) H12) hcut (hk) (hcap) (hN)) (by kernel_rfl) rfl (fun e_ w23 hR => ?_)
  obtain ⟨A17, c18, A19, c20, rfl, H25, hC21, hL22⟩ := hR
  have H24 : Hp w S [.blk p [.slice A17 ((rR wr rest 4).length) c18, .bool (!(rOK wr rest 4))] 95, .row R N C 5 1 (by8 whole), .row A19 ((rV wr rest 4).length) c20 5 1 (by8 (rV wr rest 4)), .blk p9 [.int .u64 0] 31] w23 := Hp.callL (A := [.blk p [.slice A k cap, .bool wr] 95, .row R N C 5 1 (by8 whole)]) (B := [.blk p9 [.int .u64 0] 31]) H12 H25
  refine ⟨_, rfl, [5, 26], [(5, pt p9 0), (26, .slice A19 ((rV wr rest 4).length) c20)], by kernel_rfl, ?_⟩
  refine RL.call (j := 4) (Backward_calls A19 ((rV wr rest 4).length) c20 w23) (by kernel_rfl) rfl (fun e_ w29 hR => ?_)
  obtain ⟨B26, rfl, H28⟩ := hR
  have H27 : Hp w S [.blk p [.slice A17 ((rR wr rest 4).length) c18, .bool (!(rOK wr rest 4))] 95, .row R N C 5 1 (by8 whole), .row A19 ((rV wr rest 4).length) c20 5 1 (by8 (rV wr rest 4)), .blk p9 [.int .u64 0] 31, .blk B26 [.slice A19 ((rV wr rest 4).length) c20] 28] w29 := H24.callNew H28
  refine ⟨_, rfl, [5, 27], [(5, pt p9 0), (27, .func (.func 63) #[] #[pt B26 0])], by kernel_rfl, ?_⟩
  refine RL.k rfl hK16 (fun _ _ h => h) ?_
  refine RG.block ?_
  refine RG.fit [5, 27] (M' := [(5, pt p9 0), (27, .func (.func 63) #[] #[pt B26 0])]) (by kernel_rfl) ?_
  refine RG.range H27 (gf := 63) (lb := #[pt B26 0]) rfl (enters_of Try.func63 (by kernel_rfl) rfl) (Xt := Nat) (fun k s => s = getB ((rV wr rest 4).drop ((rV wr rest 4).length - k))) (fun k s => [.blk p [.slice A17 ((rR wr rest 4).length) c18, .bool (!(rOK wr rest 4))] 95, .row R N C 5 1 (by8 whole), .row A19 ((rV wr rest 4).length) c20 5 1 (by8 (rV wr rest 4)), .blk p9 [.int .u64 (s : Int)] 31, .blk B26 [.slice A19 ((rV wr rest 4).length) c20] 28]) (fun s => False) (fun s => []) (N := (rV wr rest 4).length) (enc := fun k => #[.int .i64 (((rV wr rest 4).length - 1 - k : Nat) : Int), .int .u8 (((rV wr rest 4).getD ((rV wr rest 4).length - 1 - k) 0).toNat : Int)]) (Backward_iter (rV wr rest 4) (Nat.le_trans (show (rV wr rest 4).length ≤ 8 from (Nat.le_trans (rV_le wr rest 4) (by decide))) (by decide)) A19 c20 B26) (fun _ => rfl) 0 (by rw [Nat.sub_zero, List.drop_length]; rfl) rfl (fun k s E W hx HW => ⟨(HW.blkAt 4 rfl).cell 0, HW.rdRow 2 rfl⟩) (fun k => [(29, .int .u8 (((rV wr rest 4).getD ((rV wr rest 4).length - 1 - k) 0).toNat : Int)), (28, .int .i64 (((rV wr rest 4).length - 1 - k : Nat) : Int)), (5, pt p9 0), (27, .func (.func 63) #[] #[pt B26 0])]) (fun _ => rfl) ?_ ?_ ?_
  · skip
    rintro D33 l34 oR35 oB36 k s w30 K37 hk38 hx31 H32 hK39
    have H32 : Hp w S [.blk p [.slice A17 ((rR wr rest 4).length) c18, .bool (!(rOK wr rest 4))] 95, .row R N C 5 1 (by8 whole), .row A19 ((rV wr rest 4).length) c20 5 1 (by8 (rV wr rest 4)), .blk p9 [.int .u64 (s : Int)] 31, .blk B26 [.slice A19 ((rV wr rest 4).length) c20] 28, .obj D33 DF, .obj l34 oR35] w30 := H32
    have hs1 := hx31
    have hk9 := hk38
    have hVl : (rV wr rest 4).length ≤ 8 := (Nat.le_trans (rV_le wr rest 4) (by decide))
    have hs56 : s < 72057594037927936 := by rw [hs1]; exact acc_lt (by omega)
    have hxb := UInt8.toNat_lt ((rV wr rest 4).getD ((rV wr rest 4).length - 1 - k) 0)
    refine RG.region (by kernel_rfl) ?_
    refine RL.run (j := 1) 1 [5, 7] [(5, pt p9 0), (7, .int .u8 (((rV wr rest 4).getD ((rV wr rest 4).length - 1 - k) 0).toNat : Int))] (by kernel_rfl) rfl ?_
    refine RL.done rfl (fun F_ hF_ hM_ => hK39 F_ _ [.blk p [.slice A17 ((rR wr rest 4).length) c18, .bool (!(rOK wr rest 4))] 95, .row R N C 5 1 (by8 whole), .row A19 ((rV wr rest 4).length) c20 5 1 (by8 (rV wr rest 4)), .blk p9 [.int .u64 (s : Int)] 31, .blk B26 [.slice A19 ((rV wr rest 4).length) c20] 28] _ hF_ hM_ H32 ?_)
    intro w40 H41
    have H41 : Hp w S [.blk p [.slice A17 ((rR wr rest 4).length) c18, .bool (!(rOK wr rest 4))] 95, .row R N C 5 1 (by8 whole), .row A19 ((rV wr rest 4).length) c20 5 1 (by8 (rV wr rest 4)), .blk p9 [.int .u64 (s : Int)] 31, .blk B26 [.slice A19 ((rV wr rest 4).length) c20] 28, .obj D33 DF, .obj l34 oB36] w40 := H41
    refine RG.block ?_
    refine RG.region (by kernel_rfl) ?_
    refine RL.sem (j := 1) (H41.ld (o := 0) (ty := 31) (v := .int .u64 (s : Int)) 3 rfl (by kernel_rfl) rfl) [5, 7, 30] [(5, pt p9 0), (7, .int .u8 (((rV wr rest 4).getD ((rV wr rest 4).length - 1 - k) 0).toNat : Int)), (30, .int .u64 (s : Int))] (by kernel_rfl) (by kernel_rfl) rfl ?_
    refine RL.run (j := 5) 4 [5, 34] [(5, pt p9 0), (34, .int .u64 (Go.bits .or .u64 (IntKind.u64.wrap ((s : Int) * 2 ^ 8)) (IntKind.u64.wrap (((rV wr rest 4).getD ((rV wr rest 4).length - 1 - k) 0).toNat : Int))))] (by kernel_rfl) rfl ?_
    have e42 : (IntKind.u64.wrap ((s : Int) * 2 ^ 8)) = ((s * 2 ^ 8 : Nat) : Int) := by rw [n_shl, Nat.mod_eq_of_lt (by simp only [K]; omega)]
    have e43 : (IntKind.u64.wrap (((rV wr rest 4).getD ((rV wr rest 4).length - 1 - k) 0).toNat : Int)) = (((rV wr rest 4).getD ((rV wr rest 4).length - 1 - k) 0).toNat : Int) := u8_up_u64 _
    have e44 : (Go.bits .or .u64 ((s * 2 ^ 8 : Nat) : Int) (((rV wr rest 4).getD ((rV wr rest 4).length - 1 - k) 0).toNat : Int)) = ((((rV wr rest 4).getD ((rV wr rest 4).length - 1 - k) 0).toNat + 256 * s : Nat) : Int) := or_low hs56 hxb
    refine RL.eq (M' := [(5, pt p9 0), (34, .int .u64 ((((rV wr rest 4).getD ((rV wr rest 4).length - 1 - k) 0).toNat + 256 * s : Nat) : Int))]) (by rw [e42, e43, e44]) ?_
    clear e42 e43 e44
    obtain ⟨w45, r46, H47⟩ := H41.st (P := Try.prog) (o := 0) (ty := 31) (v := .int .u64 ((((rV wr rest 4).getD ((rV wr rest 4).length - 1 - k) 0).toNat + 256 * s : Nat) : Int)) 3 rfl (by kernel_rfl) (by simp) rfl
    have H47 : Hp w S [.blk p [.slice A17 ((rR wr rest 4).length) c18, .bool (!(rOK wr rest 4))] 95, .row R N C 5 1 (by8 whole), .row A19 ((rV wr rest 4).length) c20 5 1 (by8 (rV wr rest 4)), .blk p9 [.int .u64 ((((rV wr rest 4).getD ((rV wr rest 4).length - 1 - k) 0).toNat + 256 * s : Nat) : Int)] 31, .blk B26 [.slice A19 ((rV wr rest 4).length) c20] 28, .obj D33 DF, .obj l34 oB36] w45 := H47
    refine RL.semU (j := 6) r46 [] [] (by kernel_rfl) rfl rfl rfl ?_
    exact RL.done rfl (fun F_ hF_ hM_ => ⟨((((rV wr rest 4).getD ((rV wr rest 4).length - 1 - k) 0)).toNat + 256 * s), (by rw [hs1]; exact acc_step hk9), H47⟩)
  · skip
    rintro D51 s w48 hx49 H50
    refine RG.kk hK14 (fun _ _ h => h) ?_
    have H50 : Hp w S [.blk p [.slice A17 ((rR wr rest 4).length) c18, .bool (!(rOK wr rest 4))] 95, .row R N C 5 1 (by8 whole), .row A19 ((rV wr rest 4).length) c20 5 1 (by8 (rV wr rest 4)), .blk p9 [.int .u64 (s : Int)] 31, .blk B26 [.slice A19 ((rV wr rest 4).length) c20] 28, .obj D51 DF] w48 := H50
    rw [Nat.sub_self, List.drop_zero] at hx49
    have hs1 := hx49
    refine RG.seqK fun K52 hK53 => ?_
    refine RG.region (by kernel_rfl) ?_
    refine RL.sem (j := 1) (H50.ld (o := 0) (ty := 31) (v := .int .u64 (s : Int)) 3 rfl (by kernel_rfl) rfl) [35] [(35, .int .u64 (s : Int))] (by kernel_rfl) (by kernel_rfl) rfl ?_
    refine RL.run (j := 2) 1 [4] [(4, .int .u64 (s : Int))] (by kernel_rfl) rfl ?_
    refine RL.k rfl hK53 (fun _ _ h => h) ?_
    refine RG.ret ?_
    have hD54 := H50.objAt 5 rfl
    have H55 : Hp w S [.blk p [.slice A17 ((rR wr rest 4).length) c18, .bool (!(rOK wr rest 4))] 95, .row R N C 5 1 (by8 whole), .row A19 ((rV wr rest 4).length) c20 5 1 (by8 (rV wr rest 4)), .blk p9 [.int .u64 (s : Int)] 31, .blk B26 [.slice A19 ((rV wr rest 4).length) c20] 28, .obj D51 (.deferred none)] (World.putObj w48 D51 (.deferred none)) := H50.putObj 5 (.deferred none) rfl
    intro F_ hF_ hM_
    refine hRet _ _ (postK_1 hD54 rfl (RV.tmp rfl) ?_ F_ hF_ hM_)
    have H56 : Hp w S [.blk p [.slice A17 ((rR wr rest 4).length) c18, .bool (!(rOK wr rest 4))] 95, .row R N C 5 1 (by8 whole)] (World.putObj w48 D51 (.deferred none)) := H55.sub (List.Sublist.cons_cons _ (List.Sublist.cons_cons _ (List.Sublist.cons _ (List.Sublist.cons _ (List.Sublist.cons _ (List.Sublist.cons _ (List.Sublist.slnil)))))))
    rw [← hs1]
    exact ⟨_, _, rfl, H56, hC21, hL22⟩
  · skip
    rintro D60 s w57 hx58 H59
    exact hx58.elim
theorem End_calls (S : List Nat) (p : Nat) (A : Option Addr) (k cap : Nat) (wr : Bool) (R : Option Addr) (N C : Nat) (whole rest : List UInt8) (w : World) (h0 : Hp w S [.blk p [.slice A k cap, .bool wr] 95, .row R N C 5 1 (by8 whole)] w) (hk : k = rest.length) : Calls Try.prog 40 #[pt p 0] w fun e w' => e = .returned (.bool (!wr && (rest.length == 0))) ∧ Hp w S [.blk p [.slice A k cap, .bool wr] 95, .row R N C 5 1 (by8 whole)] w' := by
  refine calls_G (args := [pt p 0]) Try.func40 rfl Try.ntmps40 rfl ?_
  intro Q0 hRet hNor hPan
  have H := h0
  have H : Hp w S [.blk p [.slice A k cap, .bool wr] 95, .row R N C 5 1 (by8 whole)] w := H
  refine G.seqK fun K1 hK2 => ?_
  refine G.region ?_
  refine GL.run (j := 1) 1 [0] [(0, pt p 0)] (by kernel_rfl) rfl ?_
  refine GL.k rfl hK2 (fun _ _ h => h) ?_
  refine G.seqK fun K3 hK4 => ?_
  refine G.region ?_
  refine GL.run (j := 1) 1 [0, 3] [(0, pt p 0), (3, pt p 0)] (by kernel_rfl) rfl ?_
  refine GL.call (j := 2) (Wrong_calls (ids [.blk p [.slice A k cap, .bool wr] 95, .row R N C 5 1 (by8 whole)]) p A k cap wr R N C whole w (Hp.startL (A := [.blk p [.slice A k cap, .bool wr] 95, .row R N C 5 1 (by8 whole)]) (B := []) H)) (by kernel_rfl) rfl (fun e_ w5 hR => ?_)
  obtain ⟨rfl, H7⟩ := hR
  have H6 : Hp w S [.blk p [.slice A k cap, .bool wr] 95, .row R N C 5 1 (by8 whole)] w5 := Hp.callL (A := [.blk p [.slice A k cap, .bool wr] 95, .row R N C 5 1 (by8 whole)]) (B := []) H H7
  refine ⟨_, rfl, [0, 4], [(0, pt p 0), (4, .bool wr)], by kernel_rfl, ?_⟩
  refine GL.run (j := 4) 2 [0, 6] [(0, pt p 0), (6, .bool (!wr))] (by kernel_rfl) rfl ?_
  rcases (Bool.eq_false_or_eq_true wr).symm with hb8 | hb8
  · skip
    refine GL.eq (M' := [(0, pt p 0), (6, .bool true)]) (by first | (rw [hb8]; done) | (rw [hb8]; rfl)) ?_
    refine GL.run (j := 7) 3 [6, 9] [(6, .bool true), (9, pt p 0)] (by kernel_rfl) rfl ?_
    refine GL.sem (j := 8) (H6.ld (o := 0) (ty := 28) (v := .slice A k cap) 0 rfl (by kernel_rfl) rfl) [6, 10] [(6, .bool true), (10, .slice A k cap)] (by kernel_rfl) (by kernel_rfl) rfl ?_
    refine GL.run (j := 12) 4 [2] [(2, .bool ((k : Int) == 0))] (by kernel_rfl) rfl ?_
    refine GL.k rfl hK4 (fun _ _ h => h) ?_
    refine G.ret ?_
    intro F_ hF_ hM_
    refine hRet _ _ (bodyPost_1 rfl (RV.tmp rfl) ?_ F_ hF_ hM_)
    have hwr : wr = false := by assumption
    have e0 : (((k : Int) == 0) : Bool) = (!wr && (rest.length == 0)) := by
      rw [hwr]
      show _ = (rest.length == 0)
      rw [Bool.eq_iff_iff]
      simp only [beq_iff_eq]
      omega
    rw [e0]
    exact ⟨rfl, H6⟩
  · skip
    refine GL.eq (M' := [(0, pt p 0), (6, .bool false)]) (by first | (rw [hb8]; done) | (rw [hb8]; rfl)) ?_
    refine GL.run (j := 12) 8 [2] [(2, .bool false)] (by kernel_rfl) rfl ?_
    refine GL.k rfl hK4 (fun _ _ h => h) ?_
    refine G.ret ?_
    intro F_ hF_ hM_
    refine hRet _ _ (bodyPost_1 rfl (RV.tmp rfl) ?_ F_ hF_ hM_)
    have hwr : wr = true := by assumption
    have e0 : (false : Bool) = (!wr && (rest.length == 0)) := by
      rw [hwr]
      rfl
    rw [e0]
    exact ⟨rfl, H6⟩
end Go.Proofs.Ytdepaaphgfapjaa
namespace Go.Proofs.Ytdepaaphgfapjaa
open Go.RowKit
def hdC (v : Nat) (A R : List UInt8) (t b n : Nat) : List Value := .int .u32 (v : Int) :: (by8 A ++ (by8 R ++ [.int .u32 (t : Int), .int .u32 (b : Int), .int .u32 (n : Int)]))
def hdB (v : Nat) (A R : List UInt8) (t b n : Nat) : List UInt8 := putB v 4 ++ A ++ R ++ putB t 4 ++ putB b 4 ++ putB n 4
section
variable {v t b n : Nat} {A R : List UInt8}
theorem hdC_length (hA : A.length = 32) (hR : R.length = 32) : (hdC v A R t b n).length = 68 := by simp [hdC, by8_length, hA, hR]
theorem hdB_length (hA : A.length = 32) (hR : R.length = 32) : (hdB v A R t b n).length = 80 := by simp [hdB, putB_length, hA, hR]
theorem hdC_tail (hA : A.length = 32) (hR : R.length = 32) (i : Nat) : (hdC v A R t b n)[65 + i]? = ([.int .u32 (t : Int), .int .u32 (b : Int), .int .u32 (n : Int)] : List Value)[i]? := by
  rw [hdC, show 65 + i = (32 + (32 + i)) + 1 by omega, List.getElem?_cons_succ, List.getElem?_append_right (by rw [by8_length]; omega), List.getElem?_append_right (by rw [by8_length, by8_length]; omega), by8_length, by8_length, hA, hR]
  congr 1
  omega
theorem hdC_t (hA : A.length = 32) (hR : R.length = 32) : (hdC v A R t b n)[65]? = some (.int .u32 (t : Int)) := hdC_tail hA hR 0
theorem hdC_b (hA : A.length = 32) (hR : R.length = 32) : (hdC v A R t b n)[66]? = some (.int .u32 (b : Int)) := hdC_tail hA hR 1
theorem hdC_n (hA : A.length = 32) (hR : R.length = 32) : (hdC v A R t b n)[67]? = some (.int .u32 (n : Int)) := hdC_tail hA hR 2
theorem hdC_A (hA : A.length = 32) : ((hdC v A R t b n).drop 1).take 32 = by8 A := by
  show (by8 A ++ _).take 32 = _
  exact List.take_left' (by rw [by8_length, hA])
theorem hdC_R (hA : A.length = 32) (hR : R.length = 32) : ((hdC v A R t b n).drop 33).take 32 = by8 R := by
  show ((by8 A ++ _).drop 32).take 32 = _
  rw [List.drop_left' (by rw [by8_length, hA])]
  exact List.take_left' (by rw [by8_length, hR])
theorem hdC_one : ∀ q ∈ hdC v A R t b n, q.oneCell' = true := by
  intro q hq
  simp only [hdC, List.mem_cons, List.mem_append, List.not_mem_nil, or_false] at hq
  rcases hq with rfl | h | h | rfl | rfl | rfl
  · rfl
  · exact by8_one _ q h
  · exact by8_one _ q h
  · rfl
  · rfl
  · rfl
end
theorem HBytes_calls (v : Nat) (A R : List UInt8) (t b n : Nat) (w : World) (hA : A.length = 32) (hR : R.length = 32) (hv : v < 4294967296) (ht : t < 4294967296) (hb : b < 4294967296) (hn : n < 4294967296) : Calls Try.prog 8 #[.agg (hdC v A R t b n).toArray] w fun e w' => ∃ A' c', e = .returned (.slice A' 80 c') ∧ Hp w [] [.row A' 80 c' 5 1 (by8 (hdB v A R t b n))] w' := by
  refine calls_G (args := [.agg (hdC v A R t b n).toArray]) Try.func8 rfl Try.ntmps8 rfl ?_
  intro Q0 hRet hNor hPan
  have H := Hp.start w
  have H : Hp w [] [] w := H
  refine G.seqK fun K1 hK2 => ?_
  refine G.region ?_
  obtain ⟨p3, w4, r5, H6⟩ := H.box (P := Try.prog) 26 (hdC v A R t b n) (.agg (hdC v A R t b n).toArray) rfl
  have H6 : Hp w [] [.blk p3 (hdC v A R t b n) 26] w4 := H6
  refine GL.sem (j := 1) (r5) [1] [(1, pt p3 0)] (by kernel_rfl) (by kernel_rfl) rfl ?_
  refine GL.run (j := 2) 1 [1] [(1, pt p3 0)] (by kernel_rfl) rfl ?_
  refine GL.k rfl hK2 (fun _ _ h => h) ?_
  refine G.seqK fun K7 hK8 => ?_
  refine G.region ?_
  obtain ⟨p9, w10, r11, H12⟩ := H6.alloc (P := Try.prog) 57 [.slice none 0 0] (by kernel_rfl)
  have H12 : Hp w [] [.blk p3 (hdC v A R t b n) 26, .blk p9 [.slice none 0 0] 57] w10 := H12
  refine GL.sem (j := 1) (r11) [1, 3] [(1, pt p3 0), (3, pt p9 0)] (by kernel_rfl) (by kernel_rfl) rfl ?_
  refine GL.k rfl hK8 (fun _ _ h => h) ?_
  refine G.seqK fun K13 hK14 => ?_
  refine G.region ?_
  refine GL.run (j := 1) 1 [1, 3, 6] [(1, pt p3 0), (3, pt p9 0), (6, pt p3 0)] (by kernel_rfl) rfl ?_
  refine GL.sem (j := 2) (H12.ld (o := 0) (ty := 22) (v := .int .u32 (v : Int)) 0 rfl (by kernel_rfl) (rfl)) [1, 3, 7] [(1, pt p3 0), (3, pt p9 0), (7, .int .u32 (v : Int))] (by kernel_rfl) (by kernel_rfl) rfl ?_
  refine GL.run (j := 3) 1 [1, 3, 8] [(1, pt p3 0), (3, pt p9 0), (8, .int .u64 (IntKind.u64.wrap (v : Int)))] (by kernel_rfl) rfl ?_
  have e15 : (IntKind.u64.wrap (v : Int)) = (v : Int) := in_u64 (by omega)
  refine GL.eq (M' := [(1, pt p3 0), (3, pt p9 0), (8, .int .u64 (v : Int))]) (by rw [e15]) ?_
  clear e15
  have H16 := H12.rowNil 5 1
  have H16 : Hp w [] [.blk p3 (hdC v A R t b n) 26, .blk p9 [.slice none 0 0] 57, .row none 0 0 5 1 (by8 ([] : List UInt8))] w10 := H16
  have H19 := (Hp.reorder (L' := [.blk p9 [.slice none 0 0] 57, .row none 0 0 5 1 (by8 ([] : List UInt8)), .blk p3 (hdC v A R t b n) 26]) H16 (List.Perm.trans (List.Perm.swap _ _ _) (List.Perm.cons _ (List.Perm.trans (List.Perm.swap _ _ _) (List.Perm.refl _)))))
  refine GL.call (j := 4) (Put4_calls (ids [.blk p9 [.slice none 0 0] 57, .row none 0 0 5 1 (by8 ([] : List UInt8))]) p9 none 0 0 ([] : List UInt8) v w10 (Hp.startL (A := [.blk p9 [.slice none 0 0] 57, .row none 0 0 5 1 (by8 ([] : List UInt8))]) (B := [.blk p3 (hdC v A R t b n) 26]) H19) (by omega)) (by kernel_rfl) rfl (fun e_ w20 hR => ?_)
  obtain ⟨A17, c18, rfl, H22⟩ := hR
  have H21 : Hp w [] [.blk p9 [.slice A17 4 c18] 57, .row A17 4 c18 5 1 (by8 (putB v 4)), .blk p3 (hdC v A R t b n) 26] w20 := Hp.callL (A := [.blk p9 [.slice none 0 0] 57, .row none 0 0 5 1 (by8 ([] : List UInt8))]) (B := [.blk p3 (hdC v A R t b n) 26]) H19 H22
  refine ⟨_, rfl, [1, 3], [(1, pt p3 0), (3, pt p9 0)], by kernel_rfl, ?_⟩
  refine GL.k rfl hK14 (fun _ _ h => h) ?_
  refine G.seqK fun K23 hK24 => ?_
  refine G.region ?_
  refine GL.run (j := 2) 2 [1, 3, 11] [(1, pt p3 0), (3, pt p9 0), (11, .slice (some ⟨p3, 1, none⟩) 32 32)] (by kernel_rfl) rfl ?_
  refine GL.call (j := 3) (WRaw_calls (ids [.blk p9 [.slice A17 4 c18] 57, .row A17 4 c18 5 1 (by8 (putB v 4))]) p9 A17 4 c18 (putB v 4) (some ⟨p3, 1, none⟩) 32 32 A w20 (Hp.startL (A := [.blk p9 [.slice A17 4 c18] 57, .row A17 4 c18 5 1 (by8 (putB v 4))]) (B := [.blk p3 (hdC v A R t b n) 26]) H21) (by omega) (RdO.blk (A' := [.blk p9 [.slice A17 4 c18] 57, .row A17 4 c18 5 1 (by8 (putB v 4))]) (B' := [.blk p3 (hdC v A R t b n) 26]) H21 0 32 rfl (hdC_A hA)) (by first | rfl | omega | (simp only [List.length_cons, List.length_nil, List.length_drop, List.length_take, List.length_append] <;> omega)) (by omega)) (by kernel_rfl) rfl (fun e_ w27 hR => ?_)
  obtain ⟨A25, c26, rfl, H29⟩ := hR
  have H28 : Hp w [] [.blk p9 [.slice A25 (4 + 32) c26] 57, .row A25 (4 + 32) c26 5 1 (by8 ((putB v 4) ++ A)), .blk p3 (hdC v A R t b n) 26] w27 := Hp.callL (A := [.blk p9 [.slice A17 4 c18] 57, .row A17 4 c18 5 1 (by8 (putB v 4))]) (B := [.blk p3 (hdC v A R t b n) 26]) H21 H29
  refine ⟨_, rfl, [1, 3], [(1, pt p3 0), (3, pt p9 0)], by kernel_rfl, ?_⟩
  refine GL.k rfl hK24 (fun _ _ h => h) ?_
  refine G.seqK fun K30 hK31 => ?_
  refine G.region ?_
  refine GL.run (j := 2) 2 [1, 3, 14] [(1, pt p3 0), (3, pt p9 0), (14, .slice (some ⟨p3, 33, none⟩) 32 32)] (by kernel_rfl) rfl ?_
  refine GL.call (j := 3) (WRaw_calls (ids [.blk p9 [.slice A25 (4 + 32) c26] 57, .row A25 (4 + 32) c26 5 1 (by8 ((putB v 4) ++ A))]) p9 A25 (4 + 32) c26 ((putB v 4) ++ A) (some ⟨p3, 33, none⟩) 32 32 R w27 (Hp.startL (A := [.blk p9 [.slice A25 (4 + 32) c26] 57, .row A25 (4 + 32) c26 5 1 (by8 ((putB v 4) ++ A))]) (B := [.blk p3 (hdC v A R t b n) 26]) H28) (by omega) (RdO.blk (A' := [.blk p9 [.slice A25 (4 + 32) c26] 57, .row A25 (4 + 32) c26 5 1 (by8 ((putB v 4) ++ A))]) (B' := [.blk p3 (hdC v A R t b n) 26]) H28 0 32 rfl (hdC_R hA hR)) (by first | rfl | omega | (simp only [List.length_cons, List.length_nil, List.length_drop, List.length_take, List.length_append] <;> omega)) (by omega)) (by kernel_rfl) rfl (fun e_ w34 hR => ?_)
  obtain ⟨A32, c33, rfl, H36⟩ := hR
  have H35 : Hp w [] [.blk p9 [.slice A32 ((4 + 32) + 32) c33] 57, .row A32 ((4 + 32) + 32) c33 5 1 (by8 (((putB v 4) ++ A) ++ R)), .blk p3 (hdC v A R t b n) 26] w34 := Hp.callL (A := [.blk p9 [.slice A25 (4 + 32) c26] 57, .row A25 (4 + 32) c26 5 1 (by8 ((putB v 4) ++ A))]) (B := [.blk p3 (hdC v A R t b n) 26]) H28 H36
  refine ⟨_, rfl, [1, 3], [(1, pt p3 0), (3, pt p9 0)], by kernel_rfl, ?_⟩
  refine GL.k rfl hK31 (fun _ _ h => h) ?_
  refine G.seqK fun K37 hK38 => ?_
  refine G.seqK fun K39 hK40 => ?_
  refine G.region ?_
  refine GL.run (j := 1) 1 [1, 3, 16] [(1, pt p3 0), (3, pt p9 0), (16, pt p3 65)] (by kernel_rfl) rfl ?_
  refine GL.sem (j := 2) (H35.ld (o := 65) (ty := 22) (v := .int .u32 (t : Int)) 2 rfl (by kernel_rfl) (hdC_t hA hR)) [1, 3, 17] [(1, pt p3 0), (3, pt p9 0), (17, .int .u32 (t : Int))] (by kernel_rfl) (by kernel_rfl) rfl ?_
  refine GL.run (j := 3) 1 [1, 3, 17, 18] [(1, pt p3 0), (3, pt p9 0), (17, .int .u32 (t : Int)), (18, pt p3 66)] (by kernel_rfl) rfl ?_
  refine GL.sem (j := 4) (H35.ld (o := 66) (ty := 22) (v := .int .u32 (b : Int)) 2 rfl (by kernel_rfl) (hdC_b hA hR)) [1, 3, 17, 19] [(1, pt p3 0), (3, pt p9 0), (17, .int .u32 (t : Int)), (19, .int .u32 (b : Int))] (by kernel_rfl) (by kernel_rfl) rfl ?_
  refine GL.run (j := 5) 1 [3, 17, 19, 20] [(3, pt p9 0), (17, .int .u32 (t : Int)), (19, .int .u32 (b : Int)), (20, pt p3 67)] (by kernel_rfl) rfl ?_
  refine GL.sem (j := 6) (H35.ld (o := 67) (ty := 22) (v := .int .u32 (n : Int)) 2 rfl (by kernel_rfl) (hdC_n hA hR)) [3, 17, 19, 21] [(3, pt p9 0), (17, .int .u32 (t : Int)), (19, .int .u32 (b : Int)), (21, .int .u32 (n : Int))] (by kernel_rfl) (by kernel_rfl) rfl ?_
  refine GL.run (j := 8) 2 [3, 22, 23] [(3, pt p9 0), (22, .agg #[.int .u32 (t : Int), .int .u32 (b : Int), .int .u32 (n : Int)]), (23, .int .i64 0)] (by kernel_rfl) rfl ?_
  refine GL.k rfl hK40 (fun _ _ h => h) ?_
  refine G.block ?_
  refine G.unroll 4 ?_
  refine G.seqK fun K41 hK42 => ?_
  refine G.region ?_
  refine GL.run (j := 1) 1 [3, 22, 23, 24] [(3, pt p9 0), (22, .agg #[.int .u32 (t : Int), .int .u32 (b : Int), .int .u32 (n : Int)]), (23, .int .i64 0), (24, .bool true)] (by kernel_rfl) rfl ?_
  refine GL.k rfl hK42 (fun _ _ h => h) ?_
  refine G.seqK fun K43 hK44 => ?_
  refine G.yes rfl ?_
  refine G.skipK hK44 (fun _ _ h => h) ?_
  refine G.seqK fun K45 hK46 => ?_
  refine G.block ?_
  refine G.seqK fun K47 hK48 => ?_
  refine G.region ?_
  refine GL.run (j := 2) 2 [3, 5, 22, 23] [(3, pt p9 0), (5, .int .u32 (t : Int)), (22, .agg #[.int .u32 (t : Int), .int .u32 (b : Int), .int .u32 (n : Int)]), (23, .int .i64 0)] (by kernel_rfl) rfl ?_
  refine GL.k rfl hK48 (fun _ _ h => h) ?_
  refine G.region ?_
  refine GL.run (j := 2) 2 [3, 22, 23, 27] [(3, pt p9 0), (22, .agg #[.int .u32 (t : Int), .int .u32 (b : Int), .int .u32 (n : Int)]), (23, .int .i64 0), (27, .int .u64 (IntKind.u64.wrap (t : Int)))] (by kernel_rfl) rfl ?_
  have e49 : (IntKind.u64.wrap (t : Int)) = (t : Int) := in_u64 (by omega)
  refine GL.eq (M' := [(3, pt p9 0), (22, .agg #[.int .u32 (t : Int), .int .u32 (b : Int), .int .u32 (n : Int)]), (23, .int .i64 0), (27, .int .u64 (t : Int))]) (by rw [e49]) ?_
  clear e49
  refine GL.call (j := 3) (Put4_calls (ids [.blk p9 [.slice A32 ((4 + 32) + 32) c33] 57, .row A32 ((4 + 32) + 32) c33 5 1 (by8 (((putB v 4) ++ A) ++ R))]) p9 A32 ((4 + 32) + 32) c33 (((putB v 4) ++ A) ++ R) t w34 (Hp.startL (A := [.blk p9 [.slice A32 ((4 + 32) + 32) c33] 57, .row A32 ((4 + 32) + 32) c33 5 1 (by8 (((putB v 4) ++ A) ++ R))]) (B := [.blk p3 (hdC v A R t b n) 26]) H35) (by omega)) (by kernel_rfl) rfl (fun e_ w52 hR => ?_)
  obtain ⟨A50, c51, rfl, H54⟩ := hR
  have H53 : Hp w [] [.blk p9 [.slice A50 (((4 + 32) + 32) + 4) c51] 57, .row A50 (((4 + 32) + 32) + 4) c51 5 1 (by8 ((((putB v 4) ++ A) ++ R) ++ (putB t 4))), .blk p3 (hdC v A R t b n) 26] w52 := Hp.callL (A := [.blk p9 [.slice A32 ((4 + 32) + 32) c33] 57, .row A32 ((4 + 32) + 32) c33 5 1 (by8 (((putB v 4) ++ A) ++ R))]) (B := [.blk p3 (hdC v A R t b n) 26]) H35 H54
  refine ⟨_, rfl, [3, 22, 23], [(3, pt p9 0), (22, .agg #[.int .u32 (t : Int), .int .u32 (b : Int), .int .u32 (n : Int)]), (23, .int .i64 0)], by kernel_rfl, ?_⟩
  refine GL.k rfl hK46 (fun _ _ h => h) ?_
  refine G.region ?_
  refine GL.run (j := 2) 2 [3, 22, 23] [(3, pt p9 0), (22, .agg #[.int .u32 (t : Int), .int .u32 (b : Int), .int .u32 (n : Int)]), (23, .int .i64 1)] (by kernel_rfl) rfl ?_
  refine GL.round rfl ?_
  refine G.seqK fun K55 hK56 => ?_
  refine G.region ?_
  refine GL.run (j := 1) 1 [3, 22, 23, 24] [(3, pt p9 0), (22, .agg #[.int .u32 (t : Int), .int .u32 (b : Int), .int .u32 (n : Int)]), (23, .int .i64 1), (24, .bool true)] (by kernel_rfl) rfl ?_
  refine GL.k rfl hK56 (fun _ _ h => h) ?_
  refine G.seqK fun K57 hK58 => ?_
  refine G.yes rfl ?_
  refine G.skipK hK58 (fun _ _ h => h) ?_
  refine G.seqK fun K59 hK60 => ?_
  refine G.block ?_
  refine G.seqK fun K61 hK62 => ?_
  refine G.region ?_
  refine GL.run (j := 2) 2 [3, 5, 22, 23] [(3, pt p9 0), (5, .int .u32 (b : Int)), (22, .agg #[.int .u32 (t : Int), .int .u32 (b : Int), .int .u32 (n : Int)]), (23, .int .i64 1)] (by kernel_rfl) rfl ?_
  refine GL.k rfl hK62 (fun _ _ h => h) ?_
  refine G.region ?_
  refine GL.run (j := 2) 2 [3, 22, 23, 27] [(3, pt p9 0), (22, .agg #[.int .u32 (t : Int), .int .u32 (b : Int), .int .u32 (n : Int)]), (23, .int .i64 1), (27, .int .u64 (IntKind.u64.wrap (b : Int)))] (by kernel_rfl) rfl ?_
  have e63 : (IntKind.u64.wrap (b : Int)) = (b : Int) := in_u64 (by omega)
  refine GL.eq (M' := [(3, pt p9 0), (22, .agg #[.int .u32 (t : Int), .int .u32 (b : Int), .int .u32 (n : Int)]), (23, .int .i64 1), (27, .int .u64 (b : Int))]) (by rw [e63]) ?_
  clear e63
  refine GL.call (j := 3) (Put4_calls (ids [.blk p9 [.slice A50 (((4 + 32) + 32) + 4) c51] 57, .row A50 (((4 + 32) + 32) + 4) c51 5 1 (by8 ((((putB v 4) ++ A) ++ R) ++ (putB t 4)))]) p9 A50 (((4 + 32) + 32) + 4) c51 ((((putB v 4) ++ A) ++ R) ++ (putB t 4)) b w52 (Hp.startL (A := [.blk p9 [.slice A50 (((4 + 32) + 32) + 4) c51] 57, .row A50 (((4 + 32) + 32) + 4) c51 5 1 (by8 ((((putB v 4) ++ A) ++ R) ++ (putB t 4)))]) (B := [.blk p3 (hdC v A R t b n) 26]) H53) (by omega)) (by kernel_rfl) rfl (fun e_ w66 hR => ?_)
  obtain ⟨A64, c65, rfl, H68⟩ := hR
  have H67 : Hp w [] [.blk p9 [.slice A64 ((((4 + 32) + 32) + 4) + 4) c65] 57, .row A64 ((((4 + 32) + 32) + 4) + 4) c65 5 1 (by8 (((((putB v 4) ++ A) ++ R) ++ (putB t 4)) ++ (putB b 4))), .blk p3 (hdC v A R t b n) 26] w66 := Hp.callL (A := [.blk p9 [.slice A50 (((4 + 32) + 32) + 4) c51] 57, .row A50 (((4 + 32) + 32) + 4) c51 5 1 (by8 ((((putB v 4) ++ A) ++ R) ++ (putB t 4)))]) (B := [.blk p3 (hdC v A R t b n) 26]) H53 H68
  refine ⟨_, rfl, [3, 22, 23], [(3, pt p9 0), (22, .agg #[.int .u32 (t : Int), .int .u32 (b : Int), .int .u32 (n : Int)]), (23, .int .i64 1)], by kernel_rfl, ?_⟩
  refine GL.k rfl hK60 (fun _ _ h => h) ?_
  refine G.region ?_
  refine GL.run (j := 2) 2 [3, 22, 23] [(3, pt p9 0), (22, .agg #[.int .u32 (t : Int), .int .u32 (b : Int), .int .u32 (n : Int)]), (23, .int .i64 2)] (by kernel_rfl) rfl ?_
  refine GL.round rfl ?_
  refine G.seqK fun K69 hK70 => ?_
  refine G.region ?_
  refine GL.run (j := 1) 1 [3, 22, 23, 24] [(3, pt p9 0), (22, .agg #[.int .u32 (t : Int), .int .u32 (b : Int), .int .u32 (n : Int)]), (23, .int .i64 2), (24, .bool true)] (by kernel_rfl) rfl ?_
  refine GL.k rfl hK70 (fun _ _ h => h) ?_
  refine G.seqK fun K71 hK72 => ?_
  refine G.yes rfl ?_
  refine G.skipK hK72 (fun _ _ h => h) ?_
  refine G.seqK fun K73 hK74 => ?_
  refine G.block ?_
  refine G.seqK fun K75 hK76 => ?_
  refine G.region ?_
  refine GL.run (j := 2) 2 [3, 5, 22, 23] [(3, pt p9 0), (5, .int .u32 (n : Int)), (22, .agg #[.int .u32 (t : Int), .int .u32 (b : Int), .int .u32 (n : Int)]), (23, .int .i64 2)] (by kernel_rfl) rfl ?_
  refine GL.k rfl hK76 (fun _ _ h => h) ?_
  refine G.region ?_
  refine GL.run (j := 2) 2 [3, 22, 23, 27] [(3, pt p9 0), (22, .agg #[.int .u32 (t : Int), .int .u32 (b : Int), .int .u32 (n : Int)]), (23, .int .i64 2), (27, .int .u64 (IntKind.u64.wrap (n : Int)))] (by kernel_rfl) rfl ?_
  have e77 : (IntKind.u64.wrap (n : Int)) = (n : Int) := in_u64 (by omega)
  refine GL.eq (M' := [(3, pt p9 0), (22, .agg #[.int .u32 (t : Int), .int .u32 (b : Int), .int .u32 (n : Int)]), (23, .int .i64 2), (27, .int .u64 (n : Int))]) (by rw [e77]) ?_
  clear e77
  refine GL.call (j := 3) (Put4_calls (ids [.blk p9 [.slice A64 ((((4 + 32) + 32) + 4) + 4) c65] 57, .row A64 ((((4 + 32) + 32) + 4) + 4) c65 5 1 (by8 (((((putB v 4) ++ A) ++ R) ++ (putB t 4)) ++ (putB b 4)))]) p9 A64 ((((4 + 32) + 32) + 4) + 4) c65 (((((putB v 4) ++ A) ++ R) ++ (putB t 4)) ++ (putB b 4)) n w66 (Hp.startL (A := [.blk p9 [.slice A64 ((((4 + 32) + 32) + 4) + 4) c65] 57, .row A64 ((((4 + 32) + 32) + 4) + 4) c65 5 1 (by8 (((((putB v 4) ++ A) ++ R) ++ (putB t 4)) ++ (putB b 4)))]) (B := [.blk p3 (hdC v A R t b n) 26]) H67) (by omega)) (by kernel_rfl) rfl (fun e_ w80 hR => ?_)
  obtain ⟨A78, c79, rfl, H82⟩ := hR
  have H81 : Hp w [] [.blk p9 [.slice A78 (((((4 + 32) + 32) + 4) + 4) + 4) c79] 57, .row A78 (((((4 + 32) + 32) + 4) + 4) + 4) c79 5 1 (by8 ((((((putB v 4) ++ A) ++ R) ++ (putB t 4)) ++ (putB b 4)) ++ (putB n 4))), .blk p3 (hdC v A R t b n) 26] w80 := Hp.callL (A := [.blk p9 [.slice A64 ((((4 + 32) + 32) + 4) + 4) c65] 57, .row A64 ((((4 + 32) + 32) + 4) + 4) c65 5 1 (by8 (((((putB v 4) ++ A) ++ R) ++ (putB t 4)) ++ (putB b 4)))]) (B := [.blk p3 (hdC v A R t b n) 26]) H67 H82
  refine ⟨_, rfl, [3, 22, 23], [(3, pt p9 0), (22, .agg #[.int .u32 (t : Int), .int .u32 (b : Int), .int .u32 (n : Int)]), (23, .int .i64 2)], by kernel_rfl, ?_⟩
  refine GL.k rfl hK74 (fun _ _ h => h) ?_
  refine G.region ?_
  refine GL.run (j := 2) 2 [3, 22, 23] [(3, pt p9 0), (22, .agg #[.int .u32 (t : Int), .int .u32 (b : Int), .int .u32 (n : Int)]), (23, .int .i64 3)] (by kernel_rfl) rfl ?_
  refine GL.round rfl ?_
  refine G.seqK fun K83 hK84 => ?_
  refine G.region ?_
  refine GL.run (j := 1) 1 [3, 22, 23, 24] [(3, pt p9 0), (22, .agg #[.int .u32 (t : Int), .int .u32 (b : Int), .int .u32 (n : Int)]), (23, .int .i64 3), (24, .bool false)] (by kernel_rfl) rfl ?_
  refine GL.k rfl hK84 (fun _ _ h => h) ?_
  refine G.seqK fun K85 hK86 => ?_
  refine G.no rfl ?_
  refine G.exitK hK38 (fun _ _ h => h) ?_
  refine G.seqK fun K87 hK88 => ?_
  refine G.region ?_
  refine GL.call (j := 1) (WBytes_calls (ids [.blk p9 [.slice A78 (((((4 + 32) + 32) + 4) + 4) + 4) c79] 57, .row A78 (((((4 + 32) + 32) + 4) + 4) + 4) c79 5 1 (by8 ((((((putB v 4) ++ A) ++ R) ++ (putB t 4)) ++ (putB b 4)) ++ (putB n 4)))]) p9 A78 (((((4 + 32) + 32) + 4) + 4) + 4) c79 ((((((putB v 4) ++ A) ++ R) ++ (putB t 4)) ++ (putB b 4)) ++ (putB n 4)) w80 (Hp.startL (A := [.blk p9 [.slice A78 (((((4 + 32) + 32) + 4) + 4) + 4) c79] 57, .row A78 (((((4 + 32) + 32) + 4) + 4) + 4) c79 5 1 (by8 ((((((putB v 4) ++ A) ++ R) ++ (putB t 4)) ++ (putB b 4)) ++ (putB n 4)))]) (B := [.blk p3 (hdC v A R t b n) 26]) H81) (by omega)) (by kernel_rfl) rfl (fun e_ w91 hR => ?_)
  obtain ⟨A89, c90, rfl, H93⟩ := hR
  have H92 : Hp w [] [.blk p9 [.slice A78 (((((4 + 32) + 32) + 4) + 4) + 4) c79] 57, .row A78 (((((4 + 32) + 32) + 4) + 4) + 4) c79 5 1 (by8 ((((((putB v 4) ++ A) ++ R) ++ (putB t 4)) ++ (putB b 4)) ++ (putB n 4))), .row A89 (((((4 + 32) + 32) + 4) + 4) + 4) c90 5 1 (by8 ((((((putB v 4) ++ A) ++ R) ++ (putB t 4)) ++ (putB b 4)) ++ (putB n 4))), .blk p3 (hdC v A R t b n) 26] w91 := Hp.callL (A := [.blk p9 [.slice A78 (((((4 + 32) + 32) + 4) + 4) + 4) c79] 57, .row A78 (((((4 + 32) + 32) + 4) + 4) + 4) c79 5 1 (by8 ((((((putB v 4) ++ A) ++ R) ++ (putB t 4)) ++ (putB b 4)) ++ (putB n 4)))]) (B := [.blk p3 (hdC v A R t b n) 26]) H81 H93
  refine ⟨_, rfl, [30], [(30, .slice A89 (((((4 + 32) + 32) + 4) + 4) + 4) c90)], by kernel_rfl, ?_⟩
  refine GL.run (j := 2) 1 [2] [(2, .slice A89 (((((4 + 32) + 32) + 4) + 4) + 4) c90)] (by kernel_rfl) rfl ?_
  refine GL.k rfl hK88 (fun _ _ h => h) ?_
  refine G.ret ?_
  intro F_ hF_ hM_
  refine hRet _ _ (bodyPost_1 rfl (RV.tmp rfl) ?_ F_ hF_ hM_)
  exact ⟨_, _, rfl, H92.sub (List.Sublist.cons _ (List.Sublist.cons _ (List.Sublist.cons_cons _ (List.Sublist.cons _ (List.Sublist.slnil)))))⟩
theorem HHash_calls (v : Nat) (A R : List UInt8) (t b n : Nat) (w : World) (hA : A.length = 32) (hR : R.length = 32) (hv : v < 4294967296) (ht : t < 4294967296) (hb : b < 4294967296) (hn : n < 4294967296) : Calls Try.prog 18 #[.agg (hdC v A R t b n).toArray] w fun e w' => e = .returned (.agg (by8 (sha (sha (hdB v A R t b n)))).toArray) ∧ Hp w [] [] w' := by
  refine calls_G (args := [.agg (hdC v A R t b n).toArray]) Try.func18 rfl Try.ntmps18 rfl ?_
  intro Q0 hRet hNor hPan
  have H := Hp.start w
  have H : Hp w [] [] w := H
  refine G.seqK fun K1 hK2 => ?_
  refine G.region ?_
  obtain ⟨p3, w4, r5, H6⟩ := H.box (P := Try.prog) 26 (hdC v A R t b n) (.agg (hdC v A R t b n).toArray) rfl
  have H6 : Hp w [] [.blk p3 (hdC v A R t b n) 26] w4 := H6
  refine GL.sem (j := 1) (r5) [1] [(1, pt p3 0)] (by kernel_rfl) (by kernel_rfl) rfl ?_
  obtain ⟨p7, w8, r9, H10⟩ := H6.alloc (P := Try.prog) 24 (by8 (bsP (fun _ => 0) 32 0)) (by kernel_rfl)
  have H10 : Hp w [] [.blk p3 (hdC v A R t b n) 26, .blk p7 (by8 (bsP (fun _ => 0) 32 0)) 24] w8 := H10
  refine GL.sem (j := 2) (r9) [1, 2] [(1, pt p3 0), (2, pt p7 0)] (by kernel_rfl) (by kernel_rfl) rfl ?_
  refine GL.k rfl hK2 (fun _ _ h => h) ?_
  refine G.seqK fun K11 hK12 => ?_
  refine G.region ?_
  refine GL.sem (j := 1) (H10.ldA (o := 0) (ty := 26) (m := 68) (sub := hdC v A R t b n) 0 rfl (by kernel_rfl) (sub_whole (hdC_length hA hR)) (hdC_length hA hR)) [2, 3] [(2, pt p7 0), (3, .agg (hdC v A R t b n).toArray)] (by kernel_rfl) (by kernel_rfl) rfl ?_
  refine GL.call (j := 2) (HBytes_calls v A R t b n w8 hA hR (by omega) (by omega) (by omega) (by omega)) (by kernel_rfl) rfl (fun e_ w15 hR => ?_)
  obtain ⟨A13, c14, rfl, H17⟩ := hR
  have H16 : Hp w [] [.blk p3 (hdC v A R t b n) 26, .blk p7 (by8 (bsP (fun _ => 0) 32 0)) 24, .row A13 80 c14 5 1 (by8 (hdB v A R t b n))] w15 := H10.callNew H17
  refine ⟨_, rfl, [2, 4], [(2, pt p7 0), (4, .slice A13 80 c14)], by kernel_rfl, ?_⟩
  refine GL.call (j := 3) (Double_calls A13 80 c14 (hdB v A R t b n) w15 (H16.rdRow 2 rfl) ((hdB_length hA hR).symm) (by rw [hdB_length hA hR]; decide)) (by kernel_rfl) rfl (fun e_ w18 hR => ?_)
  obtain ⟨rfl, H20⟩ := hR
  have H19 : Hp w [] [.blk p3 (hdC v A R t b n) 26, .blk p7 (by8 (bsP (fun _ => 0) 32 0)) 24, .row A13 80 c14 5 1 (by8 (hdB v A R t b n))] w18 := H16.callNil H20
  refine ⟨_, rfl, [2, 5], [(2, pt p7 0), (5, .agg (by8 (sha (sha (hdB v A R t b n)))).toArray)], by kernel_rfl, ?_⟩
  obtain ⟨w21, r22, H23⟩ := H19.stA (P := Try.prog) (o := 0) (vs := by8 (sha (sha (hdB v A R t b n)))) (ty := 24) (m := 32) 1 rfl (by kernel_rfl) (by rw [by8_length, sha_length]) (Nat.le_of_eq (by rw [Nat.zero_add]; exact ((show (by8 (bsP (fun _ => 0) 32 0)).length = 32 from by rw [by8_length, bsP_length (by omega)])).symm)) (by8_one _)
  rw [st_whole (by rw [by8_length, bsP_length (by omega)])] at H23
  have H23 : Hp w [] [.blk p3 (hdC v A R t b n) 26, .blk p7 (by8 (sha (sha (hdB v A R t b n)))) 24, .row A13 80 c14 5 1 (by8 (hdB v A R t b n))] w21 := H23
  refine GL.semU (j := 4) r22 [2] [(2, pt p7 0)] (by kernel_rfl) rfl rfl rfl ?_
  refine GL.k rfl hK12 (fun _ _ h => h) ?_
  refine G.ret ?_
  intro F_ hF_ hM_
  refine hRet _ _ (bodyPost_1 rfl (RV.cell rfl (H23.ldA (o := 0) (ty := 24) (m := 32) (sub := by8 (sha (sha (hdB v A R t b n)))) 1 rfl (by kernel_rfl) (sub_whole (by rw [by8_length, sha_length])) (by rw [by8_length, sha_length]))) ?_ F_ hF_ hM_)
  exact ⟨rfl, H23.sub (List.nil_sublist _)⟩
end Go.Proofs.Ytdepaaphgfapjaa
namespace Go.Proofs.Ytdepaaphgfapjaa
open Go.RowKit
theorem u32wf {n : Nat} (h : n < 4294967296) : (Lit.int .u32 (n : Int)).wf = true := by
  simp [Lit.wf, IntKind.min, IntKind.max, IntKind.signed, IntKind.bits]
  omega
theorem lits_u32 {P : Program} {d t n : Nat} (ht : P.underlying t = some (.int .u32)) (h : n < 4294967296) : P.keyLits (d + 1) t [.int .u32 (n : Int)] = some [.int .u32 (n : Int)] := by
  simp [Program.keyLits, ht, u32wf h]
def lit8s (A : List UInt8) : List Lit := (List.range 32).map fun i => Lit.int .u8 ((A.getD i 0).toNat : Int)
theorem by8_fun {A : List UInt8} (h : A.length = 32) : by8 A = (List.range 32).map fun i => Value.int .u8 ((A.getD i 0).toNat : Int) := by
  refine List.ext_getElem? fun i => ?_
  by_cases hi : i < 32
  · rw [by8_at (getD8 (bs := A) (k := i) (by omega)), List.getElem?_map, List.getElem?_range hi]
    rfl
  · rw [List.getElem?_eq_none (by rw [by8_length]; omega), List.getElem?_eq_none (by simp; omega)]
def hdL (v : Nat) (A R : List UInt8) (t b n : Nat) : List Lit := [.int .u32 (v : Int)] ++ (lit8s A ++ (lit8s R ++ ([.int .u32 (t : Int)] ++ ([.int .u32 (b : Int)] ++ [.int .u32 (n : Int)]))))
theorem hd_lits {v t b n : Nat} {A R : List UInt8} (hA : A.length = 32) (hR : R.length = 32) (hv : v < 4294967296) (ht : t < 4294967296) (hb : b < 4294967296) (hn : n < 4294967296) :
    Try.prog.keyLits 3 26 (hdC v A R t b n) = some (hdL v A R t b n) := by
  rw [keyLits_struct Try.underlying26, if_pos ⟨by rw [hdC_length hA hR]; kernel_rfl, by kernel_rfl⟩]
  have one : ∀ {l : List Value} {q : Value} {i : Nat}, l[i]? = some q → (l.drop i).take 1 = [q] := fun {l q i} h => by
    have hi := (List.getElem?_eq_some_iff.1 h).1
    rw [List.drop_eq_getElem_cons hi, List.take_succ_cons, List.take_zero, (List.getElem?_eq_some_iff.1 h).2]
  simp only [List.mapM_cons, List.mapM_nil]
  rw [show Try.prog.cellsOf 22 = 1 by kernel_rfl, show Try.prog.cellsOf 24 = 32 by kernel_rfl]
  rw [show ((hdC v A R t b n).drop 0).take 1 = [.int .u32 (v : Int)] from rfl, hdC_A hA, hdC_R hA hR, one (hdC_t hA hR), one (hdC_b hA hR), one (hdC_n hA hR)]
  rw [lits_u32 Try.underlying22 hv, lits_u32 Try.underlying22 ht, lits_u32 Try.underlying22 hb, lits_u32 Try.underlying22 hn, by8_fun hA, by8_fun hR, lits_u8s (d := 0) Try.underlying24 Try.underlying5 (by kernel_rfl) (by kernel_rfl), lits_u8s (d := 0) Try.underlying24 Try.underlying5 (by kernel_rfl) (by kernel_rfl)]
  rfl
theorem lit8s_inj {A B : List UInt8} (hA : A.length = 32) (hB : B.length = 32) (h : lit8s A = lit8s B) : A = B :=
  ext8 (by rw [hA, hB]) fun i hi => by
    have := List.map_inj_left.1 h i (List.mem_range.2 (by omega))
    injection this with _ this
    exact UInt8.toNat_inj.1 (by omega)
def sameH (v : Nat) (A R : List UInt8) (t b n v' : Nat) (A' R' : List UInt8) (t' b' n' : Nat) : Bool := decide (v = v' ∧ A = A' ∧ R = R' ∧ t = t' ∧ b = b' ∧ n = n')
theorem run_hd_eql {x y : Operand} {v t b n v' t' b' n' : Nat} {A R A' R' : List UInt8} (hA : A.length = 32) (hR : R.length = 32) (hv : v < 4294967296) (ht : t < 4294967296) (hb : b < 4294967296) (hn : n < 4294967296)
    (hA' : A'.length = 32) (hR' : R'.length = 32) (hv' : v' < 4294967296) (ht' : t' < 4294967296) (hb' : b' < 4294967296) (hn' : n' < 4294967296) (w : World) :
    (do eqGuard .eql 26 x y (.agg (hdC v A R t b n).toArray) (.agg (hdC v' A' R' t' b' n').toArray); binOp .eql 26 (.agg (hdC v A R t b n).toArray) (.agg (hdC v' A' R' t' b' n').toArray) : Sem Value).run Try.prog w = .ok (.bool (sameH v A R t b n v' A' R' t' b' n')) w := by
  have hf : ∀ {v t b n : Nat} {A R : List UInt8}, A.length = 32 → R.length = 32 → Value.formed Try.prog 26 (.agg (hdC v A R t b n).toArray) = true := fun {v t b n A R} hA hR => by
    have e : ((hdC v A R t b n).toArray).size = 68 := by simp [hdC_length hA hR]
    have c : Try.prog.cellsOf 26 = 68 := by kernel_rfl
    unfold Value.formed
    rw [Try.underlying26]
    simp only [e]
    first | kernel_rfl | (simp [c]; done) | (rw [c]; rfl)
  obtain ⟨r, h1, h2⟩ := run_deep_eql (P := Try.prog) (x := x) (y := y) (m := 3) (t := 26) (by kernel_rfl) (by decide) (hf hA hR) (hf hA' hR') (hd_lits hA hR hv ht hb hn) (hd_lits hA' hR' hv' ht' hb' hn') w
  rw [h1]
  have : r = sameH v A R t b n v' A' R' t' b' n' := by
    rw [Bool.eq_iff_iff, h2, sameH, decide_eq_true_iff]
    constructor
    · intro h
      have l : ∀ X, (lit8s X).length = 32 := fun X => by simp [lit8s]
      unfold hdL at h
      obtain ⟨e1, h⟩ := List.append_inj h rfl
      obtain ⟨e2, h⟩ := List.append_inj h (by rw [l, l])
      obtain ⟨e3, h⟩ := List.append_inj h (by rw [l, l])
      simp only [List.cons_append, List.nil_append, List.cons.injEq, Lit.int.injEq, true_and, and_true] at e1 h
      exact ⟨by omega, lit8s_inj hA hA' e2, lit8s_inj hR hR' e3, by omega, by omega, by omega⟩
    · rintro ⟨rfl, rfl, rfl, rfl, rfl, rfl⟩
      rfl
  rw [this]
theorem run_hd_neq {x y : Operand} {v t b n v' t' b' n' : Nat} {A R A' R' : List UInt8} (hA : A.length = 32) (hR : R.length = 32) (hv : v < 4294967296) (ht : t < 4294967296) (hb : b < 4294967296) (hn : n < 4294967296)
    (hA' : A'.length = 32) (hR' : R'.length = 32) (hv' : v' < 4294967296) (ht' : t' < 4294967296) (hb' : b' < 4294967296) (hn' : n' < 4294967296) (w : World) :
    (do eqGuard .neq 26 x y (.agg (hdC v A R t b n).toArray) (.agg (hdC v' A' R' t' b' n').toArray); binOp .neq 26 (.agg (hdC v A R t b n).toArray) (.agg (hdC v' A' R' t' b' n').toArray) : Sem Value).run Try.prog w = .ok (.bool (!(sameH v A R t b n v' A' R' t' b' n'))) w := by
  have hf : ∀ {v t b n : Nat} {A R : List UInt8}, A.length = 32 → R.length = 32 → Value.formed Try.prog 26 (.agg (hdC v A R t b n).toArray) = true := fun {v t b n A R} hA hR => by
    have e : ((hdC v A R t b n).toArray).size = 68 := by simp [hdC_length hA hR]
    have c : Try.prog.cellsOf 26 = 68 := by kernel_rfl
    unfold Value.formed
    rw [Try.underlying26]
    simp only [e]
    first | kernel_rfl | (simp [c]; done) | (rw [c]; rfl)
  obtain ⟨r, h1, h2⟩ := run_deep_neq (P := Try.prog) (x := x) (y := y) (m := 3) (t := 26) (by kernel_rfl) (by decide) (hf hA hR) (hf hA' hR') (hd_lits hA hR hv ht hb hn) (hd_lits hA' hR' hv' ht' hb' hn') w
  rw [h1]
  have : r = sameH v A R t b n v' A' R' t' b' n' := by
    rw [Bool.eq_iff_iff, h2, sameH, decide_eq_true_iff]
    constructor
    · intro h
      have l : ∀ X, (lit8s X).length = 32 := fun X => by simp [lit8s]
      unfold hdL at h
      obtain ⟨e1, h⟩ := List.append_inj h rfl
      obtain ⟨e2, h⟩ := List.append_inj h (by rw [l, l])
      obtain ⟨e3, h⟩ := List.append_inj h (by rw [l, l])
      simp only [List.cons_append, List.nil_append, List.cons.injEq, Lit.int.injEq, true_and, and_true] at e1 h
      exact ⟨by omega, lit8s_inj hA hA' e2, lit8s_inj hR hR' e3, by omega, by omega, by omega⟩
    · rintro ⟨rfl, rfl, rfl, rfl, rfl, rfl⟩
      rfl
  rw [this]
section
variable {H : Type} {enc : TypeId × Value → H} {P : Program} {w : World} {sp : Nat → Bool} {held : Bool}
theorem Lf.u32 {cs : List Value} {o : Nat} {t : TypeId} (ht : P.underlying t = some (.int .u32)) (h : Lf enc P w sp held cs o t) : ∃ n : Nat, cs[o]? = some (.int .u32 (n : Int)) ∧ n < 4294967296 := by
  obtain ⟨n, h1, h2⟩ := h.int ht
  simp [Lit.wf, IntKind.min, IntKind.max, IntKind.signed, IntKind.bits] at h2
  exact ⟨n.toNat, by rw [h1, Int.toNat_of_nonneg h2.1], by omega⟩
end
theorem open_head {cs : List Value} (hl : cs.length = 68) {v t b n : Nat} {f g : Nat → UInt8} (h0 : cs[0]? = some (.int .u32 (v : Int))) (hf : ∀ i, i < 32 → cs[1 + i]? = some (.int .u8 ((f i).toNat : Int))) (hg : ∀ i, i < 32 → cs[33 + i]? = some (.int .u8 ((g i).toNat : Int)))
    (ht : cs[65]? = some (.int .u32 (t : Int))) (hb : cs[66]? = some (.int .u32 (b : Int))) (hn : cs[67]? = some (.int .u32 (n : Int))) : cs = hdC v ((List.range 32).map f) ((List.range 32).map g) t b n := by
  have hA : ((List.range 32).map f).length = 32 := by simp
  have hR : ((List.range 32).map g).length = 32 := by simp
  have fun8 : ∀ (f : Nat → UInt8) (j : Nat), j < 32 → (by8 ((List.range 32).map f))[j]? = some (.int .u8 ((f j).toNat : Int)) := fun f j hj => by8_at (by rw [List.getElem?_map, List.getElem?_range hj]; rfl)
  refine List.ext_getElem? fun i => ?_
  by_cases h1 : i < 1
  · obtain rfl : i = 0 := by omega
    exact h0
  by_cases h2 : i < 33
  · obtain ⟨j, rfl⟩ : ∃ j, i = 1 + j := ⟨i - 1, by omega⟩
    rw [hf j (by omega), hdC, Nat.add_comm 1 j, List.getElem?_cons_succ, List.getElem?_append_left (by rw [by8_length, hA]; omega), fun8 f j (by omega)]
  by_cases h3 : i < 65
  · obtain ⟨j, rfl⟩ : ∃ j, i = 33 + j := ⟨i - 33, by omega⟩
    rw [hg j (by omega), hdC, show 33 + j = (32 + j) + 1 by omega, List.getElem?_cons_succ, List.getElem?_append_right (by rw [by8_length, hA]; omega), by8_length, hA, show 32 + j - 32 = j by omega, List.getElem?_append_left (by rw [by8_length, hR]; omega), fun8 g j (by omega)]
  by_cases h4 : i = 65
  · rw [h4, ht, hdC_t hA hR]
  by_cases h5 : i = 66
  · rw [h5, hb, hdC_b hA hR]
  by_cases h6 : i = 67
  · rw [h6, hn, hdC_n hA hR]
  rw [List.getElem?_eq_none (by omega), List.getElem?_eq_none (by rw [hdC_length hA hR]; omega)]
end Go.Proofs.Ytdepaaphgfapjaa
namespace Go.Proofs.Ytdepaaphgfapjaa
open Go.RowKit
theorem as_fun {X : List UInt8} (h : X.length = 32) : ∃ f : Nat → UInt8, X = (List.range 32).map f := ⟨fun i => X.getD i 0, List.ext_getElem? fun i => by
  by_cases hi : i < 32
  · rw [List.getElem?_map, List.getElem?_range hi, getD8 (by omega)]
    rfl
  · rw [List.getElem?_eq_none (by omega), List.getElem?_eq_none (by simp; omega)]⟩
theorem run_hdBuild (v : Nat) (A R : List UInt8) (t b n : Nat) (hA : A.length = 32) (hR : R.length = 32) (w : World) : (Instr.build 26 #[(0, .int .u32 (v : Int)), (1, .agg (by8 A).toArray), (2, .agg (by8 R).toArray), (3, .int .u32 (t : Int)), (4, .int .u32 (b : Int)), (5, .int .u32 (n : Int))]).run Try.prog w = .ok (.agg (hdC v A R t b n).toArray) w := by
  obtain ⟨f, rfl⟩ := as_fun hA
  obtain ⟨g, rfl⟩ := as_fun hR
  exact pev_run (by kernel_rfl) w
theorem Hash32_calls (A : Option Addr) (n c : Nat) (ys : List UInt8) (w : World) (hx : RdS w A (by8 ys)) (hn : n = ys.length) (ho : ys.length = 32 ∨ ys.length = 0) : Calls Try.prog 38 #[.slice A n c] w fun e w' => e = .returned (.agg (by8 (hsh ys)).toArray) ∧ Hp w [] [] w' := by
  subst hn
  refine calls_G (args := [.slice A ys.length c]) Try.func38 rfl Try.ntmps38 rfl ?_
  intro Q0 hRet hNor hPan
  have H := Hp.start w
  have H : Hp w [] [] w := H
  refine G.seqK fun K1 hK2 => ?_
  refine G.region ?_
  obtain ⟨p3, w4, r5, H6⟩ := H.alloc (P := Try.prog) 24 (by8 (List.replicate 32 0)) (by kernel_rfl)
  have H6 : Hp w [] [.blk p3 (by8 (List.replicate 32 0)) 24] w4 := H6
  refine GL.sem (j := 1) (r5) [0, 2] [(0, .slice A ys.length c), (2, pt p3 0)] (by kernel_rfl) (by kernel_rfl) rfl ?_
  refine GL.k rfl hK2 (fun _ _ h => h) ?_
  refine G.seqK fun K7 hK8 => ?_
  refine G.region ?_
  obtain ⟨p9, w10, r11, H12⟩ := H6.alloc (P := Try.prog) 24 (by8 (List.replicate 32 0)) (by kernel_rfl)
  have H12 : Hp w [] [.blk p3 (by8 (List.replicate 32 0)) 24, .blk p9 (by8 (List.replicate 32 0)) 24] w10 := H12
  refine GL.sem (j := 1) (r11) [0, 2, 3] [(0, .slice A ys.length c), (2, pt p3 0), (3, pt p9 0)] (by kernel_rfl) (by kernel_rfl) rfl ?_
  refine GL.k rfl hK8 (fun _ _ h => h) ?_
  refine G.seqK fun K13 hK14 => ?_
  refine G.region ?_
  refine GL.run (j := 2) 2 [2, 3, 4, 5] [(2, pt p3 0), (3, pt p9 0), (4, .slice (some ⟨p9, 0, none⟩) 32 32), (5, .slice A ys.length c)] (by kernel_rfl) rfl ?_
  obtain ⟨w15, r16, H17⟩ := H12.copyBlk (P := Try.prog) (o := 0) (n := 32) (c := 32) (m := ys.length) (d := c) (t := 28) (t2 := 28) (ty := 3) (ys := ys) 1 rfl (by kernel_rfl) (hx.hp H12) (rfl) (by omega) (by rw [by8_length, List.length_replicate]; omega)
  rw [hsh_copied ho] at H17
  have H17 : Hp w [] [.blk p3 (by8 (List.replicate 32 0)) 24, .blk p9 (by8 (hsh ys)) 24] w15 := H17
  refine GL.sem (j := 3) (r16) [2, 3] [(2, pt p3 0), (3, pt p9 0)] (by kernel_rfl) (by kernel_rfl) rfl ?_
  refine GL.k rfl hK14 (fun _ _ h => h) ?_
  refine G.seqK fun K18 hK19 => ?_
  refine G.region ?_
  refine GL.sem (j := 1) (H17.ldA (o := 0) (ty := 24) (m := 32) (sub := by8 (hsh ys)) 1 rfl (by kernel_rfl) (sub_whole (by rw [by8_length, hsh_length])) (by rw [by8_length, hsh_length])) [2, 7] [(2, pt p3 0), (7, .agg (by8 (hsh ys)).toArray)] (by kernel_rfl) (by kernel_rfl) rfl ?_
  obtain ⟨w20, r21, H22⟩ := H17.stA (P := Try.prog) (o := 0) (vs := by8 (hsh ys)) (ty := 24) (m := 32) 0 rfl (by kernel_rfl) (by rw [by8_length, hsh_length]) (Nat.le_of_eq (by rw [Nat.zero_add]; exact ((show (by8 (List.replicate 32 0)).length = 32 from by rw [by8_length]; rfl)).symm)) (by8_one _)
  rw [st_whole (by rw [by8_length]; rfl)] at H22
  have H22 : Hp w [] [.blk p3 (by8 (hsh ys)) 24, .blk p9 (by8 (hsh ys)) 24] w20 := H22
  refine GL.semU (j := 2) r21 [2] [(2, pt p3 0)] (by kernel_rfl) rfl rfl rfl ?_
  refine GL.k rfl hK19 (fun _ _ h => h) ?_
  refine G.ret ?_
  intro F_ hF_ hM_
  refine hRet _ _ (bodyPost_1 rfl (RV.cell rfl (H22.ldA (o := 0) (ty := 24) (m := 32) (sub := by8 (hsh ys)) 0 rfl (by kernel_rfl) (sub_whole (by rw [by8_length, hsh_length])) (by rw [by8_length, hsh_length]))) ?_ F_ hF_ hM_)
  exact ⟨rfl, H22.sub (List.nil_sublist _)⟩
def phV (b : List UInt8) : Nat := if b.length = 80 then getB (b.take 4) else 0
def phA (b : List UInt8) : List UInt8 := if b.length = 80 then (b.drop 4).take 32 else List.replicate 32 0
def phR (b : List UInt8) : List UInt8 := if b.length = 80 then (b.drop 36).take 32 else List.replicate 32 0
def phT (b : List UInt8) : Nat := if b.length = 80 then getB ((b.drop 68).take 4) else 0
def phB (b : List UInt8) : Nat := if b.length = 80 then getB ((b.drop 72).take 4) else 0
def phN (b : List UInt8) : Nat := if b.length = 80 then getB ((b.drop 76).take 4) else 0
def phE (b : List UInt8) : Nat := if b.length = 80 then 0 else 2
theorem phA_length (b : List UInt8) : (phA b).length = 32 := by
  unfold phA
  split
  · simp; omega
  · rfl
theorem phR_length (b : List UInt8) : (phR b).length = 32 := by
  unfold phR
  split
  · simp; omega
  · rfl
theorem get4_lt {l : List UInt8} : getB (l.take 4) < 4294967296 := Nat.lt_of_lt_of_le (getB_lt _) (Nat.le_trans (Nat.pow_le_pow_right (by decide) (show (l.take 4).length ≤ 4 by simp; omega)) (by decide))
theorem ph_lt (b : List UInt8) : phV b < 4294967296 ∧ phT b < 4294967296 ∧ phB b < 4294967296 ∧ phN b < 4294967296 := by
  unfold phV phT phB phN
  split
  · exact ⟨get4_lt, get4_lt, get4_lt, get4_lt⟩
  · exact ⟨by decide, by decide, by decide, by decide⟩
theorem HParse_calls (xs : List UInt8) (A : Option Addr) (n c : Nat) (w : World) (hx : RdS w A (by8 xs)) (hn : n = xs.length) (hb : xs.length ≤ 1000000) : Calls Try.prog 17 #[.slice A n c] w fun e w' => e = .returned (.tuple #[.agg (hdC (phV xs) (phA xs) (phR xs) (phT xs) (phB xs) (phN xs)).toArray, .int .i64 ((phE xs : Nat) : Int)]) ∧ Hp w [] [] w' := by
  subst hn
  refine calls_G (args := [.slice A xs.length c]) Try.func17 rfl Try.ntmps17 rfl ?_
  intro Q0 hRet hNor hPan
  have H := Hp.start w
  have H : Hp w [] [] w := H
  refine G.seqK fun K1 hK2 => ?_
  refine G.region ?_
  obtain ⟨p3, w4, r5, H6⟩ := H.alloc (P := Try.prog) 26 (hdC 0 (List.replicate 32 0) (List.replicate 32 0) 0 0 0) (by kernel_rfl)
  have H6 : Hp w [] [.blk p3 (hdC 0 (List.replicate 32 0) (List.replicate 32 0) 0 0 0) 26] w4 := H6
  refine GL.sem (j := 1) (r5) [0, 2] [(0, .slice A xs.length c), (2, pt p3 0)] (by kernel_rfl) (by kernel_rfl) rfl ?_
  refine GL.run (j := 2) 1 [0, 2] [(0, .slice A xs.length c), (2, pt p3 0)] (by kernel_rfl) rfl ?_
  refine GL.k rfl hK2 (fun _ _ h => h) ?_
  refine G.seqK fun K7 hK8 => ?_
  refine G.region ?_
  refine GL.run (j := 1) 1 [2, 6] [(2, pt p3 0), (6, .slice A xs.length c)] (by kernel_rfl) rfl ?_
  refine GL.call (j := 2) (Read_calls xs A xs.length c w4 (hx.hp H6) (rfl) (by omega)) (by kernel_rfl) rfl (fun e_ w14 hR => ?_)
  obtain ⟨p9, A10, c11, rfl, H13⟩ := hR
  have H12 : Hp w [] [.blk p3 (hdC 0 (List.replicate 32 0) (List.replicate 32 0) 0 0 0) 26, .row A10 xs.length c11 5 1 (by8 xs), .blk p9 [.slice A10 xs.length c11, .bool false] 95] w14 := H6.callNew H13
  have hk15 : xs.length = xs.length := rfl
  have hc16 := (H12.rowLe 1 rfl).1
  refine ⟨_, rfl, [2, 7], [(2, pt p3 0), (7, pt p9 0)], by kernel_rfl, ?_⟩
  refine GL.run (j := 3) 1 [2, 4] [(2, pt p3 0), (4, pt p9 0)] (by kernel_rfl) rfl ?_
  refine GL.k rfl hK8 (fun _ _ h => h) ?_
  refine G.seqK fun K17 hK18 => ?_
  refine G.region ?_
  refine GL.run (j := 1) 1 [2, 4, 8] [(2, pt p3 0), (4, pt p9 0), (8, pt p9 0)] (by kernel_rfl) rfl ?_
  obtain ⟨z25, hz25⟩ : ∃ z_ : Bool, z_ = (!(rOK false xs 4)) := ⟨_, rfl⟩
  obtain ⟨q26, hq26⟩ : ∃ q_ : List UInt8, q_ = rR false xs 4 := ⟨_, rfl⟩
  obtain ⟨v27, hv27⟩ : ∃ v_ : List UInt8, v_ = rV false xs 4 := ⟨_, rfl⟩
  have h6q26 : q26.length ≤ 1000000 := by rw [hq26]; refine Nat.le_trans (rR_le _ _ _) ?_; first | exact (by omega) | (rw [← hk15]; exact (by omega))
  have hlv27 : v27.length ≤ 4 := by rw [hv27]; exact rV_le _ _ _
  have hbv27 : getB v27 < 4294967296 := Nat.lt_of_lt_of_le (getB_lt v27) (Nat.le_trans (Nat.pow_le_pow_right (by decide) hlv27) (by decide))
  have H28 := (Hp.reorder (L' := [.blk p9 [.slice A10 xs.length c11, .bool false] 95, .row A10 xs.length c11 5 1 (by8 xs), .blk p3 (hdC 0 (List.replicate 32 0) (List.replicate 32 0) 0 0 0) 26]) H12 (List.Perm.trans (List.Perm.cons _ (List.Perm.swap _ _ _)) (List.Perm.trans (List.Perm.swap _ _ _) (List.Perm.cons _ (List.Perm.trans (List.Perm.swap _ _ _) (List.Perm.refl _))))))
  refine GL.call (j := 2) (Get4_calls (ids [.blk p9 [.slice A10 xs.length c11, .bool false] 95, .row A10 xs.length c11 5 1 (by8 xs)]) p9 A10 xs.length c11 false A10 xs.length c11 xs xs w14 (Hp.startL (A := [.blk p9 [.slice A10 xs.length c11, .bool false] 95, .row A10 xs.length c11 5 1 (by8 xs)]) (B := [.blk p3 (hdC 0 (List.replicate 32 0) (List.replicate 32 0) 0 0 0) 26]) H28) (Cut.refl _ _) (hk15) (hc16) ((by omega))) (by kernel_rfl) rfl (fun e_ w29 hR => ?_)
  obtain ⟨A19, c20, rfl, H31, hC23, hL24⟩ := hR
  simp only [← hz25, ← hq26, ← hv27] at H31 hC23 hL24 ⊢
  have H30 : Hp w [] [.blk p9 [.slice A19 q26.length c20, .bool z25] 95, .row A10 xs.length c11 5 1 (by8 xs), .blk p3 (hdC 0 (List.replicate 32 0) (List.replicate 32 0) 0 0 0) 26] w29 := Hp.callL (A := [.blk p9 [.slice A10 xs.length c11, .bool false] 95, .row A10 xs.length c11 5 1 (by8 xs)]) (B := [.blk p3 (hdC 0 (List.replicate 32 0) (List.replicate 32 0) 0 0 0) 26]) H28 H31
  refine ⟨_, rfl, [2, 4, 9], [(2, pt p3 0), (4, pt p9 0), (9, .int .u64 (((getB v27) : Nat) : Int))], by kernel_rfl, ?_⟩
  refine GL.run (j := 4) 2 [2, 4, 10, 11] [(2, pt p3 0), (4, pt p9 0), (10, .int .u32 (IntKind.u32.wrap (((getB v27) : Nat) : Int))), (11, pt p9 0)] (by kernel_rfl) rfl ?_
  have e32 : (IntKind.u32.wrap (((getB v27) : Nat) : Int)) = (((getB v27) : Nat) : Int) := in_u32 (by omega)
  refine GL.eq (M' := [(2, pt p3 0), (4, pt p9 0), (10, .int .u32 (((getB v27) : Nat) : Int)), (11, pt p9 0)]) (by rw [e32]) ?_
  clear e32
  obtain ⟨z39, hz39⟩ : ∃ z_ : Bool, z_ = (!(rOK z25 q26 32)) := ⟨_, rfl⟩
  obtain ⟨q40, hq40⟩ : ∃ q_ : List UInt8, q_ = rR z25 q26 32 := ⟨_, rfl⟩
  obtain ⟨v41, hv41⟩ : ∃ v_ : List UInt8, v_ = rV z25 q26 32 := ⟨_, rfl⟩
  have h6q40 : q40.length ≤ 1000000 := by rw [hq40]; refine Nat.le_trans (rR_le _ _ _) ?_; first | exact h6q26 | (rw [← rfl]; exact h6q26)
  have hlv41 : v41.length ≤ 32 := by rw [hv41]; exact rV_le _ _ _
  have hov41 : v41.length = 32 ∨ v41.length = 0 := by rw [hv41]; exact rV_or _ _ _
  refine GL.call (j := 5) (Raw_calls (ids [.blk p9 [.slice A19 q26.length c20, .bool z25] 95, .row A10 xs.length c11 5 1 (by8 xs)]) p9 A19 q26.length c20 z25 A10 xs.length c11 xs q26 32 w29 (Hp.startL (A := [.blk p9 [.slice A19 q26.length c20, .bool z25] 95, .row A10 xs.length c11 5 1 (by8 xs)]) (B := [.blk p3 (hdC 0 (List.replicate 32 0) (List.replicate 32 0) 0 0 0) 26]) H30) hC23 (rfl) (hL24) (h6q26)) (by kernel_rfl) rfl (fun e_ w42 hR => ?_)
  obtain ⟨A33, c34, A35, c36, rfl, H44, hC37, hL38⟩ := hR
  simp only [← hz39, ← hq40, ← hv41] at H44 hC37 hL38 ⊢
  have H43 : Hp w [] [.blk p9 [.slice A33 q40.length c34, .bool z39] 95, .row A10 xs.length c11 5 1 (by8 xs), .row A35 v41.length c36 5 1 (by8 v41), .blk p3 (hdC 0 (List.replicate 32 0) (List.replicate 32 0) 0 0 0) 26] w42 := Hp.callL (A := [.blk p9 [.slice A19 q26.length c20, .bool z25] 95, .row A10 xs.length c11 5 1 (by8 xs)]) (B := [.blk p3 (hdC 0 (List.replicate 32 0) (List.replicate 32 0) 0 0 0) 26]) H30 H44
  refine ⟨_, rfl, [2, 4, 10, 12], [(2, pt p3 0), (4, pt p9 0), (10, .int .u32 (((getB v27) : Nat) : Int)), (12, .slice A35 v41.length c36)], by kernel_rfl, ?_⟩
  refine GL.call (j := 6) (Hash32_calls A35 v41.length c36 v41 w42 (H43.rdRow 2 rfl) rfl hov41) (by kernel_rfl) rfl (fun e_ w45 hR => ?_)
  obtain ⟨rfl, H47⟩ := hR
  have H46 : Hp w [] [.blk p9 [.slice A33 q40.length c34, .bool z39] 95, .row A10 xs.length c11 5 1 (by8 xs), .row A35 v41.length c36 5 1 (by8 v41), .blk p3 (hdC 0 (List.replicate 32 0) (List.replicate 32 0) 0 0 0) 26] w45 := H43.callNil H47
  refine ⟨_, rfl, [2, 4, 10, 13], [(2, pt p3 0), (4, pt p9 0), (10, .int .u32 (((getB v27) : Nat) : Int)), (13, .agg (by8 (hsh v41)).toArray)], by kernel_rfl, ?_⟩
  refine GL.run (j := 7) 1 [2, 4, 10, 13, 14] [(2, pt p3 0), (4, pt p9 0), (10, .int .u32 (((getB v27) : Nat) : Int)), (13, .agg (by8 (hsh v41)).toArray), (14, pt p9 0)] (by kernel_rfl) rfl ?_
  obtain ⟨z54, hz54⟩ : ∃ z_ : Bool, z_ = (!(rOK z39 q40 32)) := ⟨_, rfl⟩
  obtain ⟨q55, hq55⟩ : ∃ q_ : List UInt8, q_ = rR z39 q40 32 := ⟨_, rfl⟩
  obtain ⟨v56, hv56⟩ : ∃ v_ : List UInt8, v_ = rV z39 q40 32 := ⟨_, rfl⟩
  have h6q55 : q55.length ≤ 1000000 := by rw [hq55]; refine Nat.le_trans (rR_le _ _ _) ?_; first | exact h6q40 | (rw [← rfl]; exact h6q40)
  have hlv56 : v56.length ≤ 32 := by rw [hv56]; exact rV_le _ _ _
  have hov56 : v56.length = 32 ∨ v56.length = 0 := by rw [hv56]; exact rV_or _ _ _
  refine GL.call (j := 8) (Raw_calls (ids [.blk p9 [.slice A33 q40.length c34, .bool z39] 95, .row A10 xs.length c11 5 1 (by8 xs)]) p9 A33 q40.length c34 z39 A10 xs.length c11 xs q40 32 w45 (Hp.startL (A := [.blk p9 [.slice A33 q40.length c34, .bool z39] 95, .row A10 xs.length c11 5 1 (by8 xs)]) (B := [.row A35 v41.length c36 5 1 (by8 v41), .blk p3 (hdC 0 (List.replicate 32 0) (List.replicate 32 0) 0 0 0) 26]) H46) hC37 (rfl) (hL38) (h6q40)) (by kernel_rfl) rfl (fun e_ w57 hR => ?_)
  obtain ⟨A48, c49, A50, c51, rfl, H59, hC52, hL53⟩ := hR
  simp only [← hz54, ← hq55, ← hv56] at H59 hC52 hL53 ⊢
  have H58 : Hp w [] [.blk p9 [.slice A48 q55.length c49, .bool z54] 95, .row A10 xs.length c11 5 1 (by8 xs), .row A50 v56.length c51 5 1 (by8 v56), .row A35 v41.length c36 5 1 (by8 v41), .blk p3 (hdC 0 (List.replicate 32 0) (List.replicate 32 0) 0 0 0) 26] w57 := Hp.callL (A := [.blk p9 [.slice A33 q40.length c34, .bool z39] 95, .row A10 xs.length c11 5 1 (by8 xs)]) (B := [.row A35 v41.length c36 5 1 (by8 v41), .blk p3 (hdC 0 (List.replicate 32 0) (List.replicate 32 0) 0 0 0) 26]) H46 H59
  refine ⟨_, rfl, [2, 4, 10, 13, 15], [(2, pt p3 0), (4, pt p9 0), (10, .int .u32 (((getB v27) : Nat) : Int)), (13, .agg (by8 (hsh v41)).toArray), (15, .slice A50 v56.length c51)], by kernel_rfl, ?_⟩
  refine GL.call (j := 9) (Hash32_calls A50 v56.length c51 v56 w57 (H58.rdRow 2 rfl) rfl hov56) (by kernel_rfl) rfl (fun e_ w60 hR => ?_)
  obtain ⟨rfl, H62⟩ := hR
  have H61 : Hp w [] [.blk p9 [.slice A48 q55.length c49, .bool z54] 95, .row A10 xs.length c11 5 1 (by8 xs), .row A50 v56.length c51 5 1 (by8 v56), .row A35 v41.length c36 5 1 (by8 v41), .blk p3 (hdC 0 (List.replicate 32 0) (List.replicate 32 0) 0 0 0) 26] w60 := H58.callNil H62
  refine ⟨_, rfl, [2, 4, 10, 13, 16], [(2, pt p3 0), (4, pt p9 0), (10, .int .u32 (((getB v27) : Nat) : Int)), (13, .agg (by8 (hsh v41)).toArray), (16, .agg (by8 (hsh v56)).toArray)], by kernel_rfl, ?_⟩
  refine GL.run (j := 10) 1 [2, 4, 10, 13, 16, 17] [(2, pt p3 0), (4, pt p9 0), (10, .int .u32 (((getB v27) : Nat) : Int)), (13, .agg (by8 (hsh v41)).toArray), (16, .agg (by8 (hsh v56)).toArray), (17, pt p9 0)] (by kernel_rfl) rfl ?_
  obtain ⟨z69, hz69⟩ : ∃ z_ : Bool, z_ = (!(rOK z54 q55 4)) := ⟨_, rfl⟩
  obtain ⟨q70, hq70⟩ : ∃ q_ : List UInt8, q_ = rR z54 q55 4 := ⟨_, rfl⟩
  obtain ⟨v71, hv71⟩ : ∃ v_ : List UInt8, v_ = rV z54 q55 4 := ⟨_, rfl⟩
  have h6q70 : q70.length ≤ 1000000 := by rw [hq70]; refine Nat.le_trans (rR_le _ _ _) ?_; first | exact h6q55 | (rw [← rfl]; exact h6q55)
  have hlv71 : v71.length ≤ 4 := by rw [hv71]; exact rV_le _ _ _
  have hbv71 : getB v71 < 4294967296 := Nat.lt_of_lt_of_le (getB_lt v71) (Nat.le_trans (Nat.pow_le_pow_right (by decide) hlv71) (by decide))
  refine GL.call (j := 11) (Get4_calls (ids [.blk p9 [.slice A48 q55.length c49, .bool z54] 95, .row A10 xs.length c11 5 1 (by8 xs)]) p9 A48 q55.length c49 z54 A10 xs.length c11 xs q55 w60 (Hp.startL (A := [.blk p9 [.slice A48 q55.length c49, .bool z54] 95, .row A10 xs.length c11 5 1 (by8 xs)]) (B := [.row A50 v56.length c51 5 1 (by8 v56), .row A35 v41.length c36 5 1 (by8 v41), .blk p3 (hdC 0 (List.replicate 32 0) (List.replicate 32 0) 0 0 0) 26]) H61) hC52 (rfl) (hL53) (h6q55)) (by kernel_rfl) rfl (fun e_ w72 hR => ?_)
  obtain ⟨A63, c64, rfl, H74, hC67, hL68⟩ := hR
  simp only [← hz69, ← hq70, ← hv71] at H74 hC67 hL68 ⊢
  have H73 : Hp w [] [.blk p9 [.slice A63 q70.length c64, .bool z69] 95, .row A10 xs.length c11 5 1 (by8 xs), .row A50 v56.length c51 5 1 (by8 v56), .row A35 v41.length c36 5 1 (by8 v41), .blk p3 (hdC 0 (List.replicate 32 0) (List.replicate 32 0) 0 0 0) 26] w72 := Hp.callL (A := [.blk p9 [.slice A48 q55.length c49, .bool z54] 95, .row A10 xs.length c11 5 1 (by8 xs)]) (B := [.row A50 v56.length c51 5 1 (by8 v56), .row A35 v41.length c36 5 1 (by8 v41), .blk p3 (hdC 0 (List.replicate 32 0) (List.replicate 32 0) 0 0 0) 26]) H61 H74
  refine ⟨_, rfl, [2, 4, 10, 13, 16, 18], [(2, pt p3 0), (4, pt p9 0), (10, .int .u32 (((getB v27) : Nat) : Int)), (13, .agg (by8 (hsh v41)).toArray), (16, .agg (by8 (hsh v56)).toArray), (18, .int .u64 (((getB v71) : Nat) : Int))], by kernel_rfl, ?_⟩
  refine GL.run (j := 13) 2 [2, 4, 10, 13, 16, 19, 20] [(2, pt p3 0), (4, pt p9 0), (10, .int .u32 (((getB v27) : Nat) : Int)), (13, .agg (by8 (hsh v41)).toArray), (16, .agg (by8 (hsh v56)).toArray), (19, .int .u32 (IntKind.u32.wrap (((getB v71) : Nat) : Int))), (20, pt p9 0)] (by kernel_rfl) rfl ?_
  have e75 : (IntKind.u32.wrap (((getB v71) : Nat) : Int)) = (((getB v71) : Nat) : Int) := in_u32 (by omega)
  refine GL.eq (M' := [(2, pt p3 0), (4, pt p9 0), (10, .int .u32 (((getB v27) : Nat) : Int)), (13, .agg (by8 (hsh v41)).toArray), (16, .agg (by8 (hsh v56)).toArray), (19, .int .u32 (((getB v71) : Nat) : Int)), (20, pt p9 0)]) (by rw [e75]) ?_
  clear e75
  obtain ⟨z82, hz82⟩ : ∃ z_ : Bool, z_ = (!(rOK z69 q70 4)) := ⟨_, rfl⟩
  obtain ⟨q83, hq83⟩ : ∃ q_ : List UInt8, q_ = rR z69 q70 4 := ⟨_, rfl⟩
  obtain ⟨v84, hv84⟩ : ∃ v_ : List UInt8, v_ = rV z69 q70 4 := ⟨_, rfl⟩
  have h6q83 : q83.length ≤ 1000000 := by rw [hq83]; refine Nat.le_trans (rR_le _ _ _) ?_; first | exact h6q70 | (rw [← rfl]; exact h6q70)
  have hlv84 : v84.length ≤ 4 := by rw [hv84]; exact rV_le _ _ _
  have hbv84 : getB v84 < 4294967296 := Nat.lt_of_lt_of_le (getB_lt v84) (Nat.le_trans (Nat.pow_le_pow_right (by decide) hlv84) (by decide))
  refine GL.call (j := 14) (Get4_calls (ids [.blk p9 [.slice A63 q70.length c64, .bool z69] 95, .row A10 xs.length c11 5 1 (by8 xs)]) p9 A63 q70.length c64 z69 A10 xs.length c11 xs q70 w72 (Hp.startL (A := [.blk p9 [.slice A63 q70.length c64, .bool z69] 95, .row A10 xs.length c11 5 1 (by8 xs)]) (B := [.row A50 v56.length c51 5 1 (by8 v56), .row A35 v41.length c36 5 1 (by8 v41), .blk p3 (hdC 0 (List.replicate 32 0) (List.replicate 32 0) 0 0 0) 26]) H73) hC67 (rfl) (hL68) (h6q70)) (by kernel_rfl) rfl (fun e_ w85 hR => ?_)
  obtain ⟨A76, c77, rfl, H87, hC80, hL81⟩ := hR
  simp only [← hz82, ← hq83, ← hv84] at H87 hC80 hL81 ⊢
  have H86 : Hp w [] [.blk p9 [.slice A76 q83.length c77, .bool z82] 95, .row A10 xs.length c11 5 1 (by8 xs), .row A50 v56.length c51 5 1 (by8 v56), .row A35 v41.length c36 5 1 (by8 v41), .blk p3 (hdC 0 (List.replicate 32 0) (List.replicate 32 0) 0 0 0) 26] w85 := Hp.callL (A := [.blk p9 [.slice A63 q70.length c64, .bool z69] 95, .row A10 xs.length c11 5 1 (by8 xs)]) (B := [.row A50 v56.length c51 5 1 (by8 v56), .row A35 v41.length c36 5 1 (by8 v41), .blk p3 (hdC 0 (List.replicate 32 0) (List.replicate 32 0) 0 0 0) 26]) H73 H87
  refine ⟨_, rfl, [2, 4, 10, 13, 16, 19, 21], [(2, pt p3 0), (4, pt p9 0), (10, .int .u32 (((getB v27) : Nat) : Int)), (13, .agg (by8 (hsh v41)).toArray), (16, .agg (by8 (hsh v56)).toArray), (19, .int .u32 (((getB v71) : Nat) : Int)), (21, .int .u64 (((getB v84) : Nat) : Int))], by kernel_rfl, ?_⟩
  refine GL.run (j := 16) 2 [2, 4, 10, 13, 16, 19, 22, 23] [(2, pt p3 0), (4, pt p9 0), (10, .int .u32 (((getB v27) : Nat) : Int)), (13, .agg (by8 (hsh v41)).toArray), (16, .agg (by8 (hsh v56)).toArray), (19, .int .u32 (((getB v71) : Nat) : Int)), (22, .int .u32 (IntKind.u32.wrap (((getB v84) : Nat) : Int))), (23, pt p9 0)] (by kernel_rfl) rfl ?_
  have e88 : (IntKind.u32.wrap (((getB v84) : Nat) : Int)) = (((getB v84) : Nat) : Int) := in_u32 (by omega)
  refine GL.eq (M' := [(2, pt p3 0), (4, pt p9 0), (10, .int .u32 (((getB v27) : Nat) : Int)), (13, .agg (by8 (hsh v41)).toArray), (16, .agg (by8 (hsh v56)).toArray), (19, .int .u32 (((getB v71) : Nat) : Int)), (22, .int .u32 (((getB v84) : Nat) : Int)), (23, pt p9 0)]) (by rw [e88]) ?_
  clear e88
  obtain ⟨z95, hz95⟩ : ∃ z_ : Bool, z_ = (!(rOK z82 q83 4)) := ⟨_, rfl⟩
  obtain ⟨q96, hq96⟩ : ∃ q_ : List UInt8, q_ = rR z82 q83 4 := ⟨_, rfl⟩
  obtain ⟨v97, hv97⟩ : ∃ v_ : List UInt8, v_ = rV z82 q83 4 := ⟨_, rfl⟩
  have h6q96 : q96.length ≤ 1000000 := by rw [hq96]; refine Nat.le_trans (rR_le _ _ _) ?_; first | exact h6q83 | (rw [← rfl]; exact h6q83)
  have hlv97 : v97.length ≤ 4 := by rw [hv97]; exact rV_le _ _ _
  have hbv97 : getB v97 < 4294967296 := Nat.lt_of_lt_of_le (getB_lt v97) (Nat.le_trans (Nat.pow_le_pow_right (by decide) hlv97) (by decide))
  refine GL.call (j := 17) (Get4_calls (ids [.blk p9 [.slice A76 q83.length c77, .bool z82] 95, .row A10 xs.length c11 5 1 (by8 xs)]) p9 A76 q83.length c77 z82 A10 xs.length c11 xs q83 w85 (Hp.startL (A := [.blk p9 [.slice A76 q83.length c77, .bool z82] 95, .row A10 xs.length c11 5 1 (by8 xs)]) (B := [.row A50 v56.length c51 5 1 (by8 v56), .row A35 v41.length c36 5 1 (by8 v41), .blk p3 (hdC 0 (List.replicate 32 0) (List.replicate 32 0) 0 0 0) 26]) H86) hC80 (rfl) (hL81) (h6q83)) (by kernel_rfl) rfl (fun e_ w98 hR => ?_)
  obtain ⟨A89, c90, rfl, H100, hC93, hL94⟩ := hR
  simp only [← hz95, ← hq96, ← hv97] at H100 hC93 hL94 ⊢
  have H99 : Hp w [] [.blk p9 [.slice A89 q96.length c90, .bool z95] 95, .row A10 xs.length c11 5 1 (by8 xs), .row A50 v56.length c51 5 1 (by8 v56), .row A35 v41.length c36 5 1 (by8 v41), .blk p3 (hdC 0 (List.replicate 32 0) (List.replicate 32 0) 0 0 0) 26] w98 := Hp.callL (A := [.blk p9 [.slice A76 q83.length c77, .bool z82] 95, .row A10 xs.length c11 5 1 (by8 xs)]) (B := [.row A50 v56.length c51 5 1 (by8 v56), .row A35 v41.length c36 5 1 (by8 v41), .blk p3 (hdC 0 (List.replicate 32 0) (List.replicate 32 0) 0 0 0) 26]) H86 H100
  refine ⟨_, rfl, [2, 4, 10, 13, 16, 19, 22, 24], [(2, pt p3 0), (4, pt p9 0), (10, .int .u32 (((getB v27) : Nat) : Int)), (13, .agg (by8 (hsh v41)).toArray), (16, .agg (by8 (hsh v56)).toArray), (19, .int .u32 (((getB v71) : Nat) : Int)), (22, .int .u32 (((getB v84) : Nat) : Int)), (24, .int .u64 (((getB v97) : Nat) : Int))], by kernel_rfl, ?_⟩
  refine GL.run (j := 18) 1 [2, 4, 10, 13, 16, 19, 22, 25] [(2, pt p3 0), (4, pt p9 0), (10, .int .u32 (((getB v27) : Nat) : Int)), (13, .agg (by8 (hsh v41)).toArray), (16, .agg (by8 (hsh v56)).toArray), (19, .int .u32 (((getB v71) : Nat) : Int)), (22, .int .u32 (((getB v84) : Nat) : Int)), (25, .int .u32 (IntKind.u32.wrap (((getB v97) : Nat) : Int)))] (by kernel_rfl) rfl ?_
  have e101 : (IntKind.u32.wrap (((getB v97) : Nat) : Int)) = (((getB v97) : Nat) : Int) := in_u32 (by omega)
  refine GL.eq (M' := [(2, pt p3 0), (4, pt p9 0), (10, .int .u32 (((getB v27) : Nat) : Int)), (13, .agg (by8 (hsh v41)).toArray), (16, .agg (by8 (hsh v56)).toArray), (19, .int .u32 (((getB v71) : Nat) : Int)), (22, .int .u32 (((getB v84) : Nat) : Int)), (25, .int .u32 (((getB v97) : Nat) : Int))]) (by rw [e101]) ?_
  clear e101
  refine GL.sem (j := 19) (run_hdBuild (getB v27) (hsh v41) (hsh v56) (getB v71) (getB v84) (getB v97) (hsh_length _) (hsh_length _) _) [2, 4, 26] [(2, pt p3 0), (4, pt p9 0), (26, .agg (hdC (getB v27) (hsh v41) (hsh v56) (getB v71) (getB v84) (getB v97)).toArray)] (by kernel_rfl) (by kernel_rfl) rfl ?_
  obtain ⟨p102, w103, r104, H105⟩ := H99.alloc (P := Try.prog) 26 (hdC 0 (List.replicate 32 0) (List.replicate 32 0) 0 0 0) (by kernel_rfl)
  have H105 : Hp w [] [.blk p9 [.slice A89 q96.length c90, .bool z95] 95, .row A10 xs.length c11 5 1 (by8 xs), .row A50 v56.length c51 5 1 (by8 v56), .row A35 v41.length c36 5 1 (by8 v41), .blk p3 (hdC 0 (List.replicate 32 0) (List.replicate 32 0) 0 0 0) 26, .blk p102 (hdC 0 (List.replicate 32 0) (List.replicate 32 0) 0 0 0) 26] w103 := H105
  refine GL.sem (j := 20) (r104) [2, 4, 5, 26] [(2, pt p3 0), (4, pt p9 0), (5, pt p102 0), (26, .agg (hdC (getB v27) (hsh v41) (hsh v56) (getB v71) (getB v84) (getB v97)).toArray)] (by kernel_rfl) (by kernel_rfl) rfl ?_
  obtain ⟨w106, r107, H108⟩ := H105.stA (P := Try.prog) (o := 0) (vs := hdC (getB v27) (hsh v41) (hsh v56) (getB v71) (getB v84) (getB v97)) (ty := 26) (m := 68) 5 rfl (by kernel_rfl) (hdC_length (hsh_length _) (hsh_length _)) (by rw [Nat.zero_add, hdC_length rfl rfl]; exact Nat.le_refl _) hdC_one
  rw [st_whole (hdC_length rfl rfl)] at H108
  have H108 : Hp w [] [.blk p9 [.slice A89 q96.length c90, .bool z95] 95, .row A10 xs.length c11 5 1 (by8 xs), .row A50 v56.length c51 5 1 (by8 v56), .row A35 v41.length c36 5 1 (by8 v41), .blk p3 (hdC 0 (List.replicate 32 0) (List.replicate 32 0) 0 0 0) 26, .blk p102 (hdC (getB v27) (hsh v41) (hsh v56) (getB v71) (getB v84) (getB v97)) 26] w106 := H108
  refine GL.semU (j := 21) r107 [2, 4, 5] [(2, pt p3 0), (4, pt p9 0), (5, pt p102 0)] (by kernel_rfl) rfl rfl rfl ?_
  refine GL.k rfl hK18 (fun _ _ h => h) ?_
  refine G.seqK fun K109 hK110 => ?_
  refine G.seqK fun K111 hK112 => ?_
  refine G.region ?_
  refine GL.run (j := 1) 1 [2, 5, 27] [(2, pt p3 0), (5, pt p102 0), (27, pt p9 0)] (by kernel_rfl) rfl ?_
  refine GL.call (j := 2) (End_calls (ids [.blk p9 [.slice A89 q96.length c90, .bool z95] 95, .row A10 xs.length c11 5 1 (by8 xs)]) p9 A89 q96.length c90 z95 A10 xs.length c11 xs q96 w106 (Hp.startL (A := [.blk p9 [.slice A89 q96.length c90, .bool z95] 95, .row A10 xs.length c11 5 1 (by8 xs)]) (B := [.row A50 v56.length c51 5 1 (by8 v56), .row A35 v41.length c36 5 1 (by8 v41), .blk p3 (hdC 0 (List.replicate 32 0) (List.replicate 32 0) 0 0 0) 26, .blk p102 (hdC (getB v27) (hsh v41) (hsh v56) (getB v71) (getB v84) (getB v97)) 26]) H108) (rfl)) (by kernel_rfl) rfl (fun e_ w113 hR => ?_)
  obtain ⟨rfl, H115⟩ := hR
  have H114 : Hp w [] [.blk p9 [.slice A89 q96.length c90, .bool z95] 95, .row A10 xs.length c11 5 1 (by8 xs), .row A50 v56.length c51 5 1 (by8 v56), .row A35 v41.length c36 5 1 (by8 v41), .blk p3 (hdC 0 (List.replicate 32 0) (List.replicate 32 0) 0 0 0) 26, .blk p102 (hdC (getB v27) (hsh v41) (hsh v56) (getB v71) (getB v84) (getB v97)) 26] w113 := Hp.callL (A := [.blk p9 [.slice A89 q96.length c90, .bool z95] 95, .row A10 xs.length c11 5 1 (by8 xs)]) (B := [.row A50 v56.length c51 5 1 (by8 v56), .row A35 v41.length c36 5 1 (by8 v41), .blk p3 (hdC 0 (List.replicate 32 0) (List.replicate 32 0) 0 0 0) 26, .blk p102 (hdC (getB v27) (hsh v41) (hsh v56) (getB v71) (getB v84) (getB v97)) 26]) H108 H115
  refine ⟨_, rfl, [2, 5, 28], [(2, pt p3 0), (5, pt p102 0), (28, .bool (endB z95 q96))], by kernel_rfl, ?_⟩
  refine GL.run (j := 3) 1 [2, 5, 29] [(2, pt p3 0), (5, pt p102 0), (29, .bool (!(endB z95 q96)))] (by kernel_rfl) rfl ?_
  refine GL.k rfl hK112 (fun _ _ h => h) ?_
  cases hb116 : (endB z95 q96)
  · skip
    have h80 : xs.length ≠ 80 := by
      intro h80
      obtain ⟨f117, hdq26, htv27⟩ := rd_on hz25 hq26 hv27 rfl (by omega)
      have hgq26 := congrArg List.length hdq26
      rw [List.length_drop] at hgq26
      obtain ⟨f118, hdq40, htv41⟩ := rd_on hz39 hq40 hv41 f117 (by omega)
      have hgq40 := congrArg List.length hdq40
      rw [List.length_drop] at hgq40
      obtain ⟨f119, hdq55, htv56⟩ := rd_on hz54 hq55 hv56 f118 (by omega)
      have hgq55 := congrArg List.length hdq55
      rw [List.length_drop] at hgq55
      obtain ⟨f120, hdq70, htv71⟩ := rd_on hz69 hq70 hv71 f119 (by omega)
      have hgq70 := congrArg List.length hdq70
      rw [List.length_drop] at hgq70
      obtain ⟨f121, hdq83, htv84⟩ := rd_on hz82 hq83 hv84 f120 (by omega)
      have hgq83 := congrArg List.length hdq83
      rw [List.length_drop] at hgq83
      obtain ⟨f122, hdq96, htv97⟩ := rd_on hz95 hq96 hv97 f121 (by omega)
      have hgq96 := congrArg List.length hdq96
      rw [List.length_drop] at hgq96
      exact endB_false hb116 f122 (by omega)
    refine G.yes rfl ?_
    refine G.seqK fun K123 hK124 => ?_
    refine G.region ?_
    refine GL.run (j := 1) 1 [2, 30] [(2, pt p3 0), (30, .agg (hdC 0 (List.replicate 32 0) (List.replicate 32 0) 0 0 0).toArray)] (by kernel_rfl) rfl ?_
    obtain ⟨w125, r126, H127⟩ := H114.stA (P := Try.prog) (o := 0) (vs := hdC 0 (List.replicate 32 0) (List.replicate 32 0) 0 0 0) (ty := 26) (m := 68) 4 rfl (by kernel_rfl) (hdC_length rfl rfl) (by rw [Nat.zero_add, hdC_length rfl rfl]; exact Nat.le_refl _) hdC_one
    rw [st_whole (hdC_length rfl rfl)] at H127
    have H127 : Hp w [] [.blk p9 [.slice A89 q96.length c90, .bool z95] 95, .row A10 xs.length c11 5 1 (by8 xs), .row A50 v56.length c51 5 1 (by8 v56), .row A35 v41.length c36 5 1 (by8 v41), .blk p3 (hdC 0 (List.replicate 32 0) (List.replicate 32 0) 0 0 0) 26, .blk p102 (hdC (getB v27) (hsh v41) (hsh v56) (getB v71) (getB v84) (getB v97)) 26] w125 := H127
    refine GL.semU (j := 2) r126 [2] [(2, pt p3 0)] (by kernel_rfl) rfl rfl rfl ?_
    refine GL.run (j := 3) 1 [2, 3] [(2, pt p3 0), (3, .int .i64 2)] (by kernel_rfl) rfl ?_
    refine GL.k rfl hK124 (fun _ _ h => h) ?_
    refine G.ret ?_
    intro F_ hF_ hM_
    refine hRet _ _ (bodyPost_2 rfl (RV.cell rfl (H127.ldA (o := 0) (ty := 26) (m := 68) (sub := hdC 0 (List.replicate 32 0) (List.replicate 32 0) 0 0 0) 4 rfl (by kernel_rfl) (sub_whole (hdC_length rfl rfl)) (hdC_length rfl rfl))) (RV.tmp rfl) ?_ F_ hF_ hM_)
    rw [show phV xs = 0 from if_neg h80, show phA xs = (List.replicate 32 0) from if_neg h80, show phR xs = (List.replicate 32 0) from if_neg h80, show phT xs = 0 from if_neg h80, show phB xs = 0 from if_neg h80, show phN xs = 0 from if_neg h80, show phE xs = 2 from if_neg h80]
    exact ⟨rfl, H127.sub (List.nil_sublist _)⟩
  · skip
    have hzz := endB_true hb116
    obtain ⟨f128, hnq96, hdq96, htv97⟩ := rd_back hz95 hq96 hv97 hzz.1
    obtain ⟨f129, hnq83, hdq83, htv84⟩ := rd_back hz82 hq83 hv84 f128
    obtain ⟨f130, hnq70, hdq70, htv71⟩ := rd_back hz69 hq70 hv71 f129
    obtain ⟨f131, hnq55, hdq55, htv56⟩ := rd_back hz54 hq55 hv56 f130
    obtain ⟨f132, hnq40, hdq40, htv41⟩ := rd_back hz39 hq40 hv41 f131
    obtain ⟨f133, hnq26, hdq26, htv27⟩ := rd_back hz25 hq26 hv27 f132
    have hgq26 := congrArg List.length hdq26
    rw [List.length_drop] at hgq26
    have hgq40 := congrArg List.length hdq40
    rw [List.length_drop] at hgq40
    have hgq55 := congrArg List.length hdq55
    rw [List.length_drop] at hgq55
    have hgq70 := congrArg List.length hdq70
    rw [List.length_drop] at hgq70
    have hgq83 := congrArg List.length hdq83
    rw [List.length_drop] at hgq83
    have hgq96 := congrArg List.length hdq96
    rw [List.length_drop] at hgq96
    have h80 : xs.length = 80 := by omega
    have hwv27 : v27 = (xs.drop 0).take 4 := by rw [htv27, List.drop_zero]
    have hwv41 : v41 = (xs.drop 4).take 32 := by rw [htv41, hdq26]
    have hwv56 : v56 = (xs.drop 36).take 32 := by simp only [htv56, hdq26, hdq40, List.drop_drop]
    have hwv71 : v71 = (xs.drop 68).take 4 := by simp only [htv71, hdq26, hdq40, hdq55, List.drop_drop]
    have hwv84 : v84 = (xs.drop 72).take 4 := by simp only [htv84, hdq26, hdq40, hdq55, hdq70, List.drop_drop]
    have hwv97 : v97 = (xs.drop 76).take 4 := by simp only [htv97, hdq26, hdq40, hdq55, hdq70, hdq83, List.drop_drop]
    refine G.no rfl ?_
    refine G.skipK hK110 (fun _ _ h => h) ?_
    refine G.seqK fun K134 hK135 => ?_
    refine G.region ?_
    refine GL.sem (j := 1) (H114.ldA (o := 0) (ty := 26) (m := 68) (sub := hdC (getB v27) (hsh v41) (hsh v56) (getB v71) (getB v84) (getB v97)) 5 rfl (by kernel_rfl) (sub_whole (hdC_length (hsh_length _) (hsh_length _))) (hdC_length (hsh_length _) (hsh_length _))) [2, 31] [(2, pt p3 0), (31, .agg (hdC (getB v27) (hsh v41) (hsh v56) (getB v71) (getB v84) (getB v97)).toArray)] (by kernel_rfl) (by kernel_rfl) rfl ?_
    obtain ⟨w136, r137, H138⟩ := H114.stA (P := Try.prog) (o := 0) (vs := hdC (getB v27) (hsh v41) (hsh v56) (getB v71) (getB v84) (getB v97)) (ty := 26) (m := 68) 4 rfl (by kernel_rfl) (hdC_length (hsh_length _) (hsh_length _)) (by rw [Nat.zero_add, hdC_length rfl rfl]; exact Nat.le_refl _) hdC_one
    rw [st_whole (hdC_length rfl rfl)] at H138
    have H138 : Hp w [] [.blk p9 [.slice A89 q96.length c90, .bool z95] 95, .row A10 xs.length c11 5 1 (by8 xs), .row A50 v56.length c51 5 1 (by8 v56), .row A35 v41.length c36 5 1 (by8 v41), .blk p3 (hdC (getB v27) (hsh v41) (hsh v56) (getB v71) (getB v84) (getB v97)) 26, .blk p102 (hdC (getB v27) (hsh v41) (hsh v56) (getB v71) (getB v84) (getB v97)) 26] w136 := H138
    refine GL.semU (j := 2) r137 [2] [(2, pt p3 0)] (by kernel_rfl) rfl rfl rfl ?_
    refine GL.run (j := 3) 1 [2, 3] [(2, pt p3 0), (3, .int .i64 0)] (by kernel_rfl) rfl ?_
    refine GL.k rfl hK135 (fun _ _ h => h) ?_
    refine G.ret ?_
    intro F_ hF_ hM_
    refine hRet _ _ (bodyPost_2 rfl (RV.cell rfl (H138.ldA (o := 0) (ty := 26) (m := 68) (sub := hdC (getB v27) (hsh v41) (hsh v56) (getB v71) (getB v84) (getB v97)) 4 rfl (by kernel_rfl) (sub_whole (hdC_length (hsh_length _) (hsh_length _))) (hdC_length (hsh_length _) (hsh_length _)))) (RV.tmp rfl) ?_ F_ hF_ hM_)
    have ephV : phV xs = getB v27 := by unfold phV; rw [if_pos h80]; rw [hwv27]; try (first | rfl | simp)
    have ephA : phA xs = hsh v41 := by unfold phA; rw [if_pos h80]; rw [hsh_of (by rw [hwv41]; simp; omega), hwv41]
    have ephR : phR xs = hsh v56 := by unfold phR; rw [if_pos h80]; rw [hsh_of (by rw [hwv56]; simp; omega), hwv56]
    have ephT : phT xs = getB v71 := by unfold phT; rw [if_pos h80]; rw [hwv71]; try (first | rfl | simp)
    have ephB : phB xs = getB v84 := by unfold phB; rw [if_pos h80]; rw [hwv84]; try (first | rfl | simp)
    have ephN : phN xs = getB v97 := by unfold phN; rw [if_pos h80]; rw [hwv97]; try (first | rfl | simp)
    rw [ephV, ephA, ephR, ephT, ephB, ephN, show phE xs = 0 from if_pos h80]
    exact ⟨rfl, H138.sub (List.nil_sublist _)⟩
end Go.Proofs.Ytdepaaphgfapjaa
namespace Go.Proofs.Ytdepaaphgfapjaa
open Go.RowKit
theorem n_byte256 (x : Nat) : IntKind.u8.wrap ((x % 256 : Nat) : Int) = (((UInt8.ofNat x).toNat : Nat) : Int) := by rw [IntKind.wrap_u8, u8_ofNat]; omega
theorem RPut_calls (x n : Nat) (hx : x < K) (hn : n ≤ 1000) (w : World) : Calls Try.prog 50 #[.int .u64 (x : Int), .int .i64 (n : Int)] w fun e w' => ∃ A c, e = .returned (.slice A n c) ∧ Hp w [] [.row A n c 5 1 (by8 (putB x n))] w' := by
  refine calls_G (args := [.int .u64 (x : Int), .int .i64 (n : Int)]) Try.func50 rfl Try.ntmps50 rfl ?_
  intro Q0 hRet hNor hPan
  have H := Hp.start w
  have H : Hp w [] [] w := H
  refine G.seqK fun K1 hK2 => ?_
  refine G.region ?_
  refine GL.run (j := 1) 1 [0, 1] [(0, .int .u64 (x : Int)), (1, .int .i64 (n : Int))] (by kernel_rfl) rfl ?_
  refine GL.k rfl hK2 (fun _ _ h => h) ?_
  refine G.seqK fun K3 hK4 => ?_
  refine G.region ?_
  obtain ⟨p5, w6, r7, H8⟩ := H.madeRow (P := Try.prog) (Instr.buildSlice 28 0 #[]) (fun b_ => .slice (some ⟨b_, 0, none⟩) 0 0) [] 5 0 0 1 (by kernel_rfl) (by decide) (by decide) rfl
  have H8 : Hp w [] [.row (some ⟨p5, 0, none⟩) 0 0 5 1 (by8 ([] : List UInt8))] w6 := H8
  refine GL.sem (j := 1) (r7) [0, 1, 7] [(0, .int .u64 (x : Int)), (1, .int .i64 (n : Int)), (7, .slice (some ⟨p5, 0, none⟩) 0 0)] (by kernel_rfl) (by kernel_rfl) rfl ?_
  refine GL.run (j := 2) 1 [0, 1, 5] [(0, .int .u64 (x : Int)), (1, .int .i64 (n : Int)), (5, .slice (some ⟨p5, 0, none⟩) 0 0)] (by kernel_rfl) rfl ?_
  refine GL.k rfl hK4 (fun _ _ h => h) ?_
  refine G.seqK fun K9 hK10 => ?_
  refine G.seqK fun K11 hK12 => ?_
  refine G.region ?_
  refine GL.run (j := 1) 1 [0, 1, 5, 6] [(0, .int .u64 (x : Int)), (1, .int .i64 (n : Int)), (5, .slice (some ⟨p5, 0, none⟩) 0 0), (6, .int .i64 0)] (by kernel_rfl) rfl ?_
  refine GL.k rfl hK12 (fun _ _ h => h) ?_
  refine G.block ?_
  refine G.fit [0, 1, 5, 6] (M' := [(0, .int .u64 (x : Int)), (1, .int .i64 (n : Int)), (5, .slice (some ⟨p5, 0, none⟩) 0 0), (6, .int .i64 0)]) (by kernel_rfl) ?_
  refine G.eq (M' := [(0, .int .u64 ((x / 256 ^ 0 : Nat) : Int)), (1, .int .i64 (n : Int)), (5, .slice (some ⟨p5, 0, none⟩) 0 0), (6, .int .i64 0)]) (by simp only [Nat.pow_zero, Nat.div_one]) ?_
  refine G.loop (X := Nat × Option Addr × Nat) (fun ⟨i, B_, b_⟩ => [(0, .int .u64 ((x / 256 ^ i : Nat) : Int)), (1, .int .i64 (n : Int)), (5, .slice B_ i b_), (6, .int .i64 (i : Int))]) (fun ⟨i, B_, b_⟩ w_ => (i ≤ n) ∧ Hp w [] [.row B_ i b_ 5 1 (by8 (putB x i))] w_) (fun ⟨i, B_, b_⟩ => n - i) ⟨0, (some ⟨p5, 0, none⟩), 0⟩ [0, 1, 5, 6] (by kernel_rfl) ⟨Nat.zero_le _, H8⟩ ?_
  rintro ⟨i, B_, b_⟩ w13 ⟨hi14, H15⟩
  refine G.eq (M' := [(0, .int .u64 ((x / 256 ^ i : Nat) : Int)), (1, .int .i64 (n : Int)), (5, .slice B_ i b_), (6, .int .i64 (i : Int))]) rfl ?_
  have H15 : Hp w [] [.row B_ i b_ 5 1 (by8 (putB x i))] w13 := H15
  have hi9 := hi14
  refine G.seqK fun K16 hK17 => ?_
  refine G.seqK fun K18 hK19 => ?_
  refine G.region ?_
  refine GL.run (j := 3) 3 [0, 1, 5, 6, 10] [(0, .int .u64 ((x / 256 ^ i : Nat) : Int)), (1, .int .i64 (n : Int)), (5, .slice B_ i b_), (6, .int .i64 (i : Int)), (10, .bool (decide ((i : Int) < (n : Int))))] (by kernel_rfl) rfl ?_
  refine GL.k rfl hK19 (fun _ _ h => h) ?_
  cases hb20 : (decide ((i : Int) < (n : Int)))
  · skip
    have hb20f := of_decide_eq_false hb20
    refine G.no rfl ?_
    refine G.exitK hK10 (fun _ _ h => h) ?_
    refine G.seqK fun K21 hK22 => ?_
    refine G.region ?_
    refine GL.run (j := 2) 2 [4] [(4, .slice B_ i b_)] (by kernel_rfl) rfl ?_
    refine GL.k rfl hK22 (fun _ _ h => h) ?_
    refine G.ret ?_
    intro F_ hF_ hM_
    refine hRet _ _ (bodyPost_1 rfl (RV.tmp rfl) ?_ F_ hF_ hM_)
    have HF := H15
    rw [show i = n by omega] at HF
    rw [show i = n by omega]
    exact ⟨_, _, rfl, HF⟩
  · skip
    have hb20f := of_decide_eq_true hb20
    refine G.yes rfl ?_
    refine G.skipK hK17 (fun _ _ h => h) ?_
    refine G.seqK fun K23 hK24 => ?_
    refine G.block ?_
    refine G.seqK fun K25 hK26 => ?_
    refine G.region ?_
    refine GL.run (j := 4) 4 [0, 1, 6, 13, 16] [(0, .int .u64 ((x / 256 ^ i : Nat) : Int)), (1, .int .i64 (n : Int)), (6, .int .i64 (i : Int)), (13, .slice B_ i b_), (16, .int .u8 (IntKind.u8.wrap (Int.tmod ((x / 256 ^ i : Nat) : Int) 256)))] (by kernel_rfl) rfl ?_
    have e27 : (Int.tmod ((x / 256 ^ i : Nat) : Int) 256) = (((x / 256 ^ i) % 256 : Nat) : Int) := n_rem _ 256
    have e28 : (IntKind.u8.wrap (((x / 256 ^ i) % 256 : Nat) : Int)) = ((UInt8.ofNat (x / 256 ^ i)).toNat : Int) := n_byte256 _
    refine GL.eq (M' := [(0, .int .u64 ((x / 256 ^ i : Nat) : Int)), (1, .int .i64 (n : Int)), (6, .int .i64 (i : Int)), (13, .slice B_ i b_), (16, .int .u8 ((UInt8.ofNat (x / 256 ^ i)).toNat : Int))]) (by rw [e27, e28]) ?_
    clear e27 e28
    obtain ⟨p29, w30, r31, H32⟩ := H15.made (P := Try.prog) (Instr.buildSlice 28 1 #[(0, .int .u8 ((UInt8.ofNat (x / 256 ^ i)).toNat : Int))]) (fun b_ => .slice (some ⟨b_, 0, none⟩) 1 1) [.int .u8 ((UInt8.ofNat (x / 256 ^ i)).toNat : Int)] 5 (by kernel_rfl)
    have H32 : Hp w [] [.row B_ i b_ 5 1 (by8 (putB x i)), .blk p29 [.int .u8 ((UInt8.ofNat (x / 256 ^ i)).toNat : Int)] 5] w30 := H32
    refine GL.sem (j := 5) (r31) [0, 1, 6, 13, 17] [(0, .int .u64 ((x / 256 ^ i : Nat) : Int)), (1, .int .i64 (n : Int)), (6, .int .i64 (i : Int)), (13, .slice B_ i b_), (17, .slice (some ⟨p29, 0, none⟩) 1 1)] (by kernel_rfl) (by kernel_rfl) rfl ?_
    obtain ⟨A33, c34, w35, r36, H37⟩ := H32.append (P := Try.prog) (e := 5) (sz := 1) (by_ := 1) (n := i) (c := b_) (m := 1) (d := 1) (t := 28) (ty := 28) (xs := by8 (putB x i)) (news := by8 ([(UInt8.ofNat (x / 256 ^ i))] : List UInt8)) 0 rfl (by kernel_rfl) (H32.rdBlk (o := 0) (xs := by8 ([(UInt8.ofNat (x / 256 ^ i))] : List UInt8)) 1 1 rfl rfl) (by first | (simp [by8_length]; done) | (rw [by8_length]; omega) | (rw [by8_length, putB_length])) (by8_one _) (by omega) (by simp only [maxLen]; omega)
    rw [← by8_append] at H37
    have H37 : Hp w [] [.row A33 (i + 1) c34 5 1 (by8 ((putB x i) ++ ([(UInt8.ofNat (x / 256 ^ i))] : List UInt8))), .blk p29 [.int .u8 ((UInt8.ofNat (x / 256 ^ i)).toNat : Int)] 5] w35 := H37
    refine GL.sem (j := 6) (r36) [0, 1, 6, 18] [(0, .int .u64 ((x / 256 ^ i : Nat) : Int)), (1, .int .i64 (n : Int)), (6, .int .i64 (i : Int)), (18, .slice A33 (i + 1) c34)] (by kernel_rfl) (by kernel_rfl) rfl ?_
    refine GL.run (j := 7) 1 [0, 1, 5, 6] [(0, .int .u64 ((x / 256 ^ i : Nat) : Int)), (1, .int .i64 (n : Int)), (5, .slice A33 (i + 1) c34), (6, .int .i64 (i : Int))] (by kernel_rfl) rfl ?_
    refine GL.k rfl hK26 (fun _ _ h => h) ?_
    refine G.region ?_
    refine GL.run (j := 3) 3 [0, 1, 5, 6] [(0, .int .u64 (IntKind.u64.wrap (Int.tdiv ((x / 256 ^ i : Nat) : Int) 256))), (1, .int .i64 (n : Int)), (5, .slice A33 (i + 1) c34), (6, .int .i64 (i : Int))] (by kernel_rfl) rfl ?_
    have e38 : (IntKind.u64.wrap (Int.tdiv ((x / 256 ^ i : Nat) : Int) 256)) = (((x / 256 ^ i) / 256 : Nat) : Int) := n_quo 256 (Nat.lt_of_le_of_lt (Nat.div_le_self _ _) hx)
    refine GL.eq (M' := [(0, .int .u64 (((x / 256 ^ i) / 256 : Nat) : Int)), (1, .int .i64 (n : Int)), (5, .slice A33 (i + 1) c34), (6, .int .i64 (i : Int))]) (by rw [e38]) ?_
    clear e38
    refine GL.k rfl hK24 (fun _ _ h => h) ?_
    refine G.region ?_
    refine GL.run (j := 3) 3 [0, 1, 5, 6] [(0, .int .u64 (((x / 256 ^ i) / 256 : Nat) : Int)), (1, .int .i64 (n : Int)), (5, .slice A33 (i + 1) c34), (6, .int .i64 (IntKind.i64.wrap ((i : Int) + 1)))] (by kernel_rfl) rfl ?_
    have e39 : (IntKind.i64.wrap ((i : Int) + 1)) = ((i + 1 : Nat) : Int) := by rw [in_i64 (by omega)]; omega
    refine GL.eq (M' := [(0, .int .u64 (((x / 256 ^ i) / 256 : Nat) : Int)), (1, .int .i64 (n : Int)), (5, .slice A33 (i + 1) c34), (6, .int .i64 ((i + 1 : Nat) : Int))]) (by rw [e39]) ?_
    clear e39
    have H40 : Hp w [] [.row A33 (i + 1) c34 5 1 (by8 ((putB x i) ++ ([(UInt8.ofNat (x / 256 ^ i))] : List UInt8)))] w35 := H37.sub (List.Sublist.cons_cons _ (List.Sublist.cons _ (List.Sublist.slnil)))
    have H41 : Hp w [] [.row A33 (i + 1) c34 5 1 (by8 (putB x (i + 1)))] w35 := by rw [putB_snoc]; exact H40
    refine GL.fit (ts := [0, 1, 5, 6]) (M' := [(0, .int .u64 (((x / 256 ^ i) / 256 : Nat) : Int)), (1, .int .i64 (n : Int)), (5, .slice A33 (i + 1) c34), (6, .int .i64 ((i + 1 : Nat) : Int))]) (by kernel_rfl) ?_
    refine GL.eq (M' := [(0, .int .u64 ((x / 256 ^ (i + 1) : Nat) : Int)), (1, .int .i64 (n : Int)), (5, .slice A33 (i + 1) c34), (6, .int .i64 (((i + 1) : Nat) : Int))]) (by rw [Nat.pow_succ, ← Nat.div_div_eq_div_mul]) ?_
    exact GL.again ⟨(i + 1), A33, c34⟩ [0, 1, 5, 6] rfl (by kernel_rfl) (by show n - (i + 1) < n - i; omega) ⟨by omega, H41⟩
theorem take_snoc8 {X : List UInt8} {k : Nat} (h : k < X.length) : List.take (k + 1) X = List.take k X ++ [X.getD k 0] := by
  rw [List.take_add_one, getD8 h]
  rfl
theorem RBytes_calls (v : Nat) (A R : List UInt8) (t b n : Nat) (w : World) (hA : A.length = 32) (hR : R.length = 32) (hv : v < 4294967296) (ht : t < 4294967296) (hb : b < 4294967296) (hn : n < 4294967296) : Calls Try.prog 32 #[.int .u32 (v : Int), .agg (by8 A).toArray, .agg (by8 R).toArray, .int .u32 (t : Int), .int .u32 (b : Int), .int .u32 (n : Int)] w fun e w' => ∃ A' c', e = .returned (.slice A' 80 c') ∧ Hp w [] [.row A' 80 c' 5 1 (by8 (hdB v A R t b n))] w' := by
  refine calls_G (args := [.int .u32 (v : Int), .agg (by8 A).toArray, .agg (by8 R).toArray, .int .u32 (t : Int), .int .u32 (b : Int), .int .u32 (n : Int)]) Try.func32 rfl Try.ntmps32 rfl ?_
  intro Q0 hRet hNor hPan
  have H := Hp.start w
  have H : Hp w [] [] w := H
  refine G.seqK fun K1 hK2 => ?_
  refine G.region ?_
  obtain ⟨p3, w4, r5, H6⟩ := H.box (P := Try.prog) 23 (by8 A) (.agg (by8 A).toArray) rfl
  have H6 : Hp w [] [.blk p3 (by8 A) 23] w4 := H6
  refine GL.sem (j := 1) (r5) [0, 2, 3, 4, 5, 7] [(0, .int .u32 (v : Int)), (2, .agg (by8 R).toArray), (3, .int .u32 (t : Int)), (4, .int .u32 (b : Int)), (5, .int .u32 (n : Int)), (7, pt p3 0)] (by kernel_rfl) (by kernel_rfl) rfl ?_
  obtain ⟨p7, w8, r9, H10⟩ := H6.box (P := Try.prog) 23 (by8 R) (.agg (by8 R).toArray) rfl
  have H10 : Hp w [] [.blk p3 (by8 A) 23, .blk p7 (by8 R) 23] w8 := H10
  refine GL.sem (j := 2) (r9) [0, 3, 4, 5, 7, 8] [(0, .int .u32 (v : Int)), (3, .int .u32 (t : Int)), (4, .int .u32 (b : Int)), (5, .int .u32 (n : Int)), (7, pt p3 0), (8, pt p7 0)] (by kernel_rfl) (by kernel_rfl) rfl ?_
  refine GL.run (j := 3) 1 [0, 3, 4, 5, 7, 8] [(0, .int .u32 (v : Int)), (3, .int .u32 (t : Int)), (4, .int .u32 (b : Int)), (5, .int .u32 (n : Int)), (7, pt p3 0), (8, pt p7 0)] (by kernel_rfl) rfl ?_
  refine GL.k rfl hK2 (fun _ _ h => h) ?_
  refine G.seqK fun K11 hK12 => ?_
  refine G.region ?_
  refine GL.run (j := 2) 2 [3, 4, 5, 7, 8, 17] [(3, .int .u32 (t : Int)), (4, .int .u32 (b : Int)), (5, .int .u32 (n : Int)), (7, pt p3 0), (8, pt p7 0), (17, .int .u64 (IntKind.u64.wrap (v : Int)))] (by kernel_rfl) rfl ?_
  have e13 : (IntKind.u64.wrap (v : Int)) = (v : Int) := in_u64 (by omega)
  refine GL.eq (M' := [(3, .int .u32 (t : Int)), (4, .int .u32 (b : Int)), (5, .int .u32 (n : Int)), (7, pt p3 0), (8, pt p7 0), (17, .int .u64 (v : Int))]) (by rw [e13]) ?_
  clear e13
  refine GL.call (j := 3) (RPut_calls v 4 (Nat.lt_trans hv (by decide)) (by omega) w8) (by kernel_rfl) rfl (fun e_ w18 hR => ?_)
  obtain ⟨A14, c15, rfl, H17⟩ := hR
  have H16 : Hp w [] [.blk p3 (by8 A) 23, .blk p7 (by8 R) 23, .row A14 4 c15 5 1 (by8 (putB v 4))] w18 := H10.callNew H17
  refine ⟨_, rfl, [3, 4, 5, 7, 8, 18], [(3, .int .u32 (t : Int)), (4, .int .u32 (b : Int)), (5, .int .u32 (n : Int)), (7, pt p3 0), (8, pt p7 0), (18, .slice A14 4 c15)], by kernel_rfl, ?_⟩
  refine GL.run (j := 4) 1 [3, 4, 5, 7, 8, 13] [(3, .int .u32 (t : Int)), (4, .int .u32 (b : Int)), (5, .int .u32 (n : Int)), (7, pt p3 0), (8, pt p7 0), (13, .slice A14 4 c15)] (by kernel_rfl) rfl ?_
  refine GL.k rfl hK12 (fun _ _ h => h) ?_
  refine G.seqK fun K19 hK20 => ?_
  refine G.seqK fun K21 hK22 => ?_
  refine G.region ?_
  refine GL.run (j := 1) 1 [3, 4, 5, 7, 8, 13, 19] [(3, .int .u32 (t : Int)), (4, .int .u32 (b : Int)), (5, .int .u32 (n : Int)), (7, pt p3 0), (8, pt p7 0), (13, .slice A14 4 c15), (19, .int .i64 0)] (by kernel_rfl) rfl ?_
  refine GL.k rfl hK22 (fun _ _ h => h) ?_
  refine G.block ?_
  have H23 : Hp w [] [.blk p3 (by8 A) 23, .blk p7 (by8 R) 23, .row A14 (4 + 0) c15 5 1 (by8 ((putB v 4) ++ List.take 0 A))] w18 := (by have h_ := H16; rw [List.take_zero, List.append_nil]; exact h_)
  refine G.fit [3, 4, 5, 7, 8, 13, 19] (M' := [(3, .int .u32 (t : Int)), (4, .int .u32 (b : Int)), (5, .int .u32 (n : Int)), (7, pt p3 0), (8, pt p7 0), (13, .slice A14 (4 + 0) c15), (19, .int .i64 0)]) (by kernel_rfl) ?_
  refine G.loop (X := Nat × Option Addr × Nat) (fun ⟨k, A_, c_⟩ => [(3, .int .u32 (t : Int)), (4, .int .u32 (b : Int)), (5, .int .u32 (n : Int)), (7, pt p3 0), (8, pt p7 0), (13, .slice A_ (4 + k) c_), (19, .int .i64 (k : Int))]) (fun ⟨k, A_, c_⟩ w_ => (k ≤ 32) ∧ Hp w [] [.blk p3 (by8 A) 23, .blk p7 (by8 R) 23, .row A_ (4 + k) c_ 5 1 (by8 ((putB v 4) ++ List.take k A))] w_) (fun ⟨k, A_, c_⟩ => 32 - k) ⟨0, A14, c15⟩ [3, 4, 5, 7, 8, 13, 19] (by kernel_rfl) ⟨by omega, H23⟩ ?_
  rintro ⟨k, A_, c_⟩ w24 ⟨hi25, H26⟩
  refine G.eq (M' := [(3, .int .u32 (t : Int)), (4, .int .u32 (b : Int)), (5, .int .u32 (n : Int)), (7, pt p3 0), (8, pt p7 0), (13, .slice A_ (4 + k) c_), (19, .int .i64 (k : Int))]) rfl ?_
  have H26 : Hp w [] [.blk p3 (by8 A) 23, .blk p7 (by8 R) 23, .row A_ (4 + k) c_ 5 1 (by8 ((putB v 4) ++ List.take k A))] w24 := H26
  have hk32 := hi25
  refine G.seqK fun K27 hK28 => ?_
  refine G.region ?_
  refine GL.run (j := 1) 1 [3, 4, 5, 7, 8, 13, 19, 20] [(3, .int .u32 (t : Int)), (4, .int .u32 (b : Int)), (5, .int .u32 (n : Int)), (7, pt p3 0), (8, pt p7 0), (13, .slice A_ (4 + k) c_), (19, .int .i64 (k : Int)), (20, .bool (decide ((k : Int) < 32)))] (by kernel_rfl) rfl ?_
  refine GL.k rfl hK28 (fun _ _ h => h) ?_
  refine G.seqK fun K29 hK30 => ?_
  cases hb31 : (decide ((k : Int) < 32))
  · skip
    have hb31f := of_decide_eq_false hb31
    refine G.no rfl ?_
    refine G.exitK hK20 (fun _ _ h => h) ?_
    refine G.seqK fun K32 hK33 => ?_
    refine G.seqK fun K34 hK35 => ?_
    refine G.region ?_
    refine GL.run (j := 1) 1 [3, 4, 5, 8, 13, 29] [(3, .int .u32 (t : Int)), (4, .int .u32 (b : Int)), (5, .int .u32 (n : Int)), (8, pt p7 0), (13, .slice A_ (4 + k) c_), (29, .int .i64 0)] (by kernel_rfl) rfl ?_
    refine GL.k rfl hK35 (fun _ _ h => h) ?_
    refine G.block ?_
    obtain rfl : k = 32 := by omega
    have H36 : Hp w [] [.blk p3 (by8 A) 23, .blk p7 (by8 R) 23, .row A_ 36 c_ 5 1 (by8 ((putB v 4) ++ A))] w24 := (by have h_ := H26; rw [List.take_of_length_le (l := A) (by omega)] at h_; exact h_)
    have H37 : Hp w [] [.blk p3 (by8 A) 23, .blk p7 (by8 R) 23, .row A_ (36 + 0) c_ 5 1 (by8 (((putB v 4) ++ A) ++ List.take 0 R))] w24 := (by have h_ := H36; rw [List.take_zero, List.append_nil]; exact h_)
    refine G.fit [3, 4, 5, 8, 13, 29] (M' := [(3, .int .u32 (t : Int)), (4, .int .u32 (b : Int)), (5, .int .u32 (n : Int)), (8, pt p7 0), (13, .slice A_ (36 + 0) c_), (29, .int .i64 0)]) (by kernel_rfl) ?_
    refine G.loop (X := Nat × Option Addr × Nat) (fun ⟨m, A_, c_⟩ => [(3, .int .u32 (t : Int)), (4, .int .u32 (b : Int)), (5, .int .u32 (n : Int)), (8, pt p7 0), (13, .slice A_ (36 + m) c_), (29, .int .i64 (m : Int))]) (fun ⟨m, A_, c_⟩ w_ => (m ≤ 32) ∧ Hp w [] [.blk p3 (by8 A) 23, .blk p7 (by8 R) 23, .row A_ (36 + m) c_ 5 1 (by8 (((putB v 4) ++ A) ++ List.take m R))] w_) (fun ⟨m, A_, c_⟩ => 32 - m) ⟨0, A_, c_⟩ [3, 4, 5, 8, 13, 29] (by kernel_rfl) ⟨by omega, H37⟩ ?_
    rintro ⟨m, A_, c_⟩ w38 ⟨hi39, H40⟩
    refine G.eq (M' := [(3, .int .u32 (t : Int)), (4, .int .u32 (b : Int)), (5, .int .u32 (n : Int)), (8, pt p7 0), (13, .slice A_ (36 + m) c_), (29, .int .i64 (m : Int))]) rfl ?_
    have H40 : Hp w [] [.blk p3 (by8 A) 23, .blk p7 (by8 R) 23, .row A_ (36 + m) c_ 5 1 (by8 (((putB v 4) ++ A) ++ List.take m R))] w38 := H40
    have hm32 := hi39
    refine G.seqK fun K41 hK42 => ?_
    refine G.region ?_
    refine GL.run (j := 1) 1 [3, 4, 5, 8, 13, 29, 30] [(3, .int .u32 (t : Int)), (4, .int .u32 (b : Int)), (5, .int .u32 (n : Int)), (8, pt p7 0), (13, .slice A_ (36 + m) c_), (29, .int .i64 (m : Int)), (30, .bool (decide ((m : Int) < 32)))] (by kernel_rfl) rfl ?_
    refine GL.k rfl hK42 (fun _ _ h => h) ?_
    refine G.seqK fun K43 hK44 => ?_
    cases hb45 : (decide ((m : Int) < 32))
    · skip
      have hb45f := of_decide_eq_false hb45
      refine G.no rfl ?_
      refine G.exitK hK33 (fun _ _ h => h) ?_
      refine G.seqK fun K46 hK47 => ?_
      refine G.region ?_
      refine GL.run (j := 3) 3 [4, 5, 39, 41] [(4, .int .u32 (b : Int)), (5, .int .u32 (n : Int)), (39, .slice A_ (36 + m) c_), (41, .int .u64 (IntKind.u64.wrap (t : Int)))] (by kernel_rfl) rfl ?_
      have e48 : (IntKind.u64.wrap (t : Int)) = (t : Int) := in_u64 (by omega)
      refine GL.eq (M' := [(4, .int .u32 (b : Int)), (5, .int .u32 (n : Int)), (39, .slice A_ (36 + m) c_), (41, .int .u64 (t : Int))]) (by rw [e48]) ?_
      clear e48
      refine GL.call (j := 4) (RPut_calls t 4 (Nat.lt_trans ht (by decide)) (by omega) w38) (by kernel_rfl) rfl (fun e_ w53 hR => ?_)
      obtain ⟨A49, c50, rfl, H52⟩ := hR
      have H51 : Hp w [] [.blk p3 (by8 A) 23, .blk p7 (by8 R) 23, .row A_ (36 + m) c_ 5 1 (by8 (((putB v 4) ++ A) ++ List.take m R)), .row A49 4 c50 5 1 (by8 (putB t 4))] w53 := H40.callNew H52
      refine ⟨_, rfl, [4, 5, 39, 42], [(4, .int .u32 (b : Int)), (5, .int .u32 (n : Int)), (39, .slice A_ (36 + m) c_), (42, .slice A49 4 c50)], by kernel_rfl, ?_⟩
      obtain ⟨A54, c55, w56, r57, H58⟩ := H51.append (P := Try.prog) (e := 5) (sz := 1) (by_ := 1) (n := (36 + m)) (c := c_) (m := 4) (d := c50) (t := 28) (ty := 28) (xs := by8 (((putB v 4) ++ A) ++ List.take m R)) (news := by8 (putB t 4)) 2 rfl (by kernel_rfl) (H51.rdRow 3 rfl) (by first | (simp [by8_length]; done) | (rw [by8_length]; omega) | (rw [by8_length, putB_length])) (by8_one _) (by omega) (by simp only [maxLen]; omega)
      rw [← by8_append] at H58
      have H58 : Hp w [] [.blk p3 (by8 A) 23, .blk p7 (by8 R) 23, .row A54 ((36 + m) + 4) c55 5 1 (by8 ((((putB v 4) ++ A) ++ List.take m R) ++ (putB t 4))), .row A49 4 c50 5 1 (by8 (putB t 4))] w56 := H58
      refine GL.sem (j := 5) (r57) [4, 5, 43] [(4, .int .u32 (b : Int)), (5, .int .u32 (n : Int)), (43, .slice A54 ((36 + m) + 4) c55)] (by kernel_rfl) (by kernel_rfl) rfl ?_
      refine GL.run (j := 6) 1 [4, 5, 13] [(4, .int .u32 (b : Int)), (5, .int .u32 (n : Int)), (13, .slice A54 ((36 + m) + 4) c55)] (by kernel_rfl) rfl ?_
      refine GL.k rfl hK47 (fun _ _ h => h) ?_
      refine G.seqK fun K59 hK60 => ?_
      refine G.region ?_
      refine GL.run (j := 3) 3 [5, 44, 46] [(5, .int .u32 (n : Int)), (44, .slice A54 ((36 + m) + 4) c55), (46, .int .u64 (IntKind.u64.wrap (b : Int)))] (by kernel_rfl) rfl ?_
      have e61 : (IntKind.u64.wrap (b : Int)) = (b : Int) := in_u64 (by omega)
      refine GL.eq (M' := [(5, .int .u32 (n : Int)), (44, .slice A54 ((36 + m) + 4) c55), (46, .int .u64 (b : Int))]) (by rw [e61]) ?_
      clear e61
      refine GL.call (j := 4) (RPut_calls b 4 (Nat.lt_trans hb (by decide)) (by omega) w56) (by kernel_rfl) rfl (fun e_ w66 hR => ?_)
      obtain ⟨A62, c63, rfl, H65⟩ := hR
      have H64 : Hp w [] [.blk p3 (by8 A) 23, .blk p7 (by8 R) 23, .row A54 ((36 + m) + 4) c55 5 1 (by8 ((((putB v 4) ++ A) ++ List.take m R) ++ (putB t 4))), .row A49 4 c50 5 1 (by8 (putB t 4)), .row A62 4 c63 5 1 (by8 (putB b 4))] w66 := H58.callNew H65
      refine ⟨_, rfl, [5, 44, 47], [(5, .int .u32 (n : Int)), (44, .slice A54 ((36 + m) + 4) c55), (47, .slice A62 4 c63)], by kernel_rfl, ?_⟩
      obtain ⟨A67, c68, w69, r70, H71⟩ := H64.append (P := Try.prog) (e := 5) (sz := 1) (by_ := 1) (n := ((36 + m) + 4)) (c := c55) (m := 4) (d := c63) (t := 28) (ty := 28) (xs := by8 ((((putB v 4) ++ A) ++ List.take m R) ++ (putB t 4))) (news := by8 (putB b 4)) 2 rfl (by kernel_rfl) (H64.rdRow 4 rfl) (by first | (simp [by8_length]; done) | (rw [by8_length]; omega) | (rw [by8_length, putB_length])) (by8_one _) (by omega) (by simp only [maxLen]; omega)
      rw [← by8_append] at H71
      have H71 : Hp w [] [.blk p3 (by8 A) 23, .blk p7 (by8 R) 23, .row A67 (((36 + m) + 4) + 4) c68 5 1 (by8 (((((putB v 4) ++ A) ++ List.take m R) ++ (putB t 4)) ++ (putB b 4))), .row A49 4 c50 5 1 (by8 (putB t 4)), .row A62 4 c63 5 1 (by8 (putB b 4))] w69 := H71
      refine GL.sem (j := 5) (r70) [5, 48] [(5, .int .u32 (n : Int)), (48, .slice A67 (((36 + m) + 4) + 4) c68)] (by kernel_rfl) (by kernel_rfl) rfl ?_
      refine GL.run (j := 6) 1 [5, 13] [(5, .int .u32 (n : Int)), (13, .slice A67 (((36 + m) + 4) + 4) c68)] (by kernel_rfl) rfl ?_
      refine GL.k rfl hK60 (fun _ _ h => h) ?_
      refine G.seqK fun K72 hK73 => ?_
      refine G.region ?_
      refine GL.run (j := 3) 3 [49, 51] [(49, .slice A67 (((36 + m) + 4) + 4) c68), (51, .int .u64 (IntKind.u64.wrap (n : Int)))] (by kernel_rfl) rfl ?_
      have e74 : (IntKind.u64.wrap (n : Int)) = (n : Int) := in_u64 (by omega)
      refine GL.eq (M' := [(49, .slice A67 (((36 + m) + 4) + 4) c68), (51, .int .u64 (n : Int))]) (by rw [e74]) ?_
      clear e74
      refine GL.call (j := 4) (RPut_calls n 4 (Nat.lt_trans hn (by decide)) (by omega) w69) (by kernel_rfl) rfl (fun e_ w79 hR => ?_)
      obtain ⟨A75, c76, rfl, H78⟩ := hR
      have H77 : Hp w [] [.blk p3 (by8 A) 23, .blk p7 (by8 R) 23, .row A67 (((36 + m) + 4) + 4) c68 5 1 (by8 (((((putB v 4) ++ A) ++ List.take m R) ++ (putB t 4)) ++ (putB b 4))), .row A49 4 c50 5 1 (by8 (putB t 4)), .row A62 4 c63 5 1 (by8 (putB b 4)), .row A75 4 c76 5 1 (by8 (putB n 4))] w79 := H71.callNew H78
      refine ⟨_, rfl, [49, 52], [(49, .slice A67 (((36 + m) + 4) + 4) c68), (52, .slice A75 4 c76)], by kernel_rfl, ?_⟩
      obtain ⟨A80, c81, w82, r83, H84⟩ := H77.append (P := Try.prog) (e := 5) (sz := 1) (by_ := 1) (n := (((36 + m) + 4) + 4)) (c := c68) (m := 4) (d := c76) (t := 28) (ty := 28) (xs := by8 (((((putB v 4) ++ A) ++ List.take m R) ++ (putB t 4)) ++ (putB b 4))) (news := by8 (putB n 4)) 2 rfl (by kernel_rfl) (H77.rdRow 5 rfl) (by first | (simp [by8_length]; done) | (rw [by8_length]; omega) | (rw [by8_length, putB_length])) (by8_one _) (by omega) (by simp only [maxLen]; omega)
      rw [← by8_append] at H84
      have H84 : Hp w [] [.blk p3 (by8 A) 23, .blk p7 (by8 R) 23, .row A80 ((((36 + m) + 4) + 4) + 4) c81 5 1 (by8 ((((((putB v 4) ++ A) ++ List.take m R) ++ (putB t 4)) ++ (putB b 4)) ++ (putB n 4))), .row A49 4 c50 5 1 (by8 (putB t 4)), .row A62 4 c63 5 1 (by8 (putB b 4)), .row A75 4 c76 5 1 (by8 (putB n 4))] w82 := H84
      refine GL.sem (j := 5) (r83) [53] [(53, .slice A80 ((((36 + m) + 4) + 4) + 4) c81)] (by kernel_rfl) (by kernel_rfl) rfl ?_
      refine GL.run (j := 6) 1 [12] [(12, .slice A80 ((((36 + m) + 4) + 4) + 4) c81)] (by kernel_rfl) rfl ?_
      refine GL.k rfl hK73 (fun _ _ h => h) ?_
      refine G.ret ?_
      intro F_ hF_ hM_
      refine hRet _ _ (bodyPost_1 rfl (RV.tmp rfl) ?_ F_ hF_ hM_)
      have H85 : Hp w [] [.row A80 ((((36 + m) + 4) + 4) + 4) c81 5 1 (by8 ((((((putB v 4) ++ A) ++ List.take m R) ++ (putB t 4)) ++ (putB b 4)) ++ (putB n 4)))] w82 := H84.sub (List.Sublist.cons _ (List.Sublist.cons _ (List.Sublist.cons_cons _ (List.Sublist.cons _ (List.Sublist.cons _ (List.Sublist.cons _ (List.Sublist.slnil)))))))
      have HF := H85
      obtain rfl : m = 32 := by omega
      rw [List.take_of_length_le (l := R) (by omega)] at HF
      exact ⟨_, _, rfl, HF⟩
    · skip
      have hb45f := of_decide_eq_true hb45
      refine G.yes rfl ?_
      refine G.skipK hK44 (fun _ _ h => h) ?_
      refine G.seqK fun K86 hK87 => ?_
      refine G.block ?_
      refine G.seqK fun K88 hK89 => ?_
      refine G.region ?_
      refine GL.run (j := 2) 2 [3, 4, 5, 8, 13, 15, 29] [(3, .int .u32 (t : Int)), (4, .int .u32 (b : Int)), (5, .int .u32 (n : Int)), (8, pt p7 0), (13, .slice A_ (36 + m) c_), (15, .int .i64 (m : Int)), (29, .int .i64 (m : Int))] (by kernel_rfl) rfl ?_
      refine GL.k rfl hK89 (fun _ _ h => h) ?_
      refine G.region ?_
      refine GL.run (j := 2) 2 [3, 4, 5, 8, 29, 32, 33] [(3, .int .u32 (t : Int)), (4, .int .u32 (b : Int)), (5, .int .u32 (n : Int)), (8, pt p7 0), (29, .int .i64 (m : Int)), (32, .slice A_ (36 + m) c_), (33, .int .i64 (m : Int))] (by kernel_rfl) rfl ?_
      refine GL.sem (j := 3) (run_idxArr (P := Try.prog) (k := .i64) (t := 23) (len := 32) (sz := 1) (b := p7) (o := 0) (j := m) (by kernel_rfl) rfl (by omega)) [3, 4, 5, 8, 29, 32, 34] [(3, .int .u32 (t : Int)), (4, .int .u32 (b : Int)), (5, .int .u32 (n : Int)), (8, pt p7 0), (29, .int .i64 (m : Int)), (32, .slice A_ (36 + m) c_), (34, pt p7 (0 + m * 1))] (by kernel_rfl) (by kernel_rfl) rfl ?_
      refine GL.sem (j := 4) (H40.ld (o := (0 + m * 1)) (ty := 5) (v := .int .u8 (((R.getD m 0)).toNat : Int)) 1 rfl (by kernel_rfl) (by rw [show (0 + m * 1) = m by omega]; exact by8_at (getD8 (by rw [hR]; omega)))) [3, 4, 5, 8, 29, 32, 35] [(3, .int .u32 (t : Int)), (4, .int .u32 (b : Int)), (5, .int .u32 (n : Int)), (8, pt p7 0), (29, .int .i64 (m : Int)), (32, .slice A_ (36 + m) c_), (35, .int .u8 (((R.getD m 0)).toNat : Int))] (by kernel_rfl) (by kernel_rfl) rfl ?_
      obtain ⟨p90, w91, r92, H93⟩ := H40.madeRow (P := Try.prog) (Instr.buildSlice 28 1 #[(0, .int .u8 (((R.getD m 0)).toNat : Int))]) (fun b_ => .slice (some ⟨b_, 0, none⟩) 1 1) [.int .u8 (((R.getD m 0)).toNat : Int)] 5 1 1 1 (by kernel_rfl) (by decide) (by decide) rfl
      have H93 : Hp w [] [.blk p3 (by8 A) 23, .blk p7 (by8 R) 23, .row A_ (36 + m) c_ 5 1 (by8 (((putB v 4) ++ A) ++ List.take m R)), .row (some ⟨p90, 0, none⟩) 1 1 5 1 (by8 ([((R.getD m 0))] : List UInt8))] w91 := H93
      refine GL.sem (j := 5) (r92) [3, 4, 5, 8, 29, 32, 36] [(3, .int .u32 (t : Int)), (4, .int .u32 (b : Int)), (5, .int .u32 (n : Int)), (8, pt p7 0), (29, .int .i64 (m : Int)), (32, .slice A_ (36 + m) c_), (36, .slice (some ⟨p90, 0, none⟩) 1 1)] (by kernel_rfl) (by kernel_rfl) rfl ?_
      obtain ⟨A94, c95, w96, r97, H98⟩ := H93.append (P := Try.prog) (e := 5) (sz := 1) (by_ := 1) (n := (36 + m)) (c := c_) (m := 1) (d := 1) (t := 28) (ty := 28) (xs := by8 (((putB v 4) ++ A) ++ List.take m R)) (news := by8 ([((R.getD m 0))] : List UInt8)) 2 rfl (by kernel_rfl) (H93.rdRow 3 rfl) (by first | (simp [by8_length]; done) | (rw [by8_length]; omega) | (rw [by8_length, putB_length])) (by8_one _) (by omega) (by simp only [maxLen]; omega)
      rw [← by8_append] at H98
      have H98 : Hp w [] [.blk p3 (by8 A) 23, .blk p7 (by8 R) 23, .row A94 ((36 + m) + 1) c95 5 1 (by8 ((((putB v 4) ++ A) ++ List.take m R) ++ ([((R.getD m 0))] : List UInt8))), .row (some ⟨p90, 0, none⟩) 1 1 5 1 (by8 ([((R.getD m 0))] : List UInt8))] w96 := H98
      refine GL.sem (j := 6) (r97) [3, 4, 5, 8, 29, 37] [(3, .int .u32 (t : Int)), (4, .int .u32 (b : Int)), (5, .int .u32 (n : Int)), (8, pt p7 0), (29, .int .i64 (m : Int)), (37, .slice A94 ((36 + m) + 1) c95)] (by kernel_rfl) (by kernel_rfl) rfl ?_
      refine GL.run (j := 7) 1 [3, 4, 5, 8, 13, 29] [(3, .int .u32 (t : Int)), (4, .int .u32 (b : Int)), (5, .int .u32 (n : Int)), (8, pt p7 0), (13, .slice A94 ((36 + m) + 1) c95), (29, .int .i64 (m : Int))] (by kernel_rfl) rfl ?_
      refine GL.k rfl hK87 (fun _ _ h => h) ?_
      refine G.region ?_
      refine GL.run (j := 2) 2 [3, 4, 5, 8, 13, 29] [(3, .int .u32 (t : Int)), (4, .int .u32 (b : Int)), (5, .int .u32 (n : Int)), (8, pt p7 0), (13, .slice A94 ((36 + m) + 1) c95), (29, .int .i64 (IntKind.i64.wrap ((m : Int) + 1)))] (by kernel_rfl) rfl ?_
      have e99 : (IntKind.i64.wrap ((m : Int) + 1)) = ((m + 1 : Nat) : Int) := by rw [in_i64 (by omega)]; omega
      refine GL.eq (M' := [(3, .int .u32 (t : Int)), (4, .int .u32 (b : Int)), (5, .int .u32 (n : Int)), (8, pt p7 0), (13, .slice A94 ((36 + m) + 1) c95), (29, .int .i64 ((m + 1 : Nat) : Int))]) (by rw [e99]) ?_
      clear e99
      have H100 : Hp w [] [.blk p3 (by8 A) 23, .blk p7 (by8 R) 23, .row A94 ((36 + m) + 1) c95 5 1 (by8 ((((putB v 4) ++ A) ++ List.take m R) ++ ([((R.getD m 0))] : List UInt8)))] w96 := H98.sub (List.Sublist.cons_cons _ (List.Sublist.cons_cons _ (List.Sublist.cons_cons _ (List.Sublist.cons _ (List.Sublist.slnil)))))
      have H101 : Hp w [] [.blk p3 (by8 A) 23, .blk p7 (by8 R) 23, .row A94 (36 + (m + 1)) c95 5 1 (by8 (((putB v 4) ++ A) ++ List.take (m + 1) R))] w96 := by rw [take_snoc8 (by omega), ← List.append_assoc]; exact H100
      refine GL.fit (ts := [3, 4, 5, 8, 13, 29]) (M' := [(3, .int .u32 (t : Int)), (4, .int .u32 (b : Int)), (5, .int .u32 (n : Int)), (8, pt p7 0), (13, .slice A94 ((36 + m) + 1) c95), (29, .int .i64 ((m + 1 : Nat) : Int))]) (by kernel_rfl) ?_
      refine GL.eq (M' := [(3, .int .u32 (t : Int)), (4, .int .u32 (b : Int)), (5, .int .u32 (n : Int)), (8, pt p7 0), (13, .slice A94 (36 + (m + 1)) c95), (29, .int .i64 (((m + 1) : Nat) : Int))]) (by rfl) ?_
      exact GL.again ⟨(m + 1), A94, c95⟩ [3, 4, 5, 8, 13, 29] rfl (by kernel_rfl) (by show 32 - (m + 1) < 32 - m; omega) ⟨by omega, H101⟩
  · skip
    have hb31f := of_decide_eq_true hb31
    refine G.yes rfl ?_
    refine G.skipK hK30 (fun _ _ h => h) ?_
    refine G.seqK fun K102 hK103 => ?_
    refine G.block ?_
    refine G.seqK fun K104 hK105 => ?_
    refine G.region ?_
    refine GL.run (j := 2) 2 [3, 4, 5, 7, 8, 13, 14, 19] [(3, .int .u32 (t : Int)), (4, .int .u32 (b : Int)), (5, .int .u32 (n : Int)), (7, pt p3 0), (8, pt p7 0), (13, .slice A_ (4 + k) c_), (14, .int .i64 (k : Int)), (19, .int .i64 (k : Int))] (by kernel_rfl) rfl ?_
    refine GL.k rfl hK105 (fun _ _ h => h) ?_
    refine G.region ?_
    refine GL.run (j := 2) 2 [3, 4, 5, 7, 8, 19, 22, 23] [(3, .int .u32 (t : Int)), (4, .int .u32 (b : Int)), (5, .int .u32 (n : Int)), (7, pt p3 0), (8, pt p7 0), (19, .int .i64 (k : Int)), (22, .slice A_ (4 + k) c_), (23, .int .i64 (k : Int))] (by kernel_rfl) rfl ?_
    refine GL.sem (j := 3) (run_idxArr (P := Try.prog) (k := .i64) (t := 23) (len := 32) (sz := 1) (b := p3) (o := 0) (j := k) (by kernel_rfl) rfl (by omega)) [3, 4, 5, 7, 8, 19, 22, 24] [(3, .int .u32 (t : Int)), (4, .int .u32 (b : Int)), (5, .int .u32 (n : Int)), (7, pt p3 0), (8, pt p7 0), (19, .int .i64 (k : Int)), (22, .slice A_ (4 + k) c_), (24, pt p3 (0 + k * 1))] (by kernel_rfl) (by kernel_rfl) rfl ?_
    refine GL.sem (j := 4) (H26.ld (o := (0 + k * 1)) (ty := 5) (v := .int .u8 (((A.getD k 0)).toNat : Int)) 0 rfl (by kernel_rfl) (by rw [show (0 + k * 1) = k by omega]; exact by8_at (getD8 (by rw [hA]; omega)))) [3, 4, 5, 7, 8, 19, 22, 25] [(3, .int .u32 (t : Int)), (4, .int .u32 (b : Int)), (5, .int .u32 (n : Int)), (7, pt p3 0), (8, pt p7 0), (19, .int .i64 (k : Int)), (22, .slice A_ (4 + k) c_), (25, .int .u8 (((A.getD k 0)).toNat : Int))] (by kernel_rfl) (by kernel_rfl) rfl ?_
    obtain ⟨p106, w107, r108, H109⟩ := H26.madeRow (P := Try.prog) (Instr.buildSlice 28 1 #[(0, .int .u8 (((A.getD k 0)).toNat : Int))]) (fun b_ => .slice (some ⟨b_, 0, none⟩) 1 1) [.int .u8 (((A.getD k 0)).toNat : Int)] 5 1 1 1 (by kernel_rfl) (by decide) (by decide) rfl
    have H109 : Hp w [] [.blk p3 (by8 A) 23, .blk p7 (by8 R) 23, .row A_ (4 + k) c_ 5 1 (by8 ((putB v 4) ++ List.take k A)), .row (some ⟨p106, 0, none⟩) 1 1 5 1 (by8 ([((A.getD k 0))] : List UInt8))] w107 := H109
    refine GL.sem (j := 5) (r108) [3, 4, 5, 7, 8, 19, 22, 26] [(3, .int .u32 (t : Int)), (4, .int .u32 (b : Int)), (5, .int .u32 (n : Int)), (7, pt p3 0), (8, pt p7 0), (19, .int .i64 (k : Int)), (22, .slice A_ (4 + k) c_), (26, .slice (some ⟨p106, 0, none⟩) 1 1)] (by kernel_rfl) (by kernel_rfl) rfl ?_
    obtain ⟨A110, c111, w112, r113, H114⟩ := H109.append (P := Try.prog) (e := 5) (sz := 1) (by_ := 1) (n := (4 + k)) (c := c_) (m := 1) (d := 1) (t := 28) (ty := 28) (xs := by8 ((putB v 4) ++ List.take k A)) (news := by8 ([((A.getD k 0))] : List UInt8)) 2 rfl (by kernel_rfl) (H109.rdRow 3 rfl) (by first | (simp [by8_length]; done) | (rw [by8_length]; omega) | (rw [by8_length, putB_length])) (by8_one _) (by omega) (by simp only [maxLen]; omega)
    rw [← by8_append] at H114
    have H114 : Hp w [] [.blk p3 (by8 A) 23, .blk p7 (by8 R) 23, .row A110 ((4 + k) + 1) c111 5 1 (by8 (((putB v 4) ++ List.take k A) ++ ([((A.getD k 0))] : List UInt8))), .row (some ⟨p106, 0, none⟩) 1 1 5 1 (by8 ([((A.getD k 0))] : List UInt8))] w112 := H114
    refine GL.sem (j := 6) (r113) [3, 4, 5, 7, 8, 19, 27] [(3, .int .u32 (t : Int)), (4, .int .u32 (b : Int)), (5, .int .u32 (n : Int)), (7, pt p3 0), (8, pt p7 0), (19, .int .i64 (k : Int)), (27, .slice A110 ((4 + k) + 1) c111)] (by kernel_rfl) (by kernel_rfl) rfl ?_
    refine GL.run (j := 7) 1 [3, 4, 5, 7, 8, 13, 19] [(3, .int .u32 (t : Int)), (4, .int .u32 (b : Int)), (5, .int .u32 (n : Int)), (7, pt p3 0), (8, pt p7 0), (13, .slice A110 ((4 + k) + 1) c111), (19, .int .i64 (k : Int))] (by kernel_rfl) rfl ?_
    refine GL.k rfl hK103 (fun _ _ h => h) ?_
    refine G.region ?_
    refine GL.run (j := 2) 2 [3, 4, 5, 7, 8, 13, 19] [(3, .int .u32 (t : Int)), (4, .int .u32 (b : Int)), (5, .int .u32 (n : Int)), (7, pt p3 0), (8, pt p7 0), (13, .slice A110 ((4 + k) + 1) c111), (19, .int .i64 (IntKind.i64.wrap ((k : Int) + 1)))] (by kernel_rfl) rfl ?_
    have e115 : (IntKind.i64.wrap ((k : Int) + 1)) = ((k + 1 : Nat) : Int) := by rw [in_i64 (by omega)]; omega
    refine GL.eq (M' := [(3, .int .u32 (t : Int)), (4, .int .u32 (b : Int)), (5, .int .u32 (n : Int)), (7, pt p3 0), (8, pt p7 0), (13, .slice A110 ((4 + k) + 1) c111), (19, .int .i64 ((k + 1 : Nat) : Int))]) (by rw [e115]) ?_
    clear e115
    have H116 : Hp w [] [.blk p3 (by8 A) 23, .blk p7 (by8 R) 23, .row A110 ((4 + k) + 1) c111 5 1 (by8 (((putB v 4) ++ List.take k A) ++ ([((A.getD k 0))] : List UInt8)))] w112 := H114.sub (List.Sublist.cons_cons _ (List.Sublist.cons_cons _ (List.Sublist.cons_cons _ (List.Sublist.cons _ (List.Sublist.slnil)))))
    have H117 : Hp w [] [.blk p3 (by8 A) 23, .blk p7 (by8 R) 23, .row A110 (4 + (k + 1)) c111 5 1 (by8 ((putB v 4) ++ List.take (k + 1) A))] w112 := by rw [take_snoc8 (by omega), ← List.append_assoc]; exact H116
    refine GL.fit (ts := [3, 4, 5, 7, 8, 13, 19]) (M' := [(3, .int .u32 (t : Int)), (4, .int .u32 (b : Int)), (5, .int .u32 (n : Int)), (7, pt p3 0), (8, pt p7 0), (13, .slice A110 ((4 + k) + 1) c111), (19, .int .i64 ((k + 1 : Nat) : Int))]) (by kernel_rfl) ?_
    refine GL.eq (M' := [(3, .int .u32 (t : Int)), (4, .int .u32 (b : Int)), (5, .int .u32 (n : Int)), (7, pt p3 0), (8, pt p7 0), (13, .slice A110 (4 + (k + 1)) c111), (19, .int .i64 (((k + 1) : Nat) : Int))]) (by rfl) ?_
    exact GL.again ⟨(k + 1), A110, c111⟩ [3, 4, 5, 7, 8, 13, 19] rfl (by kernel_rfl) (by show 32 - (k + 1) < 32 - k; omega) ⟨by omega, H117⟩
theorem Ref_calls (v : Nat) (A R : List UInt8) (t b n : Nat) (w : World) (hA : A.length = 32) (hR : R.length = 32) (hv : v < 4294967296) (ht : t < 4294967296) (hb : b < 4294967296) (hn : n < 4294967296) : Calls Try.prog 13 #[.agg (hdC v A R t b n).toArray] w fun e w' => ∃ A' c', e = .returned (.slice A' 80 c') ∧ Hp w [] [.row A' 80 c' 5 1 (by8 (hdB v A R t b n))] w' := by
  refine calls_G (args := [.agg (hdC v A R t b n).toArray]) Try.func13 rfl Try.ntmps13 rfl ?_
  intro Q0 hRet hNor hPan
  have H := Hp.start w
  have H : Hp w [] [] w := H
  refine G.seqK fun K1 hK2 => ?_
  refine G.region ?_
  obtain ⟨p3, w4, r5, H6⟩ := H.box (P := Try.prog) 26 (hdC v A R t b n) (.agg (hdC v A R t b n).toArray) rfl
  have H6 : Hp w [] [.blk p3 (hdC v A R t b n) 26] w4 := H6
  refine GL.sem (j := 1) (r5) [1] [(1, pt p3 0)] (by kernel_rfl) (by kernel_rfl) rfl ?_
  refine GL.run (j := 2) 1 [1] [(1, pt p3 0)] (by kernel_rfl) rfl ?_
  refine GL.k rfl hK2 (fun _ _ h => h) ?_
  refine G.seqK fun K7 hK8 => ?_
  refine G.region ?_
  refine GL.run (j := 1) 1 [1, 3] [(1, pt p3 0), (3, pt p3 0)] (by kernel_rfl) rfl ?_
  refine GL.sem (j := 2) (H6.ld (o := 0) (ty := 22) (v := .int .u32 (v : Int)) 0 rfl (by kernel_rfl) (rfl)) [1, 4] [(1, pt p3 0), (4, .int .u32 (v : Int))] (by kernel_rfl) (by kernel_rfl) rfl ?_
  refine GL.run (j := 3) 1 [1, 4, 5] [(1, pt p3 0), (4, .int .u32 (v : Int)), (5, pt p3 1)] (by kernel_rfl) rfl ?_
  refine GL.sem (j := 4) (H6.ldA (o := 1) (ty := 24) (m := 32) (sub := by8 A) 0 rfl (by kernel_rfl) (hdC_A hA) (by rw [by8_length]; exact hA)) [1, 4, 6] [(1, pt p3 0), (4, .int .u32 (v : Int)), (6, .agg (by8 A).toArray)] (by kernel_rfl) (by kernel_rfl) rfl ?_
  refine GL.run (j := 5) 1 [1, 4, 6, 7] [(1, pt p3 0), (4, .int .u32 (v : Int)), (6, .agg (by8 A).toArray), (7, pt p3 33)] (by kernel_rfl) rfl ?_
  refine GL.sem (j := 6) (H6.ldA (o := 33) (ty := 24) (m := 32) (sub := by8 R) 0 rfl (by kernel_rfl) (hdC_R hA hR) (by rw [by8_length]; exact hR)) [1, 4, 6, 8] [(1, pt p3 0), (4, .int .u32 (v : Int)), (6, .agg (by8 A).toArray), (8, .agg (by8 R).toArray)] (by kernel_rfl) (by kernel_rfl) rfl ?_
  refine GL.run (j := 7) 1 [1, 4, 6, 8, 9] [(1, pt p3 0), (4, .int .u32 (v : Int)), (6, .agg (by8 A).toArray), (8, .agg (by8 R).toArray), (9, pt p3 65)] (by kernel_rfl) rfl ?_
  refine GL.sem (j := 8) (H6.ld (o := 65) (ty := 22) (v := .int .u32 (t : Int)) 0 rfl (by kernel_rfl) (hdC_t hA hR)) [1, 4, 6, 8, 10] [(1, pt p3 0), (4, .int .u32 (v : Int)), (6, .agg (by8 A).toArray), (8, .agg (by8 R).toArray), (10, .int .u32 (t : Int))] (by kernel_rfl) (by kernel_rfl) rfl ?_
  refine GL.run (j := 9) 1 [1, 4, 6, 8, 10, 11] [(1, pt p3 0), (4, .int .u32 (v : Int)), (6, .agg (by8 A).toArray), (8, .agg (by8 R).toArray), (10, .int .u32 (t : Int)), (11, pt p3 66)] (by kernel_rfl) rfl ?_
  refine GL.sem (j := 10) (H6.ld (o := 66) (ty := 22) (v := .int .u32 (b : Int)) 0 rfl (by kernel_rfl) (hdC_b hA hR)) [1, 4, 6, 8, 10, 12] [(1, pt p3 0), (4, .int .u32 (v : Int)), (6, .agg (by8 A).toArray), (8, .agg (by8 R).toArray), (10, .int .u32 (t : Int)), (12, .int .u32 (b : Int))] (by kernel_rfl) (by kernel_rfl) rfl ?_
  refine GL.run (j := 11) 1 [4, 6, 8, 10, 12, 13] [(4, .int .u32 (v : Int)), (6, .agg (by8 A).toArray), (8, .agg (by8 R).toArray), (10, .int .u32 (t : Int)), (12, .int .u32 (b : Int)), (13, pt p3 67)] (by kernel_rfl) rfl ?_
  refine GL.sem (j := 12) (H6.ld (o := 67) (ty := 22) (v := .int .u32 (n : Int)) 0 rfl (by kernel_rfl) (hdC_n hA hR)) [4, 6, 8, 10, 12, 14] [(4, .int .u32 (v : Int)), (6, .agg (by8 A).toArray), (8, .agg (by8 R).toArray), (10, .int .u32 (t : Int)), (12, .int .u32 (b : Int)), (14, .int .u32 (n : Int))] (by kernel_rfl) (by kernel_rfl) rfl ?_
  refine GL.call (j := 13) (RBytes_calls v A R t b n w4 hA hR (by omega) (by omega) (by omega) (by omega)) (by kernel_rfl) rfl (fun e_ w11 hR => ?_)
  obtain ⟨A9, c10, rfl, H13⟩ := hR
  have H12 : Hp w [] [.blk p3 (hdC v A R t b n) 26, .row A9 80 c10 5 1 (by8 (hdB v A R t b n))] w11 := H6.callNew H13
  refine ⟨_, rfl, [15], [(15, .slice A9 80 c10)], by kernel_rfl, ?_⟩
  refine GL.run (j := 14) 1 [2] [(2, .slice A9 80 c10)] (by kernel_rfl) rfl ?_
  refine GL.k rfl hK8 (fun _ _ h => h) ?_
  refine G.ret ?_
  intro F_ hF_ hM_
  refine hRet _ _ (bodyPost_1 rfl (RV.tmp rfl) ?_ F_ hF_ hM_)
  exact ⟨_, _, rfl, H12.sub (List.Sublist.cons _ (List.Sublist.cons_cons _ (List.Sublist.slnil)))⟩
end Go.Proofs.Ytdepaaphgfapjaa
namespace Go.Proofs.Ytdepaaphgfapjaa
open Go.RowKit
def bsum (g : Nat → Nat) : Nat → Nat
  | 0 => 0
  | n + 1 => bsum g n + 256 ^ n * g n
theorem bsum_lt {g : Nat → Nat} (hg : ∀ i, g i < 256) (n : Nat) : bsum g n < 256 ^ n := by
  induction n with
  | zero => simp [bsum]
  | succ n ih =>
    have h := Nat.mul_le_mul_left (256 ^ n) (show g n + 1 ≤ 256 from hg n)
    rw [Nat.mul_add, Nat.mul_one] at h
    rw [bsum, Nat.pow_succ]
    omega
theorem byte_room {V i : Nat} (hV : V < 256 ^ i) (hi : i < 32) {d : Nat} (hd : d < 256) : wd V (i / 8) < 2 ^ (8 * (i % 8)) ∧ d * 2 ^ (8 * (i % 8)) < K ∧ wd V (i / 8) + d * 2 ^ (8 * (i % 8)) < K := by
  have h1 : wd V (i / 8) < 2 ^ (8 * (i % 8)) := by
    rw [wd_div V (by omega)]
    refine Nat.lt_of_le_of_lt (Nat.mod_le _ _) ?_
    rw [Nat.div_lt_iff_lt_mul (Nat.two_pow_pos _), ← Nat.pow_add]
    rw [show (256 : Nat) = 2 ^ 8 from rfl, ← Nat.pow_mul] at hV
    rwa [show 8 * (i % 8) + 64 * (i / 8) = 8 * i from by omega]
  have h2 : (d + 1) * 2 ^ (8 * (i % 8)) ≤ K := by
    have h3 : (d + 1) * 2 ^ (8 * (i % 8)) ≤ 256 * 2 ^ (8 * (i % 8)) := Nat.mul_le_mul_right _ (by omega)
    have h4 : 256 * 2 ^ (8 * (i % 8)) ≤ 256 * 2 ^ 56 := Nat.mul_le_mul_left _ (Nat.pow_le_pow_right (by decide) (by omega))
    have h5 : 256 * 2 ^ 56 = K := by decide
    omega
  rw [Nat.add_mul, Nat.one_mul] at h2
  have := Nat.two_pow_pos (8 * (i % 8))
  exact ⟨h1, by omega, by omega⟩
theorem or_byte {a d k : Nat} (ha : a < 2 ^ k) (haK : a < K) (hd : d * 2 ^ k < K) : Go.bits .or .u64 (a : Int) ((d * 2 ^ k : Nat) : Int) = ((a + d * 2 ^ k : Nat) : Int) := by
  rw [n_or haK hd, Nat.or_comm, Nat.mul_comm d, ← Nat.two_pow_add_eq_or_of_lt ha, Nat.add_comm]
theorem setbyte {V i d : Nat} (hV : V < 256 ^ i) (hi : i < 32) (hd : d < 256) :
    ([.int .u64 (wd V 0 : Int), .int .u64 (wd V 1 : Int), .int .u64 (wd V 2 : Int), .int .u64 (wd V 3 : Int)] : List Value).set (0 + i / 8 * 1) (.int .u64 ((wd V (i / 8) + d * 2 ^ (8 * (i % 8)) : Nat) : Int)) =
      [.int .u64 (wd (V + 256 ^ i * d) 0 : Int), .int .u64 (wd (V + 256 ^ i * d) 1 : Int), .int .u64 (wd (V + 256 ^ i * d) 2 : Int), .int .u64 (wd (V + 256 ^ i * d) 3 : Int)] := by
  obtain ⟨h0, h1, h2⟩ := byte_room hV hi hd
  have hK : V < K4 := Nat.lt_of_lt_of_le hV (by
    have : 256 ^ i ≤ 256 ^ 32 := Nat.pow_le_pow_right (by decide) (by omega)
    exact Nat.le_trans this (by decide))
  have e : 256 ^ i * d = 2 ^ (64 * (i / 8)) * (d * 2 ^ (8 * (i % 8))) := by
    rw [Nat.mul_comm d, ← Nat.mul_assoc, ← Nat.pow_add, show 64 * (i / 8) + 8 * (i % 8) = 8 * i from by omega, Nat.pow_mul]
  rw [e]
  exact setword hK (by omega) h2
theorem run_idxFn {P : Program} {t n : Nat} {k k' : IntKind} (ht : arrInt P t = some n) (g : Nat → Nat) {i : Nat} (hi : i < n) (w : World) :
    (Instr.index t (.agg ((List.range n).map fun i => Value.int k ((g i : Nat) : Int)).toArray) (.int k' (i : Int))).run P w = .ok (.int k ((g i : Nat) : Int)) w := by
  obtain ⟨e, inf, k2, hu, he, hinf, hs, _⟩ := arrInt_spec ht
  have h := run_part_int (w := w) (k := k) he ((List.range n).map fun i => ((g i : Nat) : Int)) (i := i) (by simpa using hi)
  have e1 : ints k ((List.range n).map fun i => ((g i : Nat) : Int)) = (List.range n).map fun i => Value.int k ((g i : Nat) : Int) := by simp [ints]
  have e2 : ((List.range n).map fun i => ((g i : Nat) : Int)).getD i 0 = ((g i : Nat) : Int) := by simp [List.getD_eq_getElem?_getD, hi]
  rw [e1, e2] at h
  have hc : (0 : Int) ≤ (i : Int) ∧ (i : Int) < (n : Int) := ⟨by omega, by omega⟩
  simp only [Instr.index, Sem.run_bind, asIntOf, Sem.run_pure, Result.andThen_ok, run_underlying hu, if_pos hc, Int.toNat_natCast]
  have h2 : (sizeOf e).run P w = .ok 1 w := by simp [sizeOf, typeInfo, hinf, hs]
  simp only [h2, Result.andThen_ok]
  exact h
end Go.Proofs.Ytdepaaphgfapjaa
namespace Go.Proofs.Ytdepaaphgfapjaa
open Go.RowKit
theorem FromBytes_calls (g : Nat → Nat) (hg : ∀ i, g i < 256) (w : World) : Calls Try.prog 54 #[.agg #[.int .u8 ((g 0 : Nat) : Int), .int .u8 ((g 1 : Nat) : Int), .int .u8 ((g 2 : Nat) : Int), .int .u8 ((g 3 : Nat) : Int), .int .u8 ((g 4 : Nat) : Int), .int .u8 ((g 5 : Nat) : Int), .int .u8 ((g 6 : Nat) : Int), .int .u8 ((g 7 : Nat) : Int), .int .u8 ((g 8 : Nat) : Int), .int .u8 ((g 9 : Nat) : Int), .int .u8 ((g 10 : Nat) : Int), .int .u8 ((g 11 : Nat) : Int), .int .u8 ((g 12 : Nat) : Int), .int .u8 ((g 13 : Nat) : Int), .int .u8 ((g 14 : Nat) : Int), .int .u8 ((g 15 : Nat) : Int), .int .u8 ((g 16 : Nat) : Int), .int .u8 ((g 17 : Nat) : Int), .int .u8 ((g 18 : Nat) : Int), .int .u8 ((g 19 : Nat) : Int), .int .u8 ((g 20 : Nat) : Int), .int .u8 ((g 21 : Nat) : Int), .int .u8 ((g 22 : Nat) : Int), .int .u8 ((g 23 : Nat) : Int), .int .u8 ((g 24 : Nat) : Int), .int .u8 ((g 25 : Nat) : Int), .int .u8 ((g 26 : Nat) : Int), .int .u8 ((g 27 : Nat) : Int), .int .u8 ((g 28 : Nat) : Int), .int .u8 ((g 29 : Nat) : Int), .int .u8 ((g 30 : Nat) : Int), .int .u8 ((g 31 : Nat) : Int)]] w fun e w' => e = .returned (wv (bsum g 32)) ∧ Hp w [] [] w' := by
  refine calls_G (args := [.agg #[.int .u8 ((g 0 : Nat) : Int), .int .u8 ((g 1 : Nat) : Int), .int .u8 ((g 2 : Nat) : Int), .int .u8 ((g 3 : Nat) : Int), .int .u8 ((g 4 : Nat) : Int), .int .u8 ((g 5 : Nat) : Int), .int .u8 ((g 6 : Nat) : Int), .int .u8 ((g 7 : Nat) : Int), .int .u8 ((g 8 : Nat) : Int), .int .u8 ((g 9 : Nat) : Int), .int .u8 ((g 10 : Nat) : Int), .int .u8 ((g 11 : Nat) : Int), .int .u8 ((g 12 : Nat) : Int), .int .u8 ((g 13 : Nat) : Int), .int .u8 ((g 14 : Nat) : Int), .int .u8 ((g 15 : Nat) : Int), .int .u8 ((g 16 : Nat) : Int), .int .u8 ((g 17 : Nat) : Int), .int .u8 ((g 18 : Nat) : Int), .int .u8 ((g 19 : Nat) : Int), .int .u8 ((g 20 : Nat) : Int), .int .u8 ((g 21 : Nat) : Int), .int .u8 ((g 22 : Nat) : Int), .int .u8 ((g 23 : Nat) : Int), .int .u8 ((g 24 : Nat) : Int), .int .u8 ((g 25 : Nat) : Int), .int .u8 ((g 26 : Nat) : Int), .int .u8 ((g 27 : Nat) : Int), .int .u8 ((g 28 : Nat) : Int), .int .u8 ((g 29 : Nat) : Int), .int .u8 ((g 30 : Nat) : Int), .int .u8 ((g 31 : Nat) : Int)]]) Try.func54 rfl Try.ntmps54 rfl ?_
  intro Q0 hRet hNor hPan
  have H := Hp.start w
  have H : Hp w [] [] w := H
  refine G.seqK fun K1 hK2 => ?_
  refine G.region ?_
  obtain ⟨p3, w4, r5, H6⟩ := H.box (P := Try.prog) 23 [.int .u8 ((g 0 : Nat) : Int), .int .u8 ((g 1 : Nat) : Int), .int .u8 ((g 2 : Nat) : Int), .int .u8 ((g 3 : Nat) : Int), .int .u8 ((g 4 : Nat) : Int), .int .u8 ((g 5 : Nat) : Int), .int .u8 ((g 6 : Nat) : Int), .int .u8 ((g 7 : Nat) : Int), .int .u8 ((g 8 : Nat) : Int), .int .u8 ((g 9 : Nat) : Int), .int .u8 ((g 10 : Nat) : Int), .int .u8 ((g 11 : Nat) : Int), .int .u8 ((g 12 : Nat) : Int), .int .u8 ((g 13 : Nat) : Int), .int .u8 ((g 14 : Nat) : Int), .int .u8 ((g 15 : Nat) : Int), .int .u8 ((g 16 : Nat) : Int), .int .u8 ((g 17 : Nat) : Int), .int .u8 ((g 18 : Nat) : Int), .int .u8 ((g 19 : Nat) : Int), .int .u8 ((g 20 : Nat) : Int), .int .u8 ((g 21 : Nat) : Int), .int .u8 ((g 22 : Nat) : Int), .int .u8 ((g 23 : Nat) : Int), .int .u8 ((g 24 : Nat) : Int), .int .u8 ((g 25 : Nat) : Int), .int .u8 ((g 26 : Nat) : Int), .int .u8 ((g 27 : Nat) : Int), .int .u8 ((g 28 : Nat) : Int), .int .u8 ((g 29 : Nat) : Int), .int .u8 ((g 30 : Nat) : Int), .int .u8 ((g 31 : Nat) : Int)] (.agg #[.int .u8 ((g 0 : Nat) : Int), .int .u8 ((g 1 : Nat) : Int), .int .u8 ((g 2 : Nat) : Int), .int .u8 ((g 3 : Nat) : Int), .int .u8 ((g 4 : Nat) : Int), .int .u8 ((g 5 : Nat) : Int), .int .u8 ((g 6 : Nat) : Int), .int .u8 ((g 7 : Nat) : Int), .int .u8 ((g 8 : Nat) : Int), .int .u8 ((g 9 : Nat) : Int), .int .u8 ((g 10 : Nat) : Int), .int .u8 ((g 11 : Nat) : Int), .int .u8 ((g 12 : Nat) : Int), .int .u8 ((g 13 : Nat) : Int), .int .u8 ((g 14 : Nat) : Int), .int .u8 ((g 15 : Nat) : Int), .int .u8 ((g 16 : Nat) : Int), .int .u8 ((g 17 : Nat) : Int), .int .u8 ((g 18 : Nat) : Int), .int .u8 ((g 19 : Nat) : Int), .int .u8 ((g 20 : Nat) : Int), .int .u8 ((g 21 : Nat) : Int), .int .u8 ((g 22 : Nat) : Int), .int .u8 ((g 23 : Nat) : Int), .int .u8 ((g 24 : Nat) : Int), .int .u8 ((g 25 : Nat) : Int), .int .u8 ((g 26 : Nat) : Int), .int .u8 ((g 27 : Nat) : Int), .int .u8 ((g 28 : Nat) : Int), .int .u8 ((g 29 : Nat) : Int), .int .u8 ((g 30 : Nat) : Int), .int .u8 ((g 31 : Nat) : Int)]) rfl
  have H6 : Hp w [] [.blk p3 [.int .u8 ((g 0 : Nat) : Int), .int .u8 ((g 1 : Nat) : Int), .int .u8 ((g 2 : Nat) : Int), .int .u8 ((g 3 : Nat) : Int), .int .u8 ((g 4 : Nat) : Int), .int .u8 ((g 5 : Nat) : Int), .int .u8 ((g 6 : Nat) : Int), .int .u8 ((g 7 : Nat) : Int), .int .u8 ((g 8 : Nat) : Int), .int .u8 ((g 9 : Nat) : Int), .int .u8 ((g 10 : Nat) : Int), .int .u8 ((g 11 : Nat) : Int), .int .u8 ((g 12 : Nat) : Int), .int .u8 ((g 13 : Nat) : Int), .int .u8 ((g 14 : Nat) : Int), .int .u8 ((g 15 : Nat) : Int), .int .u8 ((g 16 : Nat) : Int), .int .u8 ((g 17 : Nat) : Int), .int .u8 ((g 18 : Nat) : Int), .int .u8 ((g 19 : Nat) : Int), .int .u8 ((g 20 : Nat) : Int), .int .u8 ((g 21 : Nat) : Int), .int .u8 ((g 22 : Nat) : Int), .int .u8 ((g 23 : Nat) : Int), .int .u8 ((g 24 : Nat) : Int), .int .u8 ((g 25 : Nat) : Int), .int .u8 ((g 26 : Nat) : Int), .int .u8 ((g 27 : Nat) : Int), .int .u8 ((g 28 : Nat) : Int), .int .u8 ((g 29 : Nat) : Int), .int .u8 ((g 30 : Nat) : Int), .int .u8 ((g 31 : Nat) : Int)] 23] w4 := H6
  refine GL.sem (j := 1) (r5) [1] [(1, pt p3 0)] (by kernel_rfl) (by kernel_rfl) rfl ?_
  obtain ⟨p7, w8, r9, H10⟩ := H6.alloc (P := Try.prog) 33 [.int .u64 0, .int .u64 0, .int .u64 0, .int .u64 0] (by kernel_rfl)
  have H10 : Hp w [] [.blk p3 [.int .u8 ((g 0 : Nat) : Int), .int .u8 ((g 1 : Nat) : Int), .int .u8 ((g 2 : Nat) : Int), .int .u8 ((g 3 : Nat) : Int), .int .u8 ((g 4 : Nat) : Int), .int .u8 ((g 5 : Nat) : Int), .int .u8 ((g 6 : Nat) : Int), .int .u8 ((g 7 : Nat) : Int), .int .u8 ((g 8 : Nat) : Int), .int .u8 ((g 9 : Nat) : Int), .int .u8 ((g 10 : Nat) : Int), .int .u8 ((g 11 : Nat) : Int), .int .u8 ((g 12 : Nat) : Int), .int .u8 ((g 13 : Nat) : Int), .int .u8 ((g 14 : Nat) : Int), .int .u8 ((g 15 : Nat) : Int), .int .u8 ((g 16 : Nat) : Int), .int .u8 ((g 17 : Nat) : Int), .int .u8 ((g 18 : Nat) : Int), .int .u8 ((g 19 : Nat) : Int), .int .u8 ((g 20 : Nat) : Int), .int .u8 ((g 21 : Nat) : Int), .int .u8 ((g 22 : Nat) : Int), .int .u8 ((g 23 : Nat) : Int), .int .u8 ((g 24 : Nat) : Int), .int .u8 ((g 25 : Nat) : Int), .int .u8 ((g 26 : Nat) : Int), .int .u8 ((g 27 : Nat) : Int), .int .u8 ((g 28 : Nat) : Int), .int .u8 ((g 29 : Nat) : Int), .int .u8 ((g 30 : Nat) : Int), .int .u8 ((g 31 : Nat) : Int)] 23, .blk p7 [.int .u64 0, .int .u64 0, .int .u64 0, .int .u64 0] 33] w8 := H10
  refine GL.sem (j := 2) (r9) [1, 2] [(1, pt p3 0), (2, pt p7 0)] (by kernel_rfl) (by kernel_rfl) rfl ?_
  refine GL.k rfl hK2 (fun _ _ h => h) ?_
  refine G.seqK fun K11 hK12 => ?_
  refine G.region ?_
  obtain ⟨p13, w14, r15, H16⟩ := H10.alloc (P := Try.prog) 33 [.int .u64 0, .int .u64 0, .int .u64 0, .int .u64 0] (by kernel_rfl)
  have H16 : Hp w [] [.blk p3 [.int .u8 ((g 0 : Nat) : Int), .int .u8 ((g 1 : Nat) : Int), .int .u8 ((g 2 : Nat) : Int), .int .u8 ((g 3 : Nat) : Int), .int .u8 ((g 4 : Nat) : Int), .int .u8 ((g 5 : Nat) : Int), .int .u8 ((g 6 : Nat) : Int), .int .u8 ((g 7 : Nat) : Int), .int .u8 ((g 8 : Nat) : Int), .int .u8 ((g 9 : Nat) : Int), .int .u8 ((g 10 : Nat) : Int), .int .u8 ((g 11 : Nat) : Int), .int .u8 ((g 12 : Nat) : Int), .int .u8 ((g 13 : Nat) : Int), .int .u8 ((g 14 : Nat) : Int), .int .u8 ((g 15 : Nat) : Int), .int .u8 ((g 16 : Nat) : Int), .int .u8 ((g 17 : Nat) : Int), .int .u8 ((g 18 : Nat) : Int), .int .u8 ((g 19 : Nat) : Int), .int .u8 ((g 20 : Nat) : Int), .int .u8 ((g 21 : Nat) : Int), .int .u8 ((g 22 : Nat) : Int), .int .u8 ((g 23 : Nat) : Int), .int .u8 ((g 24 : Nat) : Int), .int .u8 ((g 25 : Nat) : Int), .int .u8 ((g 26 : Nat) : Int), .int .u8 ((g 27 : Nat) : Int), .int .u8 ((g 28 : Nat) : Int), .int .u8 ((g 29 : Nat) : Int), .int .u8 ((g 30 : Nat) : Int), .int .u8 ((g 31 : Nat) : Int)] 23, .blk p7 [.int .u64 0, .int .u64 0, .int .u64 0, .int .u64 0] 33, .blk p13 [.int .u64 0, .int .u64 0, .int .u64 0, .int .u64 0] 33] w14 := H16
  refine GL.sem (j := 1) (r15) [1, 2, 3] [(1, pt p3 0), (2, pt p7 0), (3, pt p13 0)] (by kernel_rfl) (by kernel_rfl) rfl ?_
  refine GL.k rfl hK12 (fun _ _ h => h) ?_
  refine G.seqK fun K17 hK18 => ?_
  refine G.seqK fun K19 hK20 => ?_
  refine G.region ?_
  refine GL.sem (j := 1) (H16.ldA (o := 0) (ty := 23) (m := 32) (sub := [.int .u8 ((g 0 : Nat) : Int), .int .u8 ((g 1 : Nat) : Int), .int .u8 ((g 2 : Nat) : Int), .int .u8 ((g 3 : Nat) : Int), .int .u8 ((g 4 : Nat) : Int), .int .u8 ((g 5 : Nat) : Int), .int .u8 ((g 6 : Nat) : Int), .int .u8 ((g 7 : Nat) : Int), .int .u8 ((g 8 : Nat) : Int), .int .u8 ((g 9 : Nat) : Int), .int .u8 ((g 10 : Nat) : Int), .int .u8 ((g 11 : Nat) : Int), .int .u8 ((g 12 : Nat) : Int), .int .u8 ((g 13 : Nat) : Int), .int .u8 ((g 14 : Nat) : Int), .int .u8 ((g 15 : Nat) : Int), .int .u8 ((g 16 : Nat) : Int), .int .u8 ((g 17 : Nat) : Int), .int .u8 ((g 18 : Nat) : Int), .int .u8 ((g 19 : Nat) : Int), .int .u8 ((g 20 : Nat) : Int), .int .u8 ((g 21 : Nat) : Int), .int .u8 ((g 22 : Nat) : Int), .int .u8 ((g 23 : Nat) : Int), .int .u8 ((g 24 : Nat) : Int), .int .u8 ((g 25 : Nat) : Int), .int .u8 ((g 26 : Nat) : Int), .int .u8 ((g 27 : Nat) : Int), .int .u8 ((g 28 : Nat) : Int), .int .u8 ((g 29 : Nat) : Int), .int .u8 ((g 30 : Nat) : Int), .int .u8 ((g 31 : Nat) : Int)]) 0 rfl (by kernel_rfl) rfl rfl) [2, 3, 6] [(2, pt p7 0), (3, pt p13 0), (6, .agg #[.int .u8 ((g 0 : Nat) : Int), .int .u8 ((g 1 : Nat) : Int), .int .u8 ((g 2 : Nat) : Int), .int .u8 ((g 3 : Nat) : Int), .int .u8 ((g 4 : Nat) : Int), .int .u8 ((g 5 : Nat) : Int), .int .u8 ((g 6 : Nat) : Int), .int .u8 ((g 7 : Nat) : Int), .int .u8 ((g 8 : Nat) : Int), .int .u8 ((g 9 : Nat) : Int), .int .u8 ((g 10 : Nat) : Int), .int .u8 ((g 11 : Nat) : Int), .int .u8 ((g 12 : Nat) : Int), .int .u8 ((g 13 : Nat) : Int), .int .u8 ((g 14 : Nat) : Int), .int .u8 ((g 15 : Nat) : Int), .int .u8 ((g 16 : Nat) : Int), .int .u8 ((g 17 : Nat) : Int), .int .u8 ((g 18 : Nat) : Int), .int .u8 ((g 19 : Nat) : Int), .int .u8 ((g 20 : Nat) : Int), .int .u8 ((g 21 : Nat) : Int), .int .u8 ((g 22 : Nat) : Int), .int .u8 ((g 23 : Nat) : Int), .int .u8 ((g 24 : Nat) : Int), .int .u8 ((g 25 : Nat) : Int), .int .u8 ((g 26 : Nat) : Int), .int .u8 ((g 27 : Nat) : Int), .int .u8 ((g 28 : Nat) : Int), .int .u8 ((g 29 : Nat) : Int), .int .u8 ((g 30 : Nat) : Int), .int .u8 ((g 31 : Nat) : Int)])] (by kernel_rfl) (by kernel_rfl) rfl ?_
  refine GL.run (j := 2) 1 [2, 3, 6, 7] [(2, pt p7 0), (3, pt p13 0), (6, .agg #[.int .u8 ((g 0 : Nat) : Int), .int .u8 ((g 1 : Nat) : Int), .int .u8 ((g 2 : Nat) : Int), .int .u8 ((g 3 : Nat) : Int), .int .u8 ((g 4 : Nat) : Int), .int .u8 ((g 5 : Nat) : Int), .int .u8 ((g 6 : Nat) : Int), .int .u8 ((g 7 : Nat) : Int), .int .u8 ((g 8 : Nat) : Int), .int .u8 ((g 9 : Nat) : Int), .int .u8 ((g 10 : Nat) : Int), .int .u8 ((g 11 : Nat) : Int), .int .u8 ((g 12 : Nat) : Int), .int .u8 ((g 13 : Nat) : Int), .int .u8 ((g 14 : Nat) : Int), .int .u8 ((g 15 : Nat) : Int), .int .u8 ((g 16 : Nat) : Int), .int .u8 ((g 17 : Nat) : Int), .int .u8 ((g 18 : Nat) : Int), .int .u8 ((g 19 : Nat) : Int), .int .u8 ((g 20 : Nat) : Int), .int .u8 ((g 21 : Nat) : Int), .int .u8 ((g 22 : Nat) : Int), .int .u8 ((g 23 : Nat) : Int), .int .u8 ((g 24 : Nat) : Int), .int .u8 ((g 25 : Nat) : Int), .int .u8 ((g 26 : Nat) : Int), .int .u8 ((g 27 : Nat) : Int), .int .u8 ((g 28 : Nat) : Int), .int .u8 ((g 29 : Nat) : Int), .int .u8 ((g 30 : Nat) : Int), .int .u8 ((g 31 : Nat) : Int)]), (7, .int .i64 0)] (by kernel_rfl) rfl ?_
  refine GL.k rfl hK20 (fun _ _ h => h) ?_
  refine G.block ?_
  have H21 : Hp w [] [.blk p3 [.int .u8 ((g 0 : Nat) : Int), .int .u8 ((g 1 : Nat) : Int), .int .u8 ((g 2 : Nat) : Int), .int .u8 ((g 3 : Nat) : Int), .int .u8 ((g 4 : Nat) : Int), .int .u8 ((g 5 : Nat) : Int), .int .u8 ((g 6 : Nat) : Int), .int .u8 ((g 7 : Nat) : Int), .int .u8 ((g 8 : Nat) : Int), .int .u8 ((g 9 : Nat) : Int), .int .u8 ((g 10 : Nat) : Int), .int .u8 ((g 11 : Nat) : Int), .int .u8 ((g 12 : Nat) : Int), .int .u8 ((g 13 : Nat) : Int), .int .u8 ((g 14 : Nat) : Int), .int .u8 ((g 15 : Nat) : Int), .int .u8 ((g 16 : Nat) : Int), .int .u8 ((g 17 : Nat) : Int), .int .u8 ((g 18 : Nat) : Int), .int .u8 ((g 19 : Nat) : Int), .int .u8 ((g 20 : Nat) : Int), .int .u8 ((g 21 : Nat) : Int), .int .u8 ((g 22 : Nat) : Int), .int .u8 ((g 23 : Nat) : Int), .int .u8 ((g 24 : Nat) : Int), .int .u8 ((g 25 : Nat) : Int), .int .u8 ((g 26 : Nat) : Int), .int .u8 ((g 27 : Nat) : Int), .int .u8 ((g 28 : Nat) : Int), .int .u8 ((g 29 : Nat) : Int), .int .u8 ((g 30 : Nat) : Int), .int .u8 ((g 31 : Nat) : Int)] 23, .blk p7 [.int .u64 0, .int .u64 0, .int .u64 0, .int .u64 0] 33, .blk p13 [.int .u64 (wd 0 0 : Int), .int .u64 (wd 0 1 : Int), .int .u64 (wd 0 2 : Int), .int .u64 (wd 0 3 : Int)] 33] w14 := H16
  refine G.fit [2, 3, 6, 7] (M' := [(2, pt p7 0), (3, pt p13 0), (6, .agg #[.int .u8 ((g 0 : Nat) : Int), .int .u8 ((g 1 : Nat) : Int), .int .u8 ((g 2 : Nat) : Int), .int .u8 ((g 3 : Nat) : Int), .int .u8 ((g 4 : Nat) : Int), .int .u8 ((g 5 : Nat) : Int), .int .u8 ((g 6 : Nat) : Int), .int .u8 ((g 7 : Nat) : Int), .int .u8 ((g 8 : Nat) : Int), .int .u8 ((g 9 : Nat) : Int), .int .u8 ((g 10 : Nat) : Int), .int .u8 ((g 11 : Nat) : Int), .int .u8 ((g 12 : Nat) : Int), .int .u8 ((g 13 : Nat) : Int), .int .u8 ((g 14 : Nat) : Int), .int .u8 ((g 15 : Nat) : Int), .int .u8 ((g 16 : Nat) : Int), .int .u8 ((g 17 : Nat) : Int), .int .u8 ((g 18 : Nat) : Int), .int .u8 ((g 19 : Nat) : Int), .int .u8 ((g 20 : Nat) : Int), .int .u8 ((g 21 : Nat) : Int), .int .u8 ((g 22 : Nat) : Int), .int .u8 ((g 23 : Nat) : Int), .int .u8 ((g 24 : Nat) : Int), .int .u8 ((g 25 : Nat) : Int), .int .u8 ((g 26 : Nat) : Int), .int .u8 ((g 27 : Nat) : Int), .int .u8 ((g 28 : Nat) : Int), .int .u8 ((g 29 : Nat) : Int), .int .u8 ((g 30 : Nat) : Int), .int .u8 ((g 31 : Nat) : Int)]), (7, .int .i64 0)]) (by kernel_rfl) ?_
  refine G.loop (X := Nat × Nat) (fun ⟨i, V⟩ => [(2, pt p7 0), (3, pt p13 0), (6, .agg #[.int .u8 ((g 0 : Nat) : Int), .int .u8 ((g 1 : Nat) : Int), .int .u8 ((g 2 : Nat) : Int), .int .u8 ((g 3 : Nat) : Int), .int .u8 ((g 4 : Nat) : Int), .int .u8 ((g 5 : Nat) : Int), .int .u8 ((g 6 : Nat) : Int), .int .u8 ((g 7 : Nat) : Int), .int .u8 ((g 8 : Nat) : Int), .int .u8 ((g 9 : Nat) : Int), .int .u8 ((g 10 : Nat) : Int), .int .u8 ((g 11 : Nat) : Int), .int .u8 ((g 12 : Nat) : Int), .int .u8 ((g 13 : Nat) : Int), .int .u8 ((g 14 : Nat) : Int), .int .u8 ((g 15 : Nat) : Int), .int .u8 ((g 16 : Nat) : Int), .int .u8 ((g 17 : Nat) : Int), .int .u8 ((g 18 : Nat) : Int), .int .u8 ((g 19 : Nat) : Int), .int .u8 ((g 20 : Nat) : Int), .int .u8 ((g 21 : Nat) : Int), .int .u8 ((g 22 : Nat) : Int), .int .u8 ((g 23 : Nat) : Int), .int .u8 ((g 24 : Nat) : Int), .int .u8 ((g 25 : Nat) : Int), .int .u8 ((g 26 : Nat) : Int), .int .u8 ((g 27 : Nat) : Int), .int .u8 ((g 28 : Nat) : Int), .int .u8 ((g 29 : Nat) : Int), .int .u8 ((g 30 : Nat) : Int), .int .u8 ((g 31 : Nat) : Int)]), (7, .int .i64 (i : Int))]) (fun ⟨i, V⟩ w_ => (i ≤ 32 ∧ V = bsum g i) ∧ Hp w [] [.blk p3 [.int .u8 ((g 0 : Nat) : Int), .int .u8 ((g 1 : Nat) : Int), .int .u8 ((g 2 : Nat) : Int), .int .u8 ((g 3 : Nat) : Int), .int .u8 ((g 4 : Nat) : Int), .int .u8 ((g 5 : Nat) : Int), .int .u8 ((g 6 : Nat) : Int), .int .u8 ((g 7 : Nat) : Int), .int .u8 ((g 8 : Nat) : Int), .int .u8 ((g 9 : Nat) : Int), .int .u8 ((g 10 : Nat) : Int), .int .u8 ((g 11 : Nat) : Int), .int .u8 ((g 12 : Nat) : Int), .int .u8 ((g 13 : Nat) : Int), .int .u8 ((g 14 : Nat) : Int), .int .u8 ((g 15 : Nat) : Int), .int .u8 ((g 16 : Nat) : Int), .int .u8 ((g 17 : Nat) : Int), .int .u8 ((g 18 : Nat) : Int), .int .u8 ((g 19 : Nat) : Int), .int .u8 ((g 20 : Nat) : Int), .int .u8 ((g 21 : Nat) : Int), .int .u8 ((g 22 : Nat) : Int), .int .u8 ((g 23 : Nat) : Int), .int .u8 ((g 24 : Nat) : Int), .int .u8 ((g 25 : Nat) : Int), .int .u8 ((g 26 : Nat) : Int), .int .u8 ((g 27 : Nat) : Int), .int .u8 ((g 28 : Nat) : Int), .int .u8 ((g 29 : Nat) : Int), .int .u8 ((g 30 : Nat) : Int), .int .u8 ((g 31 : Nat) : Int)] 23, .blk p7 [.int .u64 0, .int .u64 0, .int .u64 0, .int .u64 0] 33, .blk p13 [.int .u64 (wd V 0 : Int), .int .u64 (wd V 1 : Int), .int .u64 (wd V 2 : Int), .int .u64 (wd V 3 : Int)] 33] w_) (fun ⟨i, V⟩ => 32 - i) ⟨0, 0⟩ [2, 3, 6, 7] (by kernel_rfl) ⟨⟨by decide, rfl⟩, H21⟩ ?_
  rintro ⟨i, V⟩ w22 ⟨hi23, H24⟩
  refine G.eq (M' := [(2, pt p7 0), (3, pt p13 0), (6, .agg #[.int .u8 ((g 0 : Nat) : Int), .int .u8 ((g 1 : Nat) : Int), .int .u8 ((g 2 : Nat) : Int), .int .u8 ((g 3 : Nat) : Int), .int .u8 ((g 4 : Nat) : Int), .int .u8 ((g 5 : Nat) : Int), .int .u8 ((g 6 : Nat) : Int), .int .u8 ((g 7 : Nat) : Int), .int .u8 ((g 8 : Nat) : Int), .int .u8 ((g 9 : Nat) : Int), .int .u8 ((g 10 : Nat) : Int), .int .u8 ((g 11 : Nat) : Int), .int .u8 ((g 12 : Nat) : Int), .int .u8 ((g 13 : Nat) : Int), .int .u8 ((g 14 : Nat) : Int), .int .u8 ((g 15 : Nat) : Int), .int .u8 ((g 16 : Nat) : Int), .int .u8 ((g 17 : Nat) : Int), .int .u8 ((g 18 : Nat) : Int), .int .u8 ((g 19 : Nat) : Int), .int .u8 ((g 20 : Nat) : Int), .int .u8 ((g 21 : Nat) : Int), .int .u8 ((g 22 : Nat) : Int), .int .u8 ((g 23 : Nat) : Int), .int .u8 ((g 24 : Nat) : Int), .int .u8 ((g 25 : Nat) : Int), .int .u8 ((g 26 : Nat) : Int), .int .u8 ((g 27 : Nat) : Int), .int .u8 ((g 28 : Nat) : Int), .int .u8 ((g 29 : Nat) : Int), .int .u8 ((g 30 : Nat) : Int), .int .u8 ((g 31 : Nat) : Int)]), (7, .int .i64 (i : Int))]) rfl ?_
  have H24 : Hp w [] [.blk p3 [.int .u8 ((g 0 : Nat) : Int), .int .u8 ((g 1 : Nat) : Int), .int .u8 ((g 2 : Nat) : Int), .int .u8 ((g 3 : Nat) : Int), .int .u8 ((g 4 : Nat) : Int), .int .u8 ((g 5 : Nat) : Int), .int .u8 ((g 6 : Nat) : Int), .int .u8 ((g 7 : Nat) : Int), .int .u8 ((g 8 : Nat) : Int), .int .u8 ((g 9 : Nat) : Int), .int .u8 ((g 10 : Nat) : Int), .int .u8 ((g 11 : Nat) : Int), .int .u8 ((g 12 : Nat) : Int), .int .u8 ((g 13 : Nat) : Int), .int .u8 ((g 14 : Nat) : Int), .int .u8 ((g 15 : Nat) : Int), .int .u8 ((g 16 : Nat) : Int), .int .u8 ((g 17 : Nat) : Int), .int .u8 ((g 18 : Nat) : Int), .int .u8 ((g 19 : Nat) : Int), .int .u8 ((g 20 : Nat) : Int), .int .u8 ((g 21 : Nat) : Int), .int .u8 ((g 22 : Nat) : Int), .int .u8 ((g 23 : Nat) : Int), .int .u8 ((g 24 : Nat) : Int), .int .u8 ((g 25 : Nat) : Int), .int .u8 ((g 26 : Nat) : Int), .int .u8 ((g 27 : Nat) : Int), .int .u8 ((g 28 : Nat) : Int), .int .u8 ((g 29 : Nat) : Int), .int .u8 ((g 30 : Nat) : Int), .int .u8 ((g 31 : Nat) : Int)] 23, .blk p7 [.int .u64 0, .int .u64 0, .int .u64 0, .int .u64 0] 33, .blk p13 [.int .u64 (wd V 0 : Int), .int .u64 (wd V 1 : Int), .int .u64 (wd V 2 : Int), .int .u64 (wd V 3 : Int)] 33] w22 := H24
  obtain ⟨hi32, hV⟩ := hi23
  have hVp : V < 256 ^ i := by rw [hV]; exact bsum_lt hg i
  have hgi := hg i
  refine G.seqK fun K25 hK26 => ?_
  refine G.region ?_
  refine GL.run (j := 1) 1 [2, 3, 6, 7, 8] [(2, pt p7 0), (3, pt p13 0), (6, .agg #[.int .u8 ((g 0 : Nat) : Int), .int .u8 ((g 1 : Nat) : Int), .int .u8 ((g 2 : Nat) : Int), .int .u8 ((g 3 : Nat) : Int), .int .u8 ((g 4 : Nat) : Int), .int .u8 ((g 5 : Nat) : Int), .int .u8 ((g 6 : Nat) : Int), .int .u8 ((g 7 : Nat) : Int), .int .u8 ((g 8 : Nat) : Int), .int .u8 ((g 9 : Nat) : Int), .int .u8 ((g 10 : Nat) : Int), .int .u8 ((g 11 : Nat) : Int), .int .u8 ((g 12 : Nat) : Int), .int .u8 ((g 13 : Nat) : Int), .int .u8 ((g 14 : Nat) : Int), .int .u8 ((g 15 : Nat) : Int), .int .u8 ((g 16 : Nat) : Int), .int .u8 ((g 17 : Nat) : Int), .int .u8 ((g 18 : Nat) : Int), .int .u8 ((g 19 : Nat) : Int), .int .u8 ((g 20 : Nat) : Int), .int .u8 ((g 21 : Nat) : Int), .int .u8 ((g 22 : Nat) : Int), .int .u8 ((g 23 : Nat) : Int), .int .u8 ((g 24 : Nat) : Int), .int .u8 ((g 25 : Nat) : Int), .int .u8 ((g 26 : Nat) : Int), .int .u8 ((g 27 : Nat) : Int), .int .u8 ((g 28 : Nat) : Int), .int .u8 ((g 29 : Nat) : Int), .int .u8 ((g 30 : Nat) : Int), .int .u8 ((g 31 : Nat) : Int)]), (7, .int .i64 (i : Int)), (8, .bool (decide ((i : Int) < 32)))] (by kernel_rfl) rfl ?_
  refine GL.k rfl hK26 (fun _ _ h => h) ?_
  refine G.seqK fun K27 hK28 => ?_
  cases hb29 : (decide ((i : Int) < 32))
  · skip
    have hb29f := of_decide_eq_false hb29
    refine G.no rfl ?_
    refine G.exitK hK18 (fun _ _ h => h) ?_
    refine G.seqK fun K30 hK31 => ?_
    refine G.region ?_
    refine GL.sem (j := 1) (H24.ldA (o := 0) (ty := 33) (m := 4) (sub := [.int .u64 (wd V 0 : Int), .int .u64 (wd V 1 : Int), .int .u64 (wd V 2 : Int), .int .u64 (wd V 3 : Int)]) 2 rfl (by kernel_rfl) rfl rfl) [2, 24] [(2, pt p7 0), (24, wv V)] (by kernel_rfl) (by kernel_rfl) rfl ?_
    obtain ⟨w32, r33, H34⟩ := H24.stA (P := Try.prog) (o := 0) (vs := [.int .u64 (wd V 0 : Int), .int .u64 (wd V 1 : Int), .int .u64 (wd V 2 : Int), .int .u64 (wd V 3 : Int)]) (ty := 33) (m := 4) 1 rfl (by kernel_rfl) rfl (by simp) (by simp [Value.oneCell'])
    have H34 : Hp w [] [.blk p3 [.int .u8 ((g 0 : Nat) : Int), .int .u8 ((g 1 : Nat) : Int), .int .u8 ((g 2 : Nat) : Int), .int .u8 ((g 3 : Nat) : Int), .int .u8 ((g 4 : Nat) : Int), .int .u8 ((g 5 : Nat) : Int), .int .u8 ((g 6 : Nat) : Int), .int .u8 ((g 7 : Nat) : Int), .int .u8 ((g 8 : Nat) : Int), .int .u8 ((g 9 : Nat) : Int), .int .u8 ((g 10 : Nat) : Int), .int .u8 ((g 11 : Nat) : Int), .int .u8 ((g 12 : Nat) : Int), .int .u8 ((g 13 : Nat) : Int), .int .u8 ((g 14 : Nat) : Int), .int .u8 ((g 15 : Nat) : Int), .int .u8 ((g 16 : Nat) : Int), .int .u8 ((g 17 : Nat) : Int), .int .u8 ((g 18 : Nat) : Int), .int .u8 ((g 19 : Nat) : Int), .int .u8 ((g 20 : Nat) : Int), .int .u8 ((g 21 : Nat) : Int), .int .u8 ((g 22 : Nat) : Int), .int .u8 ((g 23 : Nat) : Int), .int .u8 ((g 24 : Nat) : Int), .int .u8 ((g 25 : Nat) : Int), .int .u8 ((g 26 : Nat) : Int), .int .u8 ((g 27 : Nat) : Int), .int .u8 ((g 28 : Nat) : Int), .int .u8 ((g 29 : Nat) : Int), .int .u8 ((g 30 : Nat) : Int), .int .u8 ((g 31 : Nat) : Int)] 23, .blk p7 [.int .u64 (wd V 0 : Int), .int .u64 (wd V 1 : Int), .int .u64 (wd V 2 : Int), .int .u64 (wd V 3 : Int)] 33, .blk p13 [.int .u64 (wd V 0 : Int), .int .u64 (wd V 1 : Int), .int .u64 (wd V 2 : Int), .int .u64 (wd V 3 : Int)] 33] w32 := H34
    refine GL.semU (j := 2) r33 [2] [(2, pt p7 0)] (by kernel_rfl) rfl rfl rfl ?_
    refine GL.k rfl hK31 (fun _ _ h => h) ?_
    refine G.ret ?_
    intro F_ hF_ hM_
    refine hRet _ _ (bodyPost_1 rfl (RV.cell rfl (H34.ldA (o := 0) (ty := 33) (m := 4) (sub := [.int .u64 (wd V 0 : Int), .int .u64 (wd V 1 : Int), .int .u64 (wd V 2 : Int), .int .u64 (wd V 3 : Int)]) 1 rfl (by kernel_rfl) rfl rfl)) ?_ F_ hF_ hM_)
    rw [show i = 32 by omega] at hV
    rw [← hV]
    exact ⟨rfl, H34.sub (List.nil_sublist _)⟩
  · skip
    have hb29f := of_decide_eq_true hb29
    refine G.yes rfl ?_
    refine G.skipK hK28 (fun _ _ h => h) ?_
    refine G.seqK fun K35 hK36 => ?_
    refine G.block ?_
    refine G.seqK fun K37 hK38 => ?_
    refine G.region ?_
    refine GL.run (j := 1) 1 [2, 3, 6, 7, 9] [(2, pt p7 0), (3, pt p13 0), (6, .agg #[.int .u8 ((g 0 : Nat) : Int), .int .u8 ((g 1 : Nat) : Int), .int .u8 ((g 2 : Nat) : Int), .int .u8 ((g 3 : Nat) : Int), .int .u8 ((g 4 : Nat) : Int), .int .u8 ((g 5 : Nat) : Int), .int .u8 ((g 6 : Nat) : Int), .int .u8 ((g 7 : Nat) : Int), .int .u8 ((g 8 : Nat) : Int), .int .u8 ((g 9 : Nat) : Int), .int .u8 ((g 10 : Nat) : Int), .int .u8 ((g 11 : Nat) : Int), .int .u8 ((g 12 : Nat) : Int), .int .u8 ((g 13 : Nat) : Int), .int .u8 ((g 14 : Nat) : Int), .int .u8 ((g 15 : Nat) : Int), .int .u8 ((g 16 : Nat) : Int), .int .u8 ((g 17 : Nat) : Int), .int .u8 ((g 18 : Nat) : Int), .int .u8 ((g 19 : Nat) : Int), .int .u8 ((g 20 : Nat) : Int), .int .u8 ((g 21 : Nat) : Int), .int .u8 ((g 22 : Nat) : Int), .int .u8 ((g 23 : Nat) : Int), .int .u8 ((g 24 : Nat) : Int), .int .u8 ((g 25 : Nat) : Int), .int .u8 ((g 26 : Nat) : Int), .int .u8 ((g 27 : Nat) : Int), .int .u8 ((g 28 : Nat) : Int), .int .u8 ((g 29 : Nat) : Int), .int .u8 ((g 30 : Nat) : Int), .int .u8 ((g 31 : Nat) : Int)]), (7, .int .i64 (i : Int)), (9, .int .i64 (i : Int))] (by kernel_rfl) rfl ?_
    refine GL.sem (j := 2) (run_idxFn (P := Try.prog) (k := .u8) (k' := .i64) (t := 23) (n := 32) (by kernel_rfl) g (i := i) (by omega) _) [2, 3, 6, 7, 9, 10] [(2, pt p7 0), (3, pt p13 0), (6, .agg #[.int .u8 ((g 0 : Nat) : Int), .int .u8 ((g 1 : Nat) : Int), .int .u8 ((g 2 : Nat) : Int), .int .u8 ((g 3 : Nat) : Int), .int .u8 ((g 4 : Nat) : Int), .int .u8 ((g 5 : Nat) : Int), .int .u8 ((g 6 : Nat) : Int), .int .u8 ((g 7 : Nat) : Int), .int .u8 ((g 8 : Nat) : Int), .int .u8 ((g 9 : Nat) : Int), .int .u8 ((g 10 : Nat) : Int), .int .u8 ((g 11 : Nat) : Int), .int .u8 ((g 12 : Nat) : Int), .int .u8 ((g 13 : Nat) : Int), .int .u8 ((g 14 : Nat) : Int), .int .u8 ((g 15 : Nat) : Int), .int .u8 ((g 16 : Nat) : Int), .int .u8 ((g 17 : Nat) : Int), .int .u8 ((g 18 : Nat) : Int), .int .u8 ((g 19 : Nat) : Int), .int .u8 ((g 20 : Nat) : Int), .int .u8 ((g 21 : Nat) : Int), .int .u8 ((g 22 : Nat) : Int), .int .u8 ((g 23 : Nat) : Int), .int .u8 ((g 24 : Nat) : Int), .int .u8 ((g 25 : Nat) : Int), .int .u8 ((g 26 : Nat) : Int), .int .u8 ((g 27 : Nat) : Int), .int .u8 ((g 28 : Nat) : Int), .int .u8 ((g 29 : Nat) : Int), .int .u8 ((g 30 : Nat) : Int), .int .u8 ((g 31 : Nat) : Int)]), (7, .int .i64 (i : Int)), (9, .int .i64 (i : Int)), (10, .int .u8 ((g i : Nat) : Int))] (by kernel_rfl) (by kernel_rfl) rfl ?_
    refine GL.run (j := 4) 2 [2, 3, 4, 5, 6, 7] [(2, pt p7 0), (3, pt p13 0), (4, .int .i64 (i : Int)), (5, .int .u8 ((g i : Nat) : Int)), (6, .agg #[.int .u8 ((g 0 : Nat) : Int), .int .u8 ((g 1 : Nat) : Int), .int .u8 ((g 2 : Nat) : Int), .int .u8 ((g 3 : Nat) : Int), .int .u8 ((g 4 : Nat) : Int), .int .u8 ((g 5 : Nat) : Int), .int .u8 ((g 6 : Nat) : Int), .int .u8 ((g 7 : Nat) : Int), .int .u8 ((g 8 : Nat) : Int), .int .u8 ((g 9 : Nat) : Int), .int .u8 ((g 10 : Nat) : Int), .int .u8 ((g 11 : Nat) : Int), .int .u8 ((g 12 : Nat) : Int), .int .u8 ((g 13 : Nat) : Int), .int .u8 ((g 14 : Nat) : Int), .int .u8 ((g 15 : Nat) : Int), .int .u8 ((g 16 : Nat) : Int), .int .u8 ((g 17 : Nat) : Int), .int .u8 ((g 18 : Nat) : Int), .int .u8 ((g 19 : Nat) : Int), .int .u8 ((g 20 : Nat) : Int), .int .u8 ((g 21 : Nat) : Int), .int .u8 ((g 22 : Nat) : Int), .int .u8 ((g 23 : Nat) : Int), .int .u8 ((g 24 : Nat) : Int), .int .u8 ((g 25 : Nat) : Int), .int .u8 ((g 26 : Nat) : Int), .int .u8 ((g 27 : Nat) : Int), .int .u8 ((g 28 : Nat) : Int), .int .u8 ((g 29 : Nat) : Int), .int .u8 ((g 30 : Nat) : Int), .int .u8 ((g 31 : Nat) : Int)]), (7, .int .i64 (i : Int))] (by kernel_rfl) rfl ?_
    refine GL.k rfl hK38 (fun _ _ h => h) ?_
    refine G.tail 12 (by kernel_rfl) (by kernel_rfl) ?_
    have H39 := H24.drew
    generalize ({ w22 with drawn := w22.drawn + 1 } : World) = w40 at H39 ⊢
    refine GS.run (j := 2) 2 [2, 3, 4, 5, 6, 7, 12] [(2, pt p7 0), (3, pt p13 0), (4, .int .i64 (i : Int)), (5, .int .u8 ((g i : Nat) : Int)), (6, .agg #[.int .u8 ((g 0 : Nat) : Int), .int .u8 ((g 1 : Nat) : Int), .int .u8 ((g 2 : Nat) : Int), .int .u8 ((g 3 : Nat) : Int), .int .u8 ((g 4 : Nat) : Int), .int .u8 ((g 5 : Nat) : Int), .int .u8 ((g 6 : Nat) : Int), .int .u8 ((g 7 : Nat) : Int), .int .u8 ((g 8 : Nat) : Int), .int .u8 ((g 9 : Nat) : Int), .int .u8 ((g 10 : Nat) : Int), .int .u8 ((g 11 : Nat) : Int), .int .u8 ((g 12 : Nat) : Int), .int .u8 ((g 13 : Nat) : Int), .int .u8 ((g 14 : Nat) : Int), .int .u8 ((g 15 : Nat) : Int), .int .u8 ((g 16 : Nat) : Int), .int .u8 ((g 17 : Nat) : Int), .int .u8 ((g 18 : Nat) : Int), .int .u8 ((g 19 : Nat) : Int), .int .u8 ((g 20 : Nat) : Int), .int .u8 ((g 21 : Nat) : Int), .int .u8 ((g 22 : Nat) : Int), .int .u8 ((g 23 : Nat) : Int), .int .u8 ((g 24 : Nat) : Int), .int .u8 ((g 25 : Nat) : Int), .int .u8 ((g 26 : Nat) : Int), .int .u8 ((g 27 : Nat) : Int), .int .u8 ((g 28 : Nat) : Int), .int .u8 ((g 29 : Nat) : Int), .int .u8 ((g 30 : Nat) : Int), .int .u8 ((g 31 : Nat) : Int)]), (7, .int .i64 (i : Int)), (12, .int .i64 (IntKind.i64.wrap (Int.tdiv (i : Int) 8)))] (by kernel_rfl) rfl rfl ?_
    have e41 : (IntKind.i64.wrap (Int.tdiv (i : Int) 8)) = ((i / 8 : Nat) : Int) := i_quo 8 (by omega)
    refine GS.eq (M' := [(2, pt p7 0), (3, pt p13 0), (4, .int .i64 (i : Int)), (5, .int .u8 ((g i : Nat) : Int)), (6, .agg #[.int .u8 ((g 0 : Nat) : Int), .int .u8 ((g 1 : Nat) : Int), .int .u8 ((g 2 : Nat) : Int), .int .u8 ((g 3 : Nat) : Int), .int .u8 ((g 4 : Nat) : Int), .int .u8 ((g 5 : Nat) : Int), .int .u8 ((g 6 : Nat) : Int), .int .u8 ((g 7 : Nat) : Int), .int .u8 ((g 8 : Nat) : Int), .int .u8 ((g 9 : Nat) : Int), .int .u8 ((g 10 : Nat) : Int), .int .u8 ((g 11 : Nat) : Int), .int .u8 ((g 12 : Nat) : Int), .int .u8 ((g 13 : Nat) : Int), .int .u8 ((g 14 : Nat) : Int), .int .u8 ((g 15 : Nat) : Int), .int .u8 ((g 16 : Nat) : Int), .int .u8 ((g 17 : Nat) : Int), .int .u8 ((g 18 : Nat) : Int), .int .u8 ((g 19 : Nat) : Int), .int .u8 ((g 20 : Nat) : Int), .int .u8 ((g 21 : Nat) : Int), .int .u8 ((g 22 : Nat) : Int), .int .u8 ((g 23 : Nat) : Int), .int .u8 ((g 24 : Nat) : Int), .int .u8 ((g 25 : Nat) : Int), .int .u8 ((g 26 : Nat) : Int), .int .u8 ((g 27 : Nat) : Int), .int .u8 ((g 28 : Nat) : Int), .int .u8 ((g 29 : Nat) : Int), .int .u8 ((g 30 : Nat) : Int), .int .u8 ((g 31 : Nat) : Int)]), (7, .int .i64 (i : Int)), (12, .int .i64 ((i / 8 : Nat) : Int))]) (by rw [e41]) ?_
    clear e41
    refine GS.sem (j := 3) (run_idxArr (P := Try.prog) (k := .i64) (t := 33) (len := 4) (sz := 1) (b := p13) (o := 0) (j := i / 8) (by kernel_rfl) rfl (by omega)) [2, 3, 4, 5, 6, 7, 12, 13] [(2, pt p7 0), (3, pt p13 0), (4, .int .i64 (i : Int)), (5, .int .u8 ((g i : Nat) : Int)), (6, .agg #[.int .u8 ((g 0 : Nat) : Int), .int .u8 ((g 1 : Nat) : Int), .int .u8 ((g 2 : Nat) : Int), .int .u8 ((g 3 : Nat) : Int), .int .u8 ((g 4 : Nat) : Int), .int .u8 ((g 5 : Nat) : Int), .int .u8 ((g 6 : Nat) : Int), .int .u8 ((g 7 : Nat) : Int), .int .u8 ((g 8 : Nat) : Int), .int .u8 ((g 9 : Nat) : Int), .int .u8 ((g 10 : Nat) : Int), .int .u8 ((g 11 : Nat) : Int), .int .u8 ((g 12 : Nat) : Int), .int .u8 ((g 13 : Nat) : Int), .int .u8 ((g 14 : Nat) : Int), .int .u8 ((g 15 : Nat) : Int), .int .u8 ((g 16 : Nat) : Int), .int .u8 ((g 17 : Nat) : Int), .int .u8 ((g 18 : Nat) : Int), .int .u8 ((g 19 : Nat) : Int), .int .u8 ((g 20 : Nat) : Int), .int .u8 ((g 21 : Nat) : Int), .int .u8 ((g 22 : Nat) : Int), .int .u8 ((g 23 : Nat) : Int), .int .u8 ((g 24 : Nat) : Int), .int .u8 ((g 25 : Nat) : Int), .int .u8 ((g 26 : Nat) : Int), .int .u8 ((g 27 : Nat) : Int), .int .u8 ((g 28 : Nat) : Int), .int .u8 ((g 29 : Nat) : Int), .int .u8 ((g 30 : Nat) : Int), .int .u8 ((g 31 : Nat) : Int)]), (7, .int .i64 (i : Int)), (12, .int .i64 ((i / 8 : Nat) : Int)), (13, pt p13 (0 + (i / 8) * 1))] (by kernel_rfl) (by kernel_rfl) rfl rfl ?_
    refine GS.sem (j := 4) (H39.ld (o := (0 + (i / 8) * 1)) (ty := 31) (v := .int .u64 (wd V (i / 8) : Int)) 2 rfl (by kernel_rfl) (wd_cell V (by omega))) [2, 3, 4, 5, 6, 7, 12, 14] [(2, pt p7 0), (3, pt p13 0), (4, .int .i64 (i : Int)), (5, .int .u8 ((g i : Nat) : Int)), (6, .agg #[.int .u8 ((g 0 : Nat) : Int), .int .u8 ((g 1 : Nat) : Int), .int .u8 ((g 2 : Nat) : Int), .int .u8 ((g 3 : Nat) : Int), .int .u8 ((g 4 : Nat) : Int), .int .u8 ((g 5 : Nat) : Int), .int .u8 ((g 6 : Nat) : Int), .int .u8 ((g 7 : Nat) : Int), .int .u8 ((g 8 : Nat) : Int), .int .u8 ((g 9 : Nat) : Int), .int .u8 ((g 10 : Nat) : Int), .int .u8 ((g 11 : Nat) : Int), .int .u8 ((g 12 : Nat) : Int), .int .u8 ((g 13 : Nat) : Int), .int .u8 ((g 14 : Nat) : Int), .int .u8 ((g 15 : Nat) : Int), .int .u8 ((g 16 : Nat) : Int), .int .u8 ((g 17 : Nat) : Int), .int .u8 ((g 18 : Nat) : Int), .int .u8 ((g 19 : Nat) : Int), .int .u8 ((g 20 : Nat) : Int), .int .u8 ((g 21 : Nat) : Int), .int .u8 ((g 22 : Nat) : Int), .int .u8 ((g 23 : Nat) : Int), .int .u8 ((g 24 : Nat) : Int), .int .u8 ((g 25 : Nat) : Int), .int .u8 ((g 26 : Nat) : Int), .int .u8 ((g 27 : Nat) : Int), .int .u8 ((g 28 : Nat) : Int), .int .u8 ((g 29 : Nat) : Int), .int .u8 ((g 30 : Nat) : Int), .int .u8 ((g 31 : Nat) : Int)]), (7, .int .i64 (i : Int)), (12, .int .i64 ((i / 8 : Nat) : Int)), (14, .int .u64 (wd V (i / 8) : Int))] (by kernel_rfl) (by kernel_rfl) rfl rfl ?_
    refine GS.run (j := 9) 5 [2, 3, 6, 7, 12, 14, 16, 19] [(2, pt p7 0), (3, pt p13 0), (6, .agg #[.int .u8 ((g 0 : Nat) : Int), .int .u8 ((g 1 : Nat) : Int), .int .u8 ((g 2 : Nat) : Int), .int .u8 ((g 3 : Nat) : Int), .int .u8 ((g 4 : Nat) : Int), .int .u8 ((g 5 : Nat) : Int), .int .u8 ((g 6 : Nat) : Int), .int .u8 ((g 7 : Nat) : Int), .int .u8 ((g 8 : Nat) : Int), .int .u8 ((g 9 : Nat) : Int), .int .u8 ((g 10 : Nat) : Int), .int .u8 ((g 11 : Nat) : Int), .int .u8 ((g 12 : Nat) : Int), .int .u8 ((g 13 : Nat) : Int), .int .u8 ((g 14 : Nat) : Int), .int .u8 ((g 15 : Nat) : Int), .int .u8 ((g 16 : Nat) : Int), .int .u8 ((g 17 : Nat) : Int), .int .u8 ((g 18 : Nat) : Int), .int .u8 ((g 19 : Nat) : Int), .int .u8 ((g 20 : Nat) : Int), .int .u8 ((g 21 : Nat) : Int), .int .u8 ((g 22 : Nat) : Int), .int .u8 ((g 23 : Nat) : Int), .int .u8 ((g 24 : Nat) : Int), .int .u8 ((g 25 : Nat) : Int), .int .u8 ((g 26 : Nat) : Int), .int .u8 ((g 27 : Nat) : Int), .int .u8 ((g 28 : Nat) : Int), .int .u8 ((g 29 : Nat) : Int), .int .u8 ((g 30 : Nat) : Int), .int .u8 ((g 31 : Nat) : Int)]), (7, .int .i64 (i : Int)), (12, .int .i64 ((i / 8 : Nat) : Int)), (14, .int .u64 (wd V (i / 8) : Int)), (16, .int .u64 (IntKind.u64.wrap ((g i : Nat) : Int))), (19, .int .i64 (IntKind.i64.wrap (8 * (Int.tmod (i : Int) 8))))] (by kernel_rfl) rfl rfl ?_
    have e42 : (IntKind.u64.wrap ((g i : Nat) : Int)) = ((g i : Nat) : Int) := in_u64 (by omega)
    have e43 : (Int.tmod (i : Int) 8) = ((i % 8 : Nat) : Int) := n_rem _ 8
    have e44 : (IntKind.i64.wrap (8 * ((i % 8 : Nat) : Int))) = ((8 * (i % 8) : Nat) : Int) := by rw [in_i64 (by omega)]; omega
    refine GS.eq (M' := [(2, pt p7 0), (3, pt p13 0), (6, .agg #[.int .u8 ((g 0 : Nat) : Int), .int .u8 ((g 1 : Nat) : Int), .int .u8 ((g 2 : Nat) : Int), .int .u8 ((g 3 : Nat) : Int), .int .u8 ((g 4 : Nat) : Int), .int .u8 ((g 5 : Nat) : Int), .int .u8 ((g 6 : Nat) : Int), .int .u8 ((g 7 : Nat) : Int), .int .u8 ((g 8 : Nat) : Int), .int .u8 ((g 9 : Nat) : Int), .int .u8 ((g 10 : Nat) : Int), .int .u8 ((g 11 : Nat) : Int), .int .u8 ((g 12 : Nat) : Int), .int .u8 ((g 13 : Nat) : Int), .int .u8 ((g 14 : Nat) : Int), .int .u8 ((g 15 : Nat) : Int), .int .u8 ((g 16 : Nat) : Int), .int .u8 ((g 17 : Nat) : Int), .int .u8 ((g 18 : Nat) : Int), .int .u8 ((g 19 : Nat) : Int), .int .u8 ((g 20 : Nat) : Int), .int .u8 ((g 21 : Nat) : Int), .int .u8 ((g 22 : Nat) : Int), .int .u8 ((g 23 : Nat) : Int), .int .u8 ((g 24 : Nat) : Int), .int .u8 ((g 25 : Nat) : Int), .int .u8 ((g 26 : Nat) : Int), .int .u8 ((g 27 : Nat) : Int), .int .u8 ((g 28 : Nat) : Int), .int .u8 ((g 29 : Nat) : Int), .int .u8 ((g 30 : Nat) : Int), .int .u8 ((g 31 : Nat) : Int)]), (7, .int .i64 (i : Int)), (12, .int .i64 ((i / 8 : Nat) : Int)), (14, .int .u64 (wd V (i / 8) : Int)), (16, .int .u64 ((g i : Nat) : Int)), (19, .int .i64 ((8 * (i % 8) : Nat) : Int))]) (by rw [e42, e43, e44]) ?_
    clear e42 e43 e44
    have hroom := byte_room hVp (by omega) hgi
    refine GS.sem (j := 10) (run_shlN (P := Try.prog) (k' := .i64) (t := 31) (a := (g i)) (r := (8 * (i % 8))) (by omega) _) [2, 3, 6, 7, 12, 14, 20] [(2, pt p7 0), (3, pt p13 0), (6, .agg #[.int .u8 ((g 0 : Nat) : Int), .int .u8 ((g 1 : Nat) : Int), .int .u8 ((g 2 : Nat) : Int), .int .u8 ((g 3 : Nat) : Int), .int .u8 ((g 4 : Nat) : Int), .int .u8 ((g 5 : Nat) : Int), .int .u8 ((g 6 : Nat) : Int), .int .u8 ((g 7 : Nat) : Int), .int .u8 ((g 8 : Nat) : Int), .int .u8 ((g 9 : Nat) : Int), .int .u8 ((g 10 : Nat) : Int), .int .u8 ((g 11 : Nat) : Int), .int .u8 ((g 12 : Nat) : Int), .int .u8 ((g 13 : Nat) : Int), .int .u8 ((g 14 : Nat) : Int), .int .u8 ((g 15 : Nat) : Int), .int .u8 ((g 16 : Nat) : Int), .int .u8 ((g 17 : Nat) : Int), .int .u8 ((g 18 : Nat) : Int), .int .u8 ((g 19 : Nat) : Int), .int .u8 ((g 20 : Nat) : Int), .int .u8 ((g 21 : Nat) : Int), .int .u8 ((g 22 : Nat) : Int), .int .u8 ((g 23 : Nat) : Int), .int .u8 ((g 24 : Nat) : Int), .int .u8 ((g 25 : Nat) : Int), .int .u8 ((g 26 : Nat) : Int), .int .u8 ((g 27 : Nat) : Int), .int .u8 ((g 28 : Nat) : Int), .int .u8 ((g 29 : Nat) : Int), .int .u8 ((g 30 : Nat) : Int), .int .u8 ((g 31 : Nat) : Int)]), (7, .int .i64 (i : Int)), (12, .int .i64 ((i / 8 : Nat) : Int)), (14, .int .u64 (wd V (i / 8) : Int)), (20, .int .u64 (((g i) * 2 ^ (8 * (i % 8)) % K : Nat) : Int))] (by kernel_rfl) (by kernel_rfl) rfl rfl ?_
    have e45 : ((g i) * 2 ^ (8 * (i % 8)) % K : Nat) = (g i) * 2 ^ (8 * (i % 8)) := Nat.mod_eq_of_lt hroom.2.1
    refine GS.eq (M' := [(2, pt p7 0), (3, pt p13 0), (6, .agg #[.int .u8 ((g 0 : Nat) : Int), .int .u8 ((g 1 : Nat) : Int), .int .u8 ((g 2 : Nat) : Int), .int .u8 ((g 3 : Nat) : Int), .int .u8 ((g 4 : Nat) : Int), .int .u8 ((g 5 : Nat) : Int), .int .u8 ((g 6 : Nat) : Int), .int .u8 ((g 7 : Nat) : Int), .int .u8 ((g 8 : Nat) : Int), .int .u8 ((g 9 : Nat) : Int), .int .u8 ((g 10 : Nat) : Int), .int .u8 ((g 11 : Nat) : Int), .int .u8 ((g 12 : Nat) : Int), .int .u8 ((g 13 : Nat) : Int), .int .u8 ((g 14 : Nat) : Int), .int .u8 ((g 15 : Nat) : Int), .int .u8 ((g 16 : Nat) : Int), .int .u8 ((g 17 : Nat) : Int), .int .u8 ((g 18 : Nat) : Int), .int .u8 ((g 19 : Nat) : Int), .int .u8 ((g 20 : Nat) : Int), .int .u8 ((g 21 : Nat) : Int), .int .u8 ((g 22 : Nat) : Int), .int .u8 ((g 23 : Nat) : Int), .int .u8 ((g 24 : Nat) : Int), .int .u8 ((g 25 : Nat) : Int), .int .u8 ((g 26 : Nat) : Int), .int .u8 ((g 27 : Nat) : Int), .int .u8 ((g 28 : Nat) : Int), .int .u8 ((g 29 : Nat) : Int), .int .u8 ((g 30 : Nat) : Int), .int .u8 ((g 31 : Nat) : Int)]), (7, .int .i64 (i : Int)), (12, .int .i64 ((i / 8 : Nat) : Int)), (14, .int .u64 (wd V (i / 8) : Int)), (20, .int .u64 (((g i) * 2 ^ (8 * (i % 8)) : Nat) : Int))]) (by rw [e45]) ?_
    refine GS.run (j := 11) 1 [2, 3, 6, 7, 12, 21] [(2, pt p7 0), (3, pt p13 0), (6, .agg #[.int .u8 ((g 0 : Nat) : Int), .int .u8 ((g 1 : Nat) : Int), .int .u8 ((g 2 : Nat) : Int), .int .u8 ((g 3 : Nat) : Int), .int .u8 ((g 4 : Nat) : Int), .int .u8 ((g 5 : Nat) : Int), .int .u8 ((g 6 : Nat) : Int), .int .u8 ((g 7 : Nat) : Int), .int .u8 ((g 8 : Nat) : Int), .int .u8 ((g 9 : Nat) : Int), .int .u8 ((g 10 : Nat) : Int), .int .u8 ((g 11 : Nat) : Int), .int .u8 ((g 12 : Nat) : Int), .int .u8 ((g 13 : Nat) : Int), .int .u8 ((g 14 : Nat) : Int), .int .u8 ((g 15 : Nat) : Int), .int .u8 ((g 16 : Nat) : Int), .int .u8 ((g 17 : Nat) : Int), .int .u8 ((g 18 : Nat) : Int), .int .u8 ((g 19 : Nat) : Int), .int .u8 ((g 20 : Nat) : Int), .int .u8 ((g 21 : Nat) : Int), .int .u8 ((g 22 : Nat) : Int), .int .u8 ((g 23 : Nat) : Int), .int .u8 ((g 24 : Nat) : Int), .int .u8 ((g 25 : Nat) : Int), .int .u8 ((g 26 : Nat) : Int), .int .u8 ((g 27 : Nat) : Int), .int .u8 ((g 28 : Nat) : Int), .int .u8 ((g 29 : Nat) : Int), .int .u8 ((g 30 : Nat) : Int), .int .u8 ((g 31 : Nat) : Int)]), (7, .int .i64 (i : Int)), (12, .int .i64 ((i / 8 : Nat) : Int)), (21, .int .u64 (Go.bits .or .u64 (wd V (i / 8) : Int) (((g i) * 2 ^ (8 * (i % 8)) : Nat) : Int)))] (by kernel_rfl) rfl rfl ?_
    have e46 : (Go.bits .or .u64 (wd V (i / 8) : Int) (((g i) * 2 ^ (8 * (i % 8)) : Nat) : Int)) = (((wd V (i / 8)) + ((g i) * 2 ^ (8 * (i % 8))) : Nat) : Int) := or_byte hroom.1 (wd_lt _ _) hroom.2.1
    refine GS.eq (M' := [(2, pt p7 0), (3, pt p13 0), (6, .agg #[.int .u8 ((g 0 : Nat) : Int), .int .u8 ((g 1 : Nat) : Int), .int .u8 ((g 2 : Nat) : Int), .int .u8 ((g 3 : Nat) : Int), .int .u8 ((g 4 : Nat) : Int), .int .u8 ((g 5 : Nat) : Int), .int .u8 ((g 6 : Nat) : Int), .int .u8 ((g 7 : Nat) : Int), .int .u8 ((g 8 : Nat) : Int), .int .u8 ((g 9 : Nat) : Int), .int .u8 ((g 10 : Nat) : Int), .int .u8 ((g 11 : Nat) : Int), .int .u8 ((g 12 : Nat) : Int), .int .u8 ((g 13 : Nat) : Int), .int .u8 ((g 14 : Nat) : Int), .int .u8 ((g 15 : Nat) : Int), .int .u8 ((g 16 : Nat) : Int), .int .u8 ((g 17 : Nat) : Int), .int .u8 ((g 18 : Nat) : Int), .int .u8 ((g 19 : Nat) : Int), .int .u8 ((g 20 : Nat) : Int), .int .u8 ((g 21 : Nat) : Int), .int .u8 ((g 22 : Nat) : Int), .int .u8 ((g 23 : Nat) : Int), .int .u8 ((g 24 : Nat) : Int), .int .u8 ((g 25 : Nat) : Int), .int .u8 ((g 26 : Nat) : Int), .int .u8 ((g 27 : Nat) : Int), .int .u8 ((g 28 : Nat) : Int), .int .u8 ((g 29 : Nat) : Int), .int .u8 ((g 30 : Nat) : Int), .int .u8 ((g 31 : Nat) : Int)]), (7, .int .i64 (i : Int)), (12, .int .i64 ((i / 8 : Nat) : Int)), (21, .int .u64 (((wd V (i / 8)) + ((g i) * 2 ^ (8 * (i % 8))) : Nat) : Int))]) (by rw [e46]) ?_
    clear e46
    refine GS.sem (j := 12) (run_idxArr (P := Try.prog) (k := .i64) (t := 33) (len := 4) (sz := 1) (b := p13) (o := 0) (j := i / 8) (by kernel_rfl) rfl (by omega)) [2, 3, 6, 7, 21, 22] [(2, pt p7 0), (3, pt p13 0), (6, .agg #[.int .u8 ((g 0 : Nat) : Int), .int .u8 ((g 1 : Nat) : Int), .int .u8 ((g 2 : Nat) : Int), .int .u8 ((g 3 : Nat) : Int), .int .u8 ((g 4 : Nat) : Int), .int .u8 ((g 5 : Nat) : Int), .int .u8 ((g 6 : Nat) : Int), .int .u8 ((g 7 : Nat) : Int), .int .u8 ((g 8 : Nat) : Int), .int .u8 ((g 9 : Nat) : Int), .int .u8 ((g 10 : Nat) : Int), .int .u8 ((g 11 : Nat) : Int), .int .u8 ((g 12 : Nat) : Int), .int .u8 ((g 13 : Nat) : Int), .int .u8 ((g 14 : Nat) : Int), .int .u8 ((g 15 : Nat) : Int), .int .u8 ((g 16 : Nat) : Int), .int .u8 ((g 17 : Nat) : Int), .int .u8 ((g 18 : Nat) : Int), .int .u8 ((g 19 : Nat) : Int), .int .u8 ((g 20 : Nat) : Int), .int .u8 ((g 21 : Nat) : Int), .int .u8 ((g 22 : Nat) : Int), .int .u8 ((g 23 : Nat) : Int), .int .u8 ((g 24 : Nat) : Int), .int .u8 ((g 25 : Nat) : Int), .int .u8 ((g 26 : Nat) : Int), .int .u8 ((g 27 : Nat) : Int), .int .u8 ((g 28 : Nat) : Int), .int .u8 ((g 29 : Nat) : Int), .int .u8 ((g 30 : Nat) : Int), .int .u8 ((g 31 : Nat) : Int)]), (7, .int .i64 (i : Int)), (21, .int .u64 (((wd V (i / 8)) + ((g i) * 2 ^ (8 * (i % 8))) : Nat) : Int)), (22, pt p13 (0 + (i / 8) * 1))] (by kernel_rfl) (by kernel_rfl) rfl rfl ?_
    refine GS.tail rfl ?_
    obtain ⟨w47, r48, H49⟩ := H39.st (P := Try.prog) (o := (0 + (i / 8) * 1)) (ty := 31) (v := .int .u64 (((wd V (i / 8)) + ((g i) * 2 ^ (8 * (i % 8))) : Nat) : Int)) 2 rfl (by kernel_rfl) (by show (0 + (i / 8) * 1) < 4; omega) rfl
    rw [setbyte hVp (by omega) hgi] at H49
    have H49 : Hp w [] [.blk p3 [.int .u8 ((g 0 : Nat) : Int), .int .u8 ((g 1 : Nat) : Int), .int .u8 ((g 2 : Nat) : Int), .int .u8 ((g 3 : Nat) : Int), .int .u8 ((g 4 : Nat) : Int), .int .u8 ((g 5 : Nat) : Int), .int .u8 ((g 6 : Nat) : Int), .int .u8 ((g 7 : Nat) : Int), .int .u8 ((g 8 : Nat) : Int), .int .u8 ((g 9 : Nat) : Int), .int .u8 ((g 10 : Nat) : Int), .int .u8 ((g 11 : Nat) : Int), .int .u8 ((g 12 : Nat) : Int), .int .u8 ((g 13 : Nat) : Int), .int .u8 ((g 14 : Nat) : Int), .int .u8 ((g 15 : Nat) : Int), .int .u8 ((g 16 : Nat) : Int), .int .u8 ((g 17 : Nat) : Int), .int .u8 ((g 18 : Nat) : Int), .int .u8 ((g 19 : Nat) : Int), .int .u8 ((g 20 : Nat) : Int), .int .u8 ((g 21 : Nat) : Int), .int .u8 ((g 22 : Nat) : Int), .int .u8 ((g 23 : Nat) : Int), .int .u8 ((g 24 : Nat) : Int), .int .u8 ((g 25 : Nat) : Int), .int .u8 ((g 26 : Nat) : Int), .int .u8 ((g 27 : Nat) : Int), .int .u8 ((g 28 : Nat) : Int), .int .u8 ((g 29 : Nat) : Int), .int .u8 ((g 30 : Nat) : Int), .int .u8 ((g 31 : Nat) : Int)] 23, .blk p7 [.int .u64 0, .int .u64 0, .int .u64 0, .int .u64 0] 33, .blk p13 [.int .u64 (wd (V + 256 ^ i * g i) 0 : Int), .int .u64 (wd (V + 256 ^ i * g i) 1 : Int), .int .u64 (wd (V + 256 ^ i * g i) 2 : Int), .int .u64 (wd (V + 256 ^ i * g i) 3 : Int)] 33] w47 := H49
    refine GL.semU (j := 13) r48 [2, 3, 6, 7] [(2, pt p7 0), (3, pt p13 0), (6, .agg #[.int .u8 ((g 0 : Nat) : Int), .int .u8 ((g 1 : Nat) : Int), .int .u8 ((g 2 : Nat) : Int), .int .u8 ((g 3 : Nat) : Int), .int .u8 ((g 4 : Nat) : Int), .int .u8 ((g 5 : Nat) : Int), .int .u8 ((g 6 : Nat) : Int), .int .u8 ((g 7 : Nat) : Int), .int .u8 ((g 8 : Nat) : Int), .int .u8 ((g 9 : Nat) : Int), .int .u8 ((g 10 : Nat) : Int), .int .u8 ((g 11 : Nat) : Int), .int .u8 ((g 12 : Nat) : Int), .int .u8 ((g 13 : Nat) : Int), .int .u8 ((g 14 : Nat) : Int), .int .u8 ((g 15 : Nat) : Int), .int .u8 ((g 16 : Nat) : Int), .int .u8 ((g 17 : Nat) : Int), .int .u8 ((g 18 : Nat) : Int), .int .u8 ((g 19 : Nat) : Int), .int .u8 ((g 20 : Nat) : Int), .int .u8 ((g 21 : Nat) : Int), .int .u8 ((g 22 : Nat) : Int), .int .u8 ((g 23 : Nat) : Int), .int .u8 ((g 24 : Nat) : Int), .int .u8 ((g 25 : Nat) : Int), .int .u8 ((g 26 : Nat) : Int), .int .u8 ((g 27 : Nat) : Int), .int .u8 ((g 28 : Nat) : Int), .int .u8 ((g 29 : Nat) : Int), .int .u8 ((g 30 : Nat) : Int), .int .u8 ((g 31 : Nat) : Int)]), (7, .int .i64 (i : Int))] (by kernel_rfl) rfl rfl rfl ?_
    refine GL.k rfl hK36 (fun _ _ h => h) ?_
    refine G.region ?_
    refine GL.run (j := 2) 2 [2, 3, 6, 7] [(2, pt p7 0), (3, pt p13 0), (6, .agg #[.int .u8 ((g 0 : Nat) : Int), .int .u8 ((g 1 : Nat) : Int), .int .u8 ((g 2 : Nat) : Int), .int .u8 ((g 3 : Nat) : Int), .int .u8 ((g 4 : Nat) : Int), .int .u8 ((g 5 : Nat) : Int), .int .u8 ((g 6 : Nat) : Int), .int .u8 ((g 7 : Nat) : Int), .int .u8 ((g 8 : Nat) : Int), .int .u8 ((g 9 : Nat) : Int), .int .u8 ((g 10 : Nat) : Int), .int .u8 ((g 11 : Nat) : Int), .int .u8 ((g 12 : Nat) : Int), .int .u8 ((g 13 : Nat) : Int), .int .u8 ((g 14 : Nat) : Int), .int .u8 ((g 15 : Nat) : Int), .int .u8 ((g 16 : Nat) : Int), .int .u8 ((g 17 : Nat) : Int), .int .u8 ((g 18 : Nat) : Int), .int .u8 ((g 19 : Nat) : Int), .int .u8 ((g 20 : Nat) : Int), .int .u8 ((g 21 : Nat) : Int), .int .u8 ((g 22 : Nat) : Int), .int .u8 ((g 23 : Nat) : Int), .int .u8 ((g 24 : Nat) : Int), .int .u8 ((g 25 : Nat) : Int), .int .u8 ((g 26 : Nat) : Int), .int .u8 ((g 27 : Nat) : Int), .int .u8 ((g 28 : Nat) : Int), .int .u8 ((g 29 : Nat) : Int), .int .u8 ((g 30 : Nat) : Int), .int .u8 ((g 31 : Nat) : Int)]), (7, .int .i64 (IntKind.i64.wrap ((i : Int) + 1)))] (by kernel_rfl) rfl ?_
    have e50 : (IntKind.i64.wrap ((i : Int) + 1)) = ((i + 1 : Nat) : Int) := by rw [in_i64 (by omega)]; omega
    refine GL.eq (M' := [(2, pt p7 0), (3, pt p13 0), (6, .agg #[.int .u8 ((g 0 : Nat) : Int), .int .u8 ((g 1 : Nat) : Int), .int .u8 ((g 2 : Nat) : Int), .int .u8 ((g 3 : Nat) : Int), .int .u8 ((g 4 : Nat) : Int), .int .u8 ((g 5 : Nat) : Int), .int .u8 ((g 6 : Nat) : Int), .int .u8 ((g 7 : Nat) : Int), .int .u8 ((g 8 : Nat) : Int), .int .u8 ((g 9 : Nat) : Int), .int .u8 ((g 10 : Nat) : Int), .int .u8 ((g 11 : Nat) : Int), .int .u8 ((g 12 : Nat) : Int), .int .u8 ((g 13 : Nat) : Int), .int .u8 ((g 14 : Nat) : Int), .int .u8 ((g 15 : Nat) : Int), .int .u8 ((g 16 : Nat) : Int), .int .u8 ((g 17 : Nat) : Int), .int .u8 ((g 18 : Nat) : Int), .int .u8 ((g 19 : Nat) : Int), .int .u8 ((g 20 : Nat) : Int), .int .u8 ((g 21 : Nat) : Int), .int .u8 ((g 22 : Nat) : Int), .int .u8 ((g 23 : Nat) : Int), .int .u8 ((g 24 : Nat) : Int), .int .u8 ((g 25 : Nat) : Int), .int .u8 ((g 26 : Nat) : Int), .int .u8 ((g 27 : Nat) : Int), .int .u8 ((g 28 : Nat) : Int), .int .u8 ((g 29 : Nat) : Int), .int .u8 ((g 30 : Nat) : Int), .int .u8 ((g 31 : Nat) : Int)]), (7, .int .i64 ((i + 1 : Nat) : Int))]) (by rw [e50]) ?_
    clear e50
    refine GL.fit (ts := [2, 3, 6, 7]) (M' := [(2, pt p7 0), (3, pt p13 0), (6, .agg #[.int .u8 ((g 0 : Nat) : Int), .int .u8 ((g 1 : Nat) : Int), .int .u8 ((g 2 : Nat) : Int), .int .u8 ((g 3 : Nat) : Int), .int .u8 ((g 4 : Nat) : Int), .int .u8 ((g 5 : Nat) : Int), .int .u8 ((g 6 : Nat) : Int), .int .u8 ((g 7 : Nat) : Int), .int .u8 ((g 8 : Nat) : Int), .int .u8 ((g 9 : Nat) : Int), .int .u8 ((g 10 : Nat) : Int), .int .u8 ((g 11 : Nat) : Int), .int .u8 ((g 12 : Nat) : Int), .int .u8 ((g 13 : Nat) : Int), .int .u8 ((g 14 : Nat) : Int), .int .u8 ((g 15 : Nat) : Int), .int .u8 ((g 16 : Nat) : Int), .int .u8 ((g 17 : Nat) : Int), .int .u8 ((g 18 : Nat) : Int), .int .u8 ((g 19 : Nat) : Int), .int .u8 ((g 20 : Nat) : Int), .int .u8 ((g 21 : Nat) : Int), .int .u8 ((g 22 : Nat) : Int), .int .u8 ((g 23 : Nat) : Int), .int .u8 ((g 24 : Nat) : Int), .int .u8 ((g 25 : Nat) : Int), .int .u8 ((g 26 : Nat) : Int), .int .u8 ((g 27 : Nat) : Int), .int .u8 ((g 28 : Nat) : Int), .int .u8 ((g 29 : Nat) : Int), .int .u8 ((g 30 : Nat) : Int), .int .u8 ((g 31 : Nat) : Int)]), (7, .int .i64 ((i + 1 : Nat) : Int))]) (by kernel_rfl) ?_
    refine GL.eq (M' := [(2, pt p7 0), (3, pt p13 0), (6, .agg #[.int .u8 ((g 0 : Nat) : Int), .int .u8 ((g 1 : Nat) : Int), .int .u8 ((g 2 : Nat) : Int), .int .u8 ((g 3 : Nat) : Int), .int .u8 ((g 4 : Nat) : Int), .int .u8 ((g 5 : Nat) : Int), .int .u8 ((g 6 : Nat) : Int), .int .u8 ((g 7 : Nat) : Int), .int .u8 ((g 8 : Nat) : Int), .int .u8 ((g 9 : Nat) : Int), .int .u8 ((g 10 : Nat) : Int), .int .u8 ((g 11 : Nat) : Int), .int .u8 ((g 12 : Nat) : Int), .int .u8 ((g 13 : Nat) : Int), .int .u8 ((g 14 : Nat) : Int), .int .u8 ((g 15 : Nat) : Int), .int .u8 ((g 16 : Nat) : Int), .int .u8 ((g 17 : Nat) : Int), .int .u8 ((g 18 : Nat) : Int), .int .u8 ((g 19 : Nat) : Int), .int .u8 ((g 20 : Nat) : Int), .int .u8 ((g 21 : Nat) : Int), .int .u8 ((g 22 : Nat) : Int), .int .u8 ((g 23 : Nat) : Int), .int .u8 ((g 24 : Nat) : Int), .int .u8 ((g 25 : Nat) : Int), .int .u8 ((g 26 : Nat) : Int), .int .u8 ((g 27 : Nat) : Int), .int .u8 ((g 28 : Nat) : Int), .int .u8 ((g 29 : Nat) : Int), .int .u8 ((g 30 : Nat) : Int), .int .u8 ((g 31 : Nat) : Int)]), (7, .int .i64 (((i + 1) : Nat) : Int))]) (by rfl) ?_
    exact GL.again ⟨(i + 1), (V + 256 ^ i * g i)⟩ [2, 3, 6, 7] rfl (by kernel_rfl) (by show 32 - (i + 1) < 32 - i; omega) ⟨⟨by omega, by rw [hV]; rfl⟩, H49⟩
end Go.Proofs.Ytdepaaphgfapjaa
