/- Hashes as texts. -/
import Derived.Test.YtdepaaphgfapjaaShaD
import Derived.Test.YtdepaaphgfapjaaSt
namespace Go.Proofs.Ytdepaaphgfapjaa
open Go.RowKit
theorem acc_lt {V : List UInt8} {k : Nat} (h : k ≤ 7) : getB (V.drop (V.length - k)) < 72057594037927936 := by
  have h1 := getB_lt (V.drop (V.length - k))
  have h2 : (V.drop (V.length - k)).length ≤ k := by rw [List.length_drop]; omega
  have h3 : 256 ^ (V.drop (V.length - k)).length ≤ 256 ^ 7 := Nat.pow_le_pow_right (by decide) (by omega)
  exact Nat.lt_of_lt_of_le h1 h3
theorem acc_step {V : List UInt8} {k : Nat} (h : k < V.length) : (V.getD (V.length - 1 - k) 0).toNat + 256 * getB (V.drop (V.length - k)) = getB (V.drop (V.length - (k + 1))) := by
  have h1 := getB_drop (getD8 (bs := V) (k := V.length - 1 - k) (by omega))
  rw [show V.length - (k + 1) = V.length - 1 - k by omega, h1, show V.length - 1 - k + 1 = V.length - k by omega]
theorem Backward_calls (A : Option Addr) (n c : Nat) (w : World) : Calls Try.prog 44 #[.slice A n c] w fun e w' => ∃ B, e = .returned (.func (.func 63) #[] #[.pointer (some ⟨B, 0, none⟩)]) ∧ Hp w [] [.blk B [.slice A n c] 28] w' := by
  refine calls_G (args := [.slice A n c]) Try.func44 rfl Try.ntmps44 rfl ?_
  intro Q0 hRet hNor hPan
  have H := Hp.start w
  have H : Hp w [] [] w := H
  refine G.seqK fun K1 hK2 => ?_
  refine G.region ?_
  obtain ⟨p3, w4, r5, H6⟩ := H.box (P := Try.prog) 28 [.slice A n c] (.slice A n c) rfl
  have H6 : Hp w [] [.blk p3 [.slice A n c] 28] w4 := H6
  refine GL.sem (j := 1) (r5) [1] [(1, pt p3 0)] (by kernel_rfl) (by kernel_rfl) rfl ?_
  refine GL.run (j := 2) 1 [1] [(1, pt p3 0)] (by kernel_rfl) rfl ?_
  refine GL.k rfl hK2 (fun _ _ h => h) ?_
  refine G.seqK fun K7 hK8 => ?_
  refine G.region ?_
  refine GL.run (j := 2) 2 [2] [(2, .func (.func 63) #[] #[pt p3 0])] (by kernel_rfl) rfl ?_
  refine GL.k rfl hK8 (fun _ _ h => h) ?_
  refine G.ret ?_
  intro F_ hF_ hM_
  refine hRet _ _ (bodyPost_1 rfl (RV.tmp rfl) ?_ F_ hF_ hM_)
  exact ⟨_, rfl, H6⟩
theorem Backward_iter (bs : List UInt8) (hlen : bs.length ≤ 1099511627776) (A : Option Addr) (c B : Nat) : Iter Try.prog 63 #[pt B 0] bs.length (fun k => #[.int .i64 ((bs.length - 1 - k : Nat) : Int), .int .u8 ((bs.getD (bs.length - 1 - k) 0).toNat : Int)]) (fun W => W.cell? ⟨B, 0, none⟩ = some (.slice A bs.length c) ∧ RdS W A (by8 bs)) := by
  intro l J Jx hRd hst hy w h0
  rw [show (#[Value.func (.yield l) #[] #[]] ++ #[pt B 0] : Array Value) = #[.func (.yield l) #[] #[], pt B 0] by simp]
  refine calls_R (args := [.func (.yield l) #[] #[], pt B 0]) Try.func63 rfl Try.ntmps63 rfl ?_
  intro Q0 hRet hNor
  have H := Hp.start w
  have H : Hp w [] [] w := H
  refine RG.seqK fun K1 hK2 => ?_
  refine RG.region (by kernel_rfl) ?_
  refine RL.sem (j := 1) (run_ld1 (P := Try.prog) (ty := 28) (a := ⟨B, 0, none⟩) (v := .slice A bs.length c) (by kernel_rfl) ((hRd _ _ h0).1)) [0, 1, 4] [(0, .func (.yield l) #[] #[]), (1, pt B 0), (4, .slice A bs.length c)] (by kernel_rfl) (by kernel_rfl) rfl ?_
  refine RL.run (j := 4) 3 [0, 1, 3] [(0, .func (.yield l) #[] #[]), (1, pt B 0), (3, .int .i64 (IntKind.i64.wrap ((bs.length : Int) - 1)))] (by kernel_rfl) rfl ?_
  have e3 : (IntKind.i64.wrap ((bs.length : Int) - 1)) = (((bs.length - 0 : Nat) : Int) - 1) := by rw [Nat.sub_zero, in_i64 (by omega)]
  refine RL.eq (M' := [(0, .func (.yield l) #[] #[]), (1, pt B 0), (3, .int .i64 (((bs.length - 0 : Nat) : Int) - 1))]) (by rw [e3]) ?_
  clear e3
  refine RL.k rfl hK2 (fun _ _ h => h) ?_
  refine RG.block ?_
  refine RG.fit [0, 1, 3] (M' := [(0, .func (.yield l) #[] #[]), (1, pt B 0), (3, .int .i64 (((bs.length - 0 : Nat) : Int) - 1))]) (by kernel_rfl) ?_
  refine RG.loop (X := Nat) (fun k => [(0, .func (.yield l) #[] #[]), (1, pt B 0), (3, .int .i64 (((bs.length - k : Nat) : Int) - 1))]) (fun k w_ => k ≤ bs.length ∧ J k w_) (fun k => bs.length - k) 0 [0, 1, 3] (by kernel_rfl) ⟨Nat.zero_le _, h0⟩ ?_
  rintro k wk ⟨hkN, hJk⟩
  have H4 := Hp.start wk
  refine RG.eq (M' := [(0, .func (.yield l) #[] #[]), (1, pt B 0), (3, .int .i64 (((bs.length - k : Nat) : Int) - 1))]) rfl ?_
  refine RG.seqK fun K5 hK6 => ?_
  refine RG.seqK fun K7 hK8 => ?_
  refine RG.region (by kernel_rfl) ?_
  refine RL.run (j := 2) 2 [0, 1, 3, 8] [(0, .func (.yield l) #[] #[]), (1, pt B 0), (3, .int .i64 (((bs.length - k : Nat) : Int) - 1)), (8, .bool (decide (0 ≤ (((bs.length - k : Nat) : Int) - 1))))] (by kernel_rfl) rfl ?_
  refine RL.k rfl hK8 (fun _ _ h => h) ?_
  cases hb9 : (decide (0 ≤ (((bs.length - k : Nat) : Int) - 1)))
  · skip
    have hb9f := of_decide_eq_false hb9
    refine RG.no rfl ?_
    -- exit to the end
    refine fun F_ hF_ hM_ => wpIn_exit ?_
    refine hNor _ _ (postM_0 rfl  ?_ F_ hF_ hM_)
    exact ⟨⟨_, rfl⟩, .inl (by first | exact hJk | (have hkk : k = bs.length := by omega); rw [← hkk]; exact hJk)⟩
  · skip
    have hb9f := of_decide_eq_true hb9
    have ei : (((bs.length - k : Nat) : Int) - 1) = ((bs.length - 1 - k : Nat) : Int) := by omega
    refine RG.eq (M' := [(0, .func (.yield l) #[] #[]), (1, pt B 0), (3, .int .i64 ((bs.length - 1 - k : Nat) : Int)), (8, .bool true)]) (by rw [ei]) ?_
    refine RG.yes rfl ?_
    refine RG.skipK hK6 (fun _ _ h => h) ?_
    refine RG.seqK fun K10 hK11 => ?_
    refine RG.block ?_
    refine RG.seqK fun K12 hK13 => ?_
    refine RG.region (by kernel_rfl) ?_
    refine RL.run (j := 2) 2 [0, 1, 3, 11, 12] [(0, .func (.yield l) #[] #[]), (1, pt B 0), (3, .int .i64 ((bs.length - 1 - k : Nat) : Int)), (11, .func (.yield l) #[] #[]), (12, .int .i64 ((bs.length - 1 - k : Nat) : Int))] (by kernel_rfl) rfl ?_
    refine RL.sem (j := 3) (run_ld1 (P := Try.prog) (ty := 28) (a := ⟨B, 0, none⟩) (v := .slice A bs.length c) (by kernel_rfl) ((hRd _ _ hJk).1)) [0, 1, 3, 11, 12, 13] [(0, .func (.yield l) #[] #[]), (1, pt B 0), (3, .int .i64 ((bs.length - 1 - k : Nat) : Int)), (11, .func (.yield l) #[] #[]), (12, .int .i64 ((bs.length - 1 - k : Nat) : Int)), (13, .slice A bs.length c)] (by kernel_rfl) (by kernel_rfl) rfl ?_
    refine RL.run (j := 4) 1 [0, 1, 3, 11, 12, 13, 14] [(0, .func (.yield l) #[] #[]), (1, pt B 0), (3, .int .i64 ((bs.length - 1 - k : Nat) : Int)), (11, .func (.yield l) #[] #[]), (12, .int .i64 ((bs.length - 1 - k : Nat) : Int)), (13, .slice A bs.length c), (14, .int .i64 ((bs.length - 1 - k : Nat) : Int))] (by kernel_rfl) rfl ?_
    refine RL.sem (j := 5) (run_idxRd (P := Try.prog) (k := .i64) (t := 28) (A := A) (len := bs.length) (cap := c) (j := bs.length - 1 - k) (by kernel_rfl) rfl ((hRd _ _ hJk).2) (by rw [by8_length]) (by first | rfl | omega | (simp only [List.length_cons, List.length_nil, List.length_drop, List.length_take, List.length_append] <;> omega))) [0, 1, 3, 11, 12, 15] [(0, .func (.yield l) #[] #[]), (1, pt B 0), (3, .int .i64 ((bs.length - 1 - k : Nat) : Int)), (11, .func (.yield l) #[] #[]), (12, .int .i64 ((bs.length - 1 - k : Nat) : Int)), (15, .pointer (Option.map (fun x => Addr.add x (bs.length - 1 - k)) A))] (by kernel_rfl) (by kernel_rfl) rfl ?_
    refine RL.sem (j := 6) (run_ldRd (P := Try.prog) (ty := 5) (A := A) (j := bs.length - 1 - k) (v := .int .u8 ((bs.getD (bs.length - 1 - k) 0).toNat : Int)) (by kernel_rfl) ((hRd _ _ hJk).2) (by8_at (getD8 (by omega)))) [0, 1, 3, 11, 12, 16] [(0, .func (.yield l) #[] #[]), (1, pt B 0), (3, .int .i64 ((bs.length - 1 - k : Nat) : Int)), (11, .func (.yield l) #[] #[]), (12, .int .i64 ((bs.length - 1 - k : Nat) : Int)), (16, .int .u8 ((bs.getD (bs.length - 1 - k) 0).toNat : Int))] (by kernel_rfl) (by kernel_rfl) rfl ?_
    refine RL.yield (j := 7) (hy k _ (by omega) hJk) (by kernel_rfl) rfl (fun e_ w14 hR18 => ?_)
    obtain ⟨b15, rfl, hyt16, hyf17⟩ := yield_cases hR18
    have H19 := Hp.start w14
    refine ⟨_, rfl, [0, 1, 3, 17], [(0, .func (.yield l) #[] #[]), (1, pt B 0), (3, .int .i64 ((bs.length - 1 - k : Nat) : Int)), (17, .bool b15)], by kernel_rfl, ?_⟩
    refine RL.run (j := 8) 1 [0, 1, 3, 18] [(0, .func (.yield l) #[] #[]), (1, pt B 0), (3, .int .i64 ((bs.length - 1 - k : Nat) : Int)), (18, .bool (!b15))] (by kernel_rfl) rfl ?_
    refine RL.k rfl hK13 (fun _ _ h => h) ?_
    rcases (Bool.eq_false_or_eq_true b15).symm with hb20 | hb20
    · skip
      refine RG.eq (M' := [(0, .func (.yield l) #[] #[]), (1, pt B 0), (3, .int .i64 ((bs.length - 1 - k : Nat) : Int)), (18, .bool true)]) (by first | (rw [hb20]; done) | (rw [hb20]; rfl)) ?_
      have hJ21 := hyf17 hb20
      refine RG.yes rfl ?_
      refine RG.ret ?_
      intro F_ hF_ hM_
      refine hRet _ _ (postM_0 rfl  ?_ F_ hF_ hM_)
      exact ⟨⟨_, rfl⟩, .inr hJ21⟩
    · skip
      refine RG.eq (M' := [(0, .func (.yield l) #[] #[]), (1, pt B 0), (3, .int .i64 ((bs.length - 1 - k : Nat) : Int)), (18, .bool false)]) (by first | (rw [hb20]; done) | (rw [hb20]; rfl)) ?_
      have hJ22 := hyt16 hb20
      refine RG.no rfl ?_
      refine RG.skipK hK11 (fun _ _ h => h) ?_
      refine RG.region (by kernel_rfl) ?_
      refine RL.run (j := 3) 3 [0, 1, 3] [(0, .func (.yield l) #[] #[]), (1, pt B 0), (3, .int .i64 (IntKind.i64.wrap (((bs.length - 1 - k : Nat) : Int) - 1)))] (by kernel_rfl) rfl ?_
      have e23 : (IntKind.i64.wrap (((bs.length - 1 - k : Nat) : Int) - 1)) = (((bs.length - (k + 1) : Nat) : Int) - 1) := by rw [in_i64 (by omega)]; omega
      refine RL.eq (M' := [(0, .func (.yield l) #[] #[]), (1, pt B 0), (3, .int .i64 (((bs.length - (k + 1) : Nat) : Int) - 1))]) (by rw [e23]) ?_
      clear e23
      exact RL.again (k + 1) [0, 1, 3] rfl (by kernel_rfl) (by show bs.length - (k + 1) < bs.length - k; omega) ⟨by omega, hJ22⟩
theorem run_indexByte (c : UInt8) (w : World) : (callFunc 75 #[.string (strOf signs), .int .u8 (c.toNat : Int)]).run Try.prog w = .ok (.value (.int .i64 (hexZ c))) w := by
  rw [run_callFunc_extern Try.func75 (by kernel_rfl) (by kernel_rfl) (by kernel_rfl) (e := Extern.BytealgIndexByte.indexByte) (by kernel_rfl)]
  have hc : (c.toNat : Int).toNat.toUInt8 = c := by simp
  change Result.andThen ((do
      let b ← Extern.Bytes.bytesOf (.string (strOf signs))
      let c ← Extern.Bytes.asByte (.int .u8 (c.toNat : Int))
      match (List.range b.size).find? fun i => b[i]! == c with
      | some i => pure (goInt i)
      | none => pure (goInt (-1)) : Sem Value).run Try.prog w) _ = _
  simp only [Extern.Bytes.bytesOf, Extern.Bytes.asByte, Sem.run_bind, Sem.run_pure, Result.andThen_ok, hc, hex_find, hexZ]
  cases hexOK c <;> simp [goInt, Result.andThen]
theorem Index0_calls (c : UInt8) (w : World) : Calls Try.prog 71 #[.string (strOf signs), .int .u8 (c.toNat : Int)] w fun e w' => e = .returned (.int .i64 (hexZ c)) ∧ Hp w [] [] w' := by
  refine calls_G (args := [.string (strOf signs), .int .u8 (c.toNat : Int)]) Try.func71 rfl Try.ntmps71 rfl ?_
  intro Q0 hRet hNor hPan
  have H := Hp.start w
  have H : Hp w [] [] w := H
  refine G.seqK fun K1 hK2 => ?_
  refine G.region ?_
  refine GL.run (j := 1) 1 [0, 1] [(0, .string (strOf signs)), (1, .int .u8 (c.toNat : Int))] (by kernel_rfl) rfl ?_
  refine GL.k rfl hK2 (fun _ _ h => h) ?_
  refine G.seqK fun K3 hK4 => ?_
  refine G.region ?_
  refine GL.run (j := 2) 2 [5, 6] [(5, .string (strOf signs)), (6, .int .u8 (c.toNat : Int))] (by kernel_rfl) rfl ?_
  refine GL.semN (j := 3) (run_indexByte c _) [7] [(7, .int .i64 (hexZ c))] (by kernel_rfl) (by kernel_rfl) rfl ?_
  refine GL.run (j := 4) 1 [4] [(4, .int .i64 (hexZ c))] (by kernel_rfl) rfl ?_
  refine GL.k rfl hK4 (fun _ _ h => h) ?_
  refine G.ret ?_
  intro F_ hF_ hM_
  refine hRet _ _ (bodyPost_1 rfl (RV.tmp rfl) ?_ F_ hF_ hM_)
  exact ⟨rfl, H⟩
theorem Index1_calls (c : UInt8) (w : World) : Calls Try.prog 61 #[.string (strOf signs), .int .u8 (c.toNat : Int)] w fun e w' => e = .returned (.int .i64 (hexZ c)) ∧ Hp w [] [] w' := by
  refine calls_G (args := [.string (strOf signs), .int .u8 (c.toNat : Int)]) Try.func61 rfl Try.ntmps61 rfl ?_
  intro Q0 hRet hNor hPan
  have H := Hp.start w
  have H : Hp w [] [] w := H
  refine G.seqK fun K1 hK2 => ?_
  refine G.region ?_
  refine GL.run (j := 1) 1 [0, 1] [(0, .string (strOf signs)), (1, .int .u8 (c.toNat : Int))] (by kernel_rfl) rfl ?_
  refine GL.k rfl hK2 (fun _ _ h => h) ?_
  refine G.seqK fun K3 hK4 => ?_
  refine G.region ?_
  refine GL.run (j := 2) 2 [5, 6] [(5, .string (strOf signs)), (6, .int .u8 (c.toNat : Int))] (by kernel_rfl) rfl ?_
  refine GL.call (j := 3) (Index0_calls c w) (by kernel_rfl) rfl (fun e_ w5 hR => ?_)
  obtain ⟨rfl, H7⟩ := hR
  have H6 : Hp w [] [] w5 := H.callNil H7
  refine ⟨_, rfl, [7], [(7, .int .i64 (hexZ c))], by kernel_rfl, ?_⟩
  refine GL.run (j := 4) 1 [4] [(4, .int .i64 (hexZ c))] (by kernel_rfl) rfl ?_
  refine GL.k rfl hK4 (fun _ _ h => h) ?_
  refine G.ret ?_
  intro F_ hF_ hM_
  refine hRet _ _ (bodyPost_1 rfl (RV.tmp rfl) ?_ F_ hF_ hM_)
  exact ⟨rfl, H6⟩
theorem Reverse_calls (S : List Nat) (q : Nat) (X : List UInt8) (hX : X.length = 32) (w : World) (h0 : Hp w S [.blk q (by8 X) 24] w) : Calls Try.prog 62 #[.slice (some ⟨q, 0, none⟩) 32 32] w fun e w' => e = .returned (.tuple #[]) ∧ Hp w S [.blk q (by8 X.reverse) 24] w' := by
  refine calls_G (args := [.slice (some ⟨q, 0, none⟩) 32 32]) Try.func62 rfl Try.ntmps62 rfl ?_
  intro Q0 hRet hNor hPan
  have H := h0
  have H : Hp w S [.blk q (by8 X) 24] w := H
  refine G.seqK fun K1 hK2 => ?_
  refine G.region ?_
  refine GL.run (j := 5) 5 [0, 2, 3] [(0, .slice (some ⟨q, 0, none⟩) 32 32), (2, .int .i64 0), (3, .int .i64 31)] (by kernel_rfl) rfl ?_
  refine GL.k rfl hK2 (fun _ _ h => h) ?_
  refine G.block ?_
  have H3 : Hp w S [.blk q (by8 (swP X 0)) 24] w := by rw [swP_zero hX]; exact H
  refine G.fit [0, 2, 3] (M' := [(0, .slice (some ⟨q, 0, none⟩) 32 32), (2, .int .i64 0), (3, .int .i64 31)]) (by kernel_rfl) ?_
  refine G.eq (M' := [(0, .slice (some ⟨q, 0, none⟩) 32 32), (2, .int .i64 0), (3, .int .i64 (((31 - 0) : Nat) : Int))]) (by rfl) ?_
  refine G.loop (X := Nat) (fun k => [(0, .slice (some ⟨q, 0, none⟩) 32 32), (2, .int .i64 (k : Int)), (3, .int .i64 (((31 - k) : Nat) : Int))]) (fun k w_ => (k ≤ 16) ∧ Hp w S [.blk q (by8 (swP X k)) 24] w_) (fun k => 16 - k) 0 [0, 2, 3] (by kernel_rfl) ⟨by omega, H3⟩ ?_
  rintro k w4 ⟨hi5, H6⟩
  refine G.eq (M' := [(0, .slice (some ⟨q, 0, none⟩) 32 32), (2, .int .i64 (k : Int)), (3, .int .i64 (((31 - k) : Nat) : Int))]) rfl ?_
  have H6 : Hp w S [.blk q (by8 (swP X k)) 24] w4 := H6
  have hk16 := hi5
  refine G.seqK fun K7 hK8 => ?_
  refine G.seqK fun K9 hK10 => ?_
  refine G.region ?_
  refine GL.run (j := 3) 3 [0, 2, 3, 9] [(0, .slice (some ⟨q, 0, none⟩) 32 32), (2, .int .i64 (k : Int)), (3, .int .i64 (((31 - k) : Nat) : Int)), (9, .bool (decide ((k : Int) < (((31 - k) : Nat) : Int))))] (by kernel_rfl) rfl ?_
  refine GL.k rfl hK10 (fun _ _ h => h) ?_
  cases hb11 : (decide ((k : Int) < (((31 - k) : Nat) : Int)))
  · skip
    have hb11f := of_decide_eq_false hb11
    refine G.no rfl ?_
    -- exit to the end
    refine fun F_ hF_ hM_ => wp_exit ?_
    refine hNor _ _ (bodyPost_0 rfl  ?_ F_ hF_ hM_)
    have HF := H6
    rw [show k = 16 by omega, swP_all hX] at HF
    exact ⟨rfl, HF⟩
  · skip
    have hb11f := of_decide_eq_true hb11
    refine G.yes rfl ?_
    refine G.skipK hK8 (fun _ _ h => h) ?_
    refine G.seqK fun K12 hK13 => ?_
    refine G.block ?_
    refine G.heldP (Hp w S []) (by kernel_rfl) (by kernel_rfl) (fun c_ a_ d_ v_ w_ h_ => hPan c_ a_ d_ v_ w_ h_) ?_
    have H14 := H6.drew
    generalize ({ w4 with drawn := w4.drawn + 1 } : World) = w15 at H14 ⊢
    have hS16 : Hp w S [] w15 := H14.sub (List.Sublist.cons _ (List.Sublist.slnil))
    refine GP.run [0, 1, 2, 3, 4, 5] [0, 2, 3, 14, 15, 16, 17, 18, 19] [(0, .slice (some ⟨q, 0, none⟩) 32 32), (2, .int .i64 (k : Int)), (3, .int .i64 (((31 - k) : Nat) : Int)), (14, .slice (some ⟨q, 0, none⟩) 32 32), (15, .int .i64 (k : Int)), (16, .slice (some ⟨q, 0, none⟩) 32 32), (17, .int .i64 (((31 - k) : Nat) : Int)), (18, .slice (some ⟨q, 0, none⟩) 32 32), (19, .int .i64 (((31 - k) : Nat) : Int))] [0, 1, 2, 3, 4, 5] (by kernel_rfl) rfl hS16 ?_
    refine GP.sem 6 (fun w_ H_ => run_idxBlk (P := Try.prog) (k := .i64) (t := 28) (sz := 1) (b := q) (o := 0) (len := 32) (cap := 32) (j := (31 - k)) (by kernel_rfl) (by omega) _) [0, 2, 3, 14, 15, 16, 17, 20] [(0, .slice (some ⟨q, 0, none⟩) 32 32), (2, .int .i64 (k : Int)), (3, .int .i64 (((31 - k) : Nat) : Int)), (14, .slice (some ⟨q, 0, none⟩) 32 32), (15, .int .i64 (k : Int)), (16, .slice (some ⟨q, 0, none⟩) 32 32), (17, .int .i64 (((31 - k) : Nat) : Int)), (20, pt q (0 + (31 - k) * 1))] (by kernel_rfl) (by kernel_rfl) (by kernel_rfl) hS16 ?_
    refine GP.run [8, 9] [0, 2, 3, 14, 15, 16, 17, 20, 22, 23] [(0, .slice (some ⟨q, 0, none⟩) 32 32), (2, .int .i64 (k : Int)), (3, .int .i64 (((31 - k) : Nat) : Int)), (14, .slice (some ⟨q, 0, none⟩) 32 32), (15, .int .i64 (k : Int)), (16, .slice (some ⟨q, 0, none⟩) 32 32), (17, .int .i64 (((31 - k) : Nat) : Int)), (20, pt q (0 + (31 - k) * 1)), (22, .slice (some ⟨q, 0, none⟩) 32 32), (23, .int .i64 (k : Int))] [0, 1, 2, 3, 4, 5, 6, 8, 9] (by kernel_rfl) rfl hS16 ?_
    refine GP.sem 10 (fun w_ H_ => run_idxBlk (P := Try.prog) (k := .i64) (t := 28) (sz := 1) (b := q) (o := 0) (len := 32) (cap := 32) (j := k) (by kernel_rfl) (by omega) _) [0, 2, 3, 14, 15, 16, 17, 20, 24] [(0, .slice (some ⟨q, 0, none⟩) 32 32), (2, .int .i64 (k : Int)), (3, .int .i64 (((31 - k) : Nat) : Int)), (14, .slice (some ⟨q, 0, none⟩) 32 32), (15, .int .i64 (k : Int)), (16, .slice (some ⟨q, 0, none⟩) 32 32), (17, .int .i64 (((31 - k) : Nat) : Int)), (20, pt q (0 + (31 - k) * 1)), (24, pt q (0 + k * 1))] (by kernel_rfl) (by kernel_rfl) (by kernel_rfl) hS16 ?_
    refine GP.named fun Xd_ hXd_ => ?_
    have st24 : ∀ (wD_ : World), Hp w S [.blk q (by8 (swP X k)) 24] wD_ → Xd_ [0, 1, 2, 3, 4, 5, 6, 8, 9, 10, 7, 11, 12] [(0, .slice (some ⟨q, 0, none⟩) 32 32), (2, .int .i64 (k : Int)), (3, .int .i64 (((31 - k) : Nat) : Int)), (16, .slice (some ⟨q, 0, none⟩) 32 32), (17, .int .i64 (((31 - k) : Nat) : Int)), (21, .int .u8 ((((swP X k).getD (31 - k) 0)).toNat : Int)), (25, .int .u8 ((((swP X k).getD k 0)).toNat : Int)), (26, pt q (0 + k * 1))] wD_ := by
      intro wD_ HD_
      rw [hXd_]
      have hS25 : Hp w S [] wD_ := HD_.sub (List.Sublist.cons _ (List.Sublist.slnil))
      obtain ⟨w26, r27, H28⟩ := HD_.st (P := Try.prog) (o := (0 + k * 1)) (ty := 5) (v := .int .u8 ((((swP X k).getD (31 - k) 0)).toNat : Int)) 0 rfl (by kernel_rfl) (by rw [by8_length, swP_length]; omega) rfl
      rw [show (0 + k * 1) = k by omega, by8_set] at H28
      have H28 : Hp w S [.blk q (by8 (List.set (swP X k) k (((swP X k).getD (31 - k) 0)))) 24] w26 := H28
      have hS29 : Hp w S [] w26 := H28.sub (List.Sublist.cons _ (List.Sublist.slnil))
      refine GP.semU 13 r27 [0, 2, 3, 16, 17, 25] [(0, .slice (some ⟨q, 0, none⟩) 32 32), (2, .int .i64 (k : Int)), (3, .int .i64 (((31 - k) : Nat) : Int)), (16, .slice (some ⟨q, 0, none⟩) 32 32), (17, .int .i64 (((31 - k) : Nat) : Int)), (25, .int .u8 ((((swP X k).getD k 0)).toNat : Int))] (by kernel_rfl) rfl rfl (by kernel_rfl) hS29 ?_
      refine GP.sem 14 (fun w_ H_ => run_idxBlk (P := Try.prog) (k := .i64) (t := 28) (sz := 1) (b := q) (o := 0) (len := 32) (cap := 32) (j := (31 - k)) (by kernel_rfl) (by omega) _) [0, 2, 3, 25, 27] [(0, .slice (some ⟨q, 0, none⟩) 32 32), (2, .int .i64 (k : Int)), (3, .int .i64 (((31 - k) : Nat) : Int)), (25, .int .u8 ((((swP X k).getD k 0)).toNat : Int)), (27, pt q (0 + (31 - k) * 1))] (by kernel_rfl) (by kernel_rfl) (by kernel_rfl) hS29 ?_
      obtain ⟨w30, r31, H32⟩ := H28.st (P := Try.prog) (o := (0 + (31 - k) * 1)) (ty := 5) (v := .int .u8 ((((swP X k).getD k 0)).toNat : Int)) 0 rfl (by kernel_rfl) (by rw [by8_length, List.length_set, swP_length]; omega) rfl
      rw [show (0 + (31 - k) * 1) = (31 - k) by omega, by8_set] at H32
      have H32 : Hp w S [.blk q (by8 (List.set (List.set (swP X k) k (((swP X k).getD (31 - k) 0))) (31 - k) (((swP X k).getD k 0)))) 24] w30 := H32
      have hS33 : Hp w S [] w30 := H32.sub (List.Sublist.cons _ (List.Sublist.slnil))
      refine GP.semU 15 r31 [0, 2, 3] [(0, .slice (some ⟨q, 0, none⟩) 32 32), (2, .int .i64 (k : Int)), (3, .int .i64 (((31 - k) : Nat) : Int))] (by kernel_rfl) rfl rfl (by kernel_rfl) hS33 ?_
      refine GP.k (by kernel_rfl) hK13 (fun _ _ h => h) ?_
      refine G.region ?_
      refine GL.run (j := 6) 6 [0, 2, 3] [(0, .slice (some ⟨q, 0, none⟩) 32 32), (2, .int .i64 (IntKind.i64.wrap ((k : Int) + 1))), (3, .int .i64 (IntKind.i64.wrap ((((31 - k) : Nat) : Int) - 1)))] (by kernel_rfl) rfl ?_
      have e34 : (IntKind.i64.wrap ((k : Int) + 1)) = ((k + 1 : Nat) : Int) := by rw [in_i64 (by omega)]; omega
      have e35 : (IntKind.i64.wrap ((((31 - k) : Nat) : Int) - 1)) = (((31 - k - 1) : Nat) : Int) := by rw [in_i64 (by omega)]; omega
      refine GL.eq (M' := [(0, .slice (some ⟨q, 0, none⟩) 32 32), (2, .int .i64 ((k + 1 : Nat) : Int)), (3, .int .i64 (((31 - k - 1) : Nat) : Int))]) (by rw [e34, e35]) ?_
      clear e34 e35
      have H36 : Hp w S [.blk q (by8 (swP X (k + 1))) 24] w30 := by rw [← swP_step (by omega)]; exact H32
      refine GL.fit (ts := [0, 2, 3]) (M' := [(0, .slice (some ⟨q, 0, none⟩) 32 32), (2, .int .i64 ((k + 1 : Nat) : Int)), (3, .int .i64 (((31 - k - 1) : Nat) : Int))]) (by kernel_rfl) ?_
      refine GL.eq (M' := [(0, .slice (some ⟨q, 0, none⟩) 32 32), (2, .int .i64 (((k + 1) : Nat) : Int)), (3, .int .i64 (((31 - (k + 1)) : Nat) : Int))]) (by rw [show 31 - k - 1 = 31 - (k + 1) by omega]) ?_
      exact GL.again (k + 1) [0, 2, 3] rfl (by kernel_rfl) (by show 16 - (k + 1) < 16 - k; omega) ⟨by omega, H36⟩
    have st22 : ∀ (wD_ : World), Hp w S [.blk q (by8 (swP X k)) 24] wD_ → Xd_ [0, 1, 2, 3, 4, 5, 6, 8, 9, 10, 7] [(0, .slice (some ⟨q, 0, none⟩) 32 32), (2, .int .i64 (k : Int)), (3, .int .i64 (((31 - k) : Nat) : Int)), (14, .slice (some ⟨q, 0, none⟩) 32 32), (15, .int .i64 (k : Int)), (16, .slice (some ⟨q, 0, none⟩) 32 32), (17, .int .i64 (((31 - k) : Nat) : Int)), (21, .int .u8 ((((swP X k).getD (31 - k) 0)).toNat : Int)), (24, pt q (0 + k * 1))] wD_ := by
      intro wD_ HD_
      rw [hXd_]
      have hS37 : Hp w S [] wD_ := HD_.sub (List.Sublist.cons _ (List.Sublist.slnil))
      refine GP.all1 11 (by kernel_rfl) ?_
      · skip
        have hS38 : Hp w S [] wD_ := HD_.sub (List.Sublist.cons _ (List.Sublist.slnil))
        have hS39 : Hp w S [] wD_ := HD_.sub (List.Sublist.cons _ (List.Sublist.slnil))
        refine GO.made (HD_.ld (o := (0 + k * 1)) (ty := 5) (v := .int .u8 ((((swP X k).getD k 0)).toNat : Int)) 0 rfl (by kernel_rfl) (by rw [show (0 + k * 1) = k by omega]; exact by8_at (getD8 (by rw [swP_length]; omega)))) [0, 2, 3, 14, 15, 16, 17, 21, 25] [(0, .slice (some ⟨q, 0, none⟩) 32 32), (2, .int .i64 (k : Int)), (3, .int .i64 (((31 - k) : Nat) : Int)), (14, .slice (some ⟨q, 0, none⟩) 32 32), (15, .int .i64 (k : Int)), (16, .slice (some ⟨q, 0, none⟩) 32 32), (17, .int .i64 (((31 - k) : Nat) : Int)), (21, .int .u8 ((((swP X k).getD (31 - k) 0)).toNat : Int)), (25, .int .u8 ((((swP X k).getD k 0)).toNat : Int))] (by kernel_rfl) (by kernel_rfl) hS39 ?_
        refine GP.sem 12 (fun w_ H_ => run_idxBlk (P := Try.prog) (k := .i64) (t := 28) (sz := 1) (b := q) (o := 0) (len := 32) (cap := 32) (j := k) (by kernel_rfl) (by omega) _) [0, 2, 3, 16, 17, 21, 25, 26] [(0, .slice (some ⟨q, 0, none⟩) 32 32), (2, .int .i64 (k : Int)), (3, .int .i64 (((31 - k) : Nat) : Int)), (16, .slice (some ⟨q, 0, none⟩) 32 32), (17, .int .i64 (((31 - k) : Nat) : Int)), (21, .int .u8 ((((swP X k).getD (31 - k) 0)).toNat : Int)), (25, .int .u8 ((((swP X k).getD k 0)).toNat : Int)), (26, pt q (0 + k * 1))] (by kernel_rfl) (by kernel_rfl) (by kernel_rfl) hS39 ?_
        refine GP.perm [0, 1, 2, 3, 4, 5, 6, 8, 9, 10, 7, 11, 12] (by kernel_rfl) rfl ?_
        rw [← hXd_]
        exact st24 _ HD_
    have st23 : ∀ (wD_ : World), Hp w S [.blk q (by8 (swP X k)) 24] wD_ → Xd_ [0, 1, 2, 3, 4, 5, 6, 8, 9, 10, 11] [(0, .slice (some ⟨q, 0, none⟩) 32 32), (2, .int .i64 (k : Int)), (3, .int .i64 (((31 - k) : Nat) : Int)), (14, .slice (some ⟨q, 0, none⟩) 32 32), (15, .int .i64 (k : Int)), (16, .slice (some ⟨q, 0, none⟩) 32 32), (17, .int .i64 (((31 - k) : Nat) : Int)), (20, pt q (0 + (31 - k) * 1)), (25, .int .u8 ((((swP X k).getD k 0)).toNat : Int))] wD_ := by
      intro wD_ HD_
      rw [hXd_]
      have hS40 : Hp w S [] wD_ := HD_.sub (List.Sublist.cons _ (List.Sublist.slnil))
      refine GP.all1 7 (by kernel_rfl) ?_
      · skip
        have hS41 : Hp w S [] wD_ := HD_.sub (List.Sublist.cons _ (List.Sublist.slnil))
        have hS42 : Hp w S [] wD_ := HD_.sub (List.Sublist.cons _ (List.Sublist.slnil))
        refine GO.made (HD_.ld (o := (0 + (31 - k) * 1)) (ty := 5) (v := .int .u8 ((((swP X k).getD (31 - k) 0)).toNat : Int)) 0 rfl (by kernel_rfl) (by rw [show (0 + (31 - k) * 1) = (31 - k) by omega]; exact by8_at (getD8 (by rw [swP_length]; omega)))) [0, 2, 3, 14, 15, 16, 17, 21, 25] [(0, .slice (some ⟨q, 0, none⟩) 32 32), (2, .int .i64 (k : Int)), (3, .int .i64 (((31 - k) : Nat) : Int)), (14, .slice (some ⟨q, 0, none⟩) 32 32), (15, .int .i64 (k : Int)), (16, .slice (some ⟨q, 0, none⟩) 32 32), (17, .int .i64 (((31 - k) : Nat) : Int)), (21, .int .u8 ((((swP X k).getD (31 - k) 0)).toNat : Int)), (25, .int .u8 ((((swP X k).getD k 0)).toNat : Int))] (by kernel_rfl) (by kernel_rfl) hS42 ?_
        refine GP.sem 12 (fun w_ H_ => run_idxBlk (P := Try.prog) (k := .i64) (t := 28) (sz := 1) (b := q) (o := 0) (len := 32) (cap := 32) (j := k) (by kernel_rfl) (by omega) _) [0, 2, 3, 16, 17, 21, 25, 26] [(0, .slice (some ⟨q, 0, none⟩) 32 32), (2, .int .i64 (k : Int)), (3, .int .i64 (((31 - k) : Nat) : Int)), (16, .slice (some ⟨q, 0, none⟩) 32 32), (17, .int .i64 (((31 - k) : Nat) : Int)), (21, .int .u8 ((((swP X k).getD (31 - k) 0)).toNat : Int)), (25, .int .u8 ((((swP X k).getD k 0)).toNat : Int)), (26, pt q (0 + k * 1))] (by kernel_rfl) (by kernel_rfl) (by kernel_rfl) hS42 ?_
        refine GP.perm [0, 1, 2, 3, 4, 5, 6, 8, 9, 10, 7, 11, 12] (by kernel_rfl) rfl ?_
        rw [← hXd_]
        exact st24 _ HD_
    have st21 : ∀ (wD_ : World), Hp w S [.blk q (by8 (swP X k)) 24] wD_ → Xd_ [0, 1, 2, 3, 4, 5, 6, 8, 9, 10] [(0, .slice (some ⟨q, 0, none⟩) 32 32), (2, .int .i64 (k : Int)), (3, .int .i64 (((31 - k) : Nat) : Int)), (14, .slice (some ⟨q, 0, none⟩) 32 32), (15, .int .i64 (k : Int)), (16, .slice (some ⟨q, 0, none⟩) 32 32), (17, .int .i64 (((31 - k) : Nat) : Int)), (20, pt q (0 + (31 - k) * 1)), (24, pt q (0 + k * 1))] wD_ := by
      intro wD_ HD_
      rw [hXd_]
      have hS43 : Hp w S [] wD_ := HD_.sub (List.Sublist.cons _ (List.Sublist.slnil))
      refine GP.all2 7 11 (by kernel_rfl) ?_ ?_
      · skip
        have hS44 : Hp w S [] wD_ := HD_.sub (List.Sublist.cons _ (List.Sublist.slnil))
        have hS45 : Hp w S [] wD_ := HD_.sub (List.Sublist.cons _ (List.Sublist.slnil))
        refine GO.made (HD_.ld (o := (0 + (31 - k) * 1)) (ty := 5) (v := .int .u8 ((((swP X k).getD (31 - k) 0)).toNat : Int)) 0 rfl (by kernel_rfl) (by rw [show (0 + (31 - k) * 1) = (31 - k) by omega]; exact by8_at (getD8 (by rw [swP_length]; omega)))) [0, 2, 3, 14, 15, 16, 17, 21, 24] [(0, .slice (some ⟨q, 0, none⟩) 32 32), (2, .int .i64 (k : Int)), (3, .int .i64 (((31 - k) : Nat) : Int)), (14, .slice (some ⟨q, 0, none⟩) 32 32), (15, .int .i64 (k : Int)), (16, .slice (some ⟨q, 0, none⟩) 32 32), (17, .int .i64 (((31 - k) : Nat) : Int)), (21, .int .u8 ((((swP X k).getD (31 - k) 0)).toNat : Int)), (24, pt q (0 + k * 1))] (by kernel_rfl) (by kernel_rfl) hS45 ?_
        refine GP.perm [0, 1, 2, 3, 4, 5, 6, 8, 9, 10, 7] (by kernel_rfl) rfl ?_
        rw [← hXd_]
        exact st22 _ HD_
      · skip
        have hS46 : Hp w S [] wD_ := HD_.sub (List.Sublist.cons _ (List.Sublist.slnil))
        have hS47 : Hp w S [] wD_ := HD_.sub (List.Sublist.cons _ (List.Sublist.slnil))
        refine GO.made (HD_.ld (o := (0 + k * 1)) (ty := 5) (v := .int .u8 ((((swP X k).getD k 0)).toNat : Int)) 0 rfl (by kernel_rfl) (by rw [show (0 + k * 1) = k by omega]; exact by8_at (getD8 (by rw [swP_length]; omega)))) [0, 2, 3, 14, 15, 16, 17, 20, 25] [(0, .slice (some ⟨q, 0, none⟩) 32 32), (2, .int .i64 (k : Int)), (3, .int .i64 (((31 - k) : Nat) : Int)), (14, .slice (some ⟨q, 0, none⟩) 32 32), (15, .int .i64 (k : Int)), (16, .slice (some ⟨q, 0, none⟩) 32 32), (17, .int .i64 (((31 - k) : Nat) : Int)), (20, pt q (0 + (31 - k) * 1)), (25, .int .u8 ((((swP X k).getD k 0)).toNat : Int))] (by kernel_rfl) (by kernel_rfl) hS47 ?_
        refine GP.perm [0, 1, 2, 3, 4, 5, 6, 8, 9, 10, 11] (by kernel_rfl) rfl ?_
        rw [← hXd_]
        exact st23 _ HD_
    exact st21 _ H14
theorem Backward32_iter (X : List UInt8) (hX : X.length = 32) (A : Option Addr) (B : Nat) : Iter Try.prog 63 #[.pointer (some ⟨B, 0, none⟩)] 32 (fun k => #[.int .i64 ((31 - k : Nat) : Int), .int .u8 ((X.getD (31 - k) 0).toNat : Int)]) (fun W => W.cell? ⟨B, 0, none⟩ = some (.slice A 32 32) ∧ RdS W A (by8 X)) := by
  have h := Backward_iter X (by omega) A 32 B
  rw [hX] at h
  exact h
theorem Text_calls (X : List UInt8) (hX : X.length = 32) (w : World) : Calls Try.prog 21 #[.agg (by8 X).toArray] w fun e w' => e = .returned (.string (strOf (hexT X))) ∧ Hp w [] [] w' := by
  refine calls_R (args := [.agg (by8 X).toArray]) Try.func21 rfl Try.ntmps21 rfl ?_
  intro Q0 hRet hNor
  have H := Hp.start w
  have H : Hp w [] [] w := H
  refine RG.seqK fun K1 hK2 => ?_
  refine RG.region (by kernel_rfl) ?_
  obtain ⟨p3, w4, r5, H6⟩ := H.box (P := Try.prog) 24 (by8 X) (.agg (by8 X).toArray) rfl
  have H6 : Hp w [] [.blk p3 (by8 X) 24] w4 := H6
  refine RL.sem (j := 1) (r5) [1] [(1, pt p3 0)] (by kernel_rfl) (by kernel_rfl) rfl ?_
  refine RL.run (j := 2) 1 [1] [(1, pt p3 0)] (by kernel_rfl) rfl ?_
  refine RL.k rfl hK2 (fun _ _ h => h) ?_
  refine RG.seqK fun K7 hK8 => ?_
  refine RG.region (by kernel_rfl) ?_
  obtain ⟨p9, w10, r11, H12⟩ := H6.alloc (P := Try.prog) 28 [.slice none 0 0] (by kernel_rfl)
  have H12 : Hp w [] [.blk p3 (by8 X) 24, .blk p9 [.slice none 0 0] 28] w10 := H12
  refine RL.sem (j := 1) (r11) [1, 3] [(1, pt p3 0), (3, pt p9 0)] (by kernel_rfl) (by kernel_rfl) rfl ?_
  refine RL.k rfl hK8 (fun _ _ h => h) ?_
  refine RG.seqK fun K13 hK14 => ?_
  refine RG.seqK fun K15 hK16 => ?_
  refine RG.region (by kernel_rfl) ?_
  refine RL.run (j := 1) 1 [3, 6] [(3, pt p9 0), (6, .slice (some ⟨p3, 0, none⟩) 32 32)] (by kernel_rfl) rfl ?_
  refine RL.call (j := 2) (Backward_calls (some ⟨p3, 0, none⟩) 32 32 w10) (by kernel_rfl) rfl (fun e_ w20 hR => ?_)
  obtain ⟨B17, rfl, H19⟩ := hR
  have H18 : Hp w [] [.blk p3 (by8 X) 24, .blk p9 [.slice none 0 0] 28, .blk B17 [.slice (some ⟨p3, 0, none⟩) 32 32] 28] w20 := H12.callNew H19
  refine ⟨_, rfl, [3, 7], [(3, pt p9 0), (7, .func (.func 63) #[] #[pt B17 0])], by kernel_rfl, ?_⟩
  refine RL.k rfl hK16 (fun _ _ h => h) ?_
  refine RG.block ?_
  have H21 := H18.rowNil 5 1
  have H21 : Hp w [] [.blk p3 (by8 X) 24, .blk p9 [.slice none (2 * 0) 0] 28, .blk B17 [.slice (some ⟨p3, 0, none⟩) 32 32] 28, .row none (2 * 0) 0 5 1 (by8 (hexP X 0))] w20 := H21
  refine RG.fit [3, 7] (M' := [(3, pt p9 0), (7, .func (.func 63) #[] #[pt B17 0])]) (by kernel_rfl) ?_
  refine RG.range H21 (gf := 63) (lb := #[pt B17 0]) rfl (enters_of Try.func63 (by kernel_rfl) rfl) (Xt := Option Addr × Nat) (fun k ⟨A_, c_⟩ => True) (fun k ⟨A_, c_⟩ => [.blk p3 (by8 X) 24, .blk p9 [.slice A_ (2 * k) c_] 28, .blk B17 [.slice (some ⟨p3, 0, none⟩) 32 32] 28, .row A_ (2 * k) c_ 5 1 (by8 (hexP X k))]) (fun ⟨A_, c_⟩ => False) (fun ⟨A_, c_⟩ => []) (N := 32) (enc := fun k => #[.int .i64 ((31 - k : Nat) : Int), .int .u8 ((X.getD (31 - k) 0).toNat : Int)]) (Backward32_iter X hX (some ⟨p3, 0, none⟩) B17) (fun _ => rfl) ⟨none, 0⟩ trivial rfl (fun k s E W hx HW => ⟨(HW.blkAt 2 rfl).cell 0, HW.rdBlk (o := 0) (xs := by8 X) 0 32 rfl (sub_whole (by rw [by8_length, hX]))⟩) (fun k => [(9, .int .u8 ((X.getD (31 - k) 0).toNat : Int)), (8, .int .i64 ((31 - k : Nat) : Int)), (3, pt p9 0), (7, .func (.func 63) #[] #[pt B17 0])]) (fun _ => rfl) ?_ ?_ ?_
  · skip
    rintro D25 l26 oR27 oB28 k ⟨A_, c_⟩ w22 K29 hk30 hx23 H24 hK31
    have H24 : Hp w [] [.blk p3 (by8 X) 24, .blk p9 [.slice A_ (2 * k) c_] 28, .blk B17 [.slice (some ⟨p3, 0, none⟩) 32 32] 28, .row A_ (2 * k) c_ 5 1 (by8 (hexP X k)), .obj D25 DF, .obj l26 oR27] w22 := H24
    have hk9 := hk30
    have hxb := UInt8.toNat_lt (X.getD (31 - k) 0)
    refine RG.region (by kernel_rfl) ?_
    refine RL.run (j := 1) 1 [3, 5] [(3, pt p9 0), (5, .int .u8 ((X.getD (31 - k) 0).toNat : Int))] (by kernel_rfl) rfl ?_
    refine RL.done rfl (fun F_ hF_ hM_ => hK31 F_ _ [.blk p3 (by8 X) 24, .blk p9 [.slice A_ (2 * k) c_] 28, .blk B17 [.slice (some ⟨p3, 0, none⟩) 32 32] 28, .row A_ (2 * k) c_ 5 1 (by8 (hexP X k))] _ hF_ hM_ H24 ?_)
    intro w32 H33
    have H33 : Hp w [] [.blk p3 (by8 X) 24, .blk p9 [.slice A_ (2 * k) c_] 28, .blk B17 [.slice (some ⟨p3, 0, none⟩) 32 32] 28, .row A_ (2 * k) c_ 5 1 (by8 (hexP X k)), .obj D25 DF, .obj l26 oB28] w32 := H33
    refine RG.block ?_
    refine RG.heldP (Hp w [] [.blk p3 (by8 X) 24, .blk B17 [.slice (some ⟨p3, 0, none⟩) 32 32] 28, .obj D25 DF, .obj l26 oB28]) (by kernel_rfl) (by kernel_rfl) (by kernel_rfl) (fun ⟨_, _, h_⟩ => h_) (fun c_ a_ d_ v_ w_ h_ => h_) ?_
    have H34 := H33.drew
    generalize ({ w32 with drawn := w32.drawn + 1 } : World) = w35 at H34 ⊢
    have hS36 : Hp w [] [.blk p3 (by8 X) 24, .blk B17 [.slice (some ⟨p3, 0, none⟩) 32 32] 28, .obj D25 DF, .obj l26 oB28] w35 := H34.sub (List.Sublist.cons_cons _ (List.Sublist.cons _ (List.Sublist.cons_cons _ (List.Sublist.cons _ (List.Sublist.cons_cons _ (List.Sublist.cons_cons _ (List.Sublist.slnil)))))))
    refine GP.run [1, 2] [3, 5, 12] [(3, pt p9 0), (5, .int .u8 ((X.getD (31 - k) 0).toNat : Int)), (12, .int .u8 (Int.fdiv ((X.getD (31 - k) 0).toNat : Int) (2 ^ 4)))] [1, 2] (by kernel_rfl) rfl hS36 ?_
    have e37 : (Int.fdiv ((X.getD (31 - k) 0).toNat : Int) (2 ^ 4)) = ((((X.getD (31 - k) 0).toNat / 16) : Nat) : Int) := n_shr _ 4
    refine GP.eq (M' := [(3, pt p9 0), (5, .int .u8 ((X.getD (31 - k) 0).toNat : Int)), (12, .int .u8 ((((X.getD (31 - k) 0).toNat / 16) : Nat) : Int))]) (by rw [e37]) ?_
    clear e37
    refine GP.sem 3 (fun w_ H_ => run_strIdx (P := Try.prog) (k := .u8) (t := 9) (s := signs) (i := ((X.getD (31 - k) 0).toNat / 16)) (by kernel_rfl) (signs_at (by omega)) _) [3, 5, 13] [(3, pt p9 0), (5, .int .u8 ((X.getD (31 - k) 0).toNat : Int)), (13, .int .u8 (((sg ((X.getD (31 - k) 0).toNat / 16))).toNat : Int))] (by kernel_rfl) (by kernel_rfl) (by kernel_rfl) hS36 ?_
    refine GP.run [4, 5] [3, 13, 15] [(3, pt p9 0), (13, .int .u8 (((sg ((X.getD (31 - k) 0).toNat / 16))).toNat : Int)), (15, .int .u8 (Go.bits .and .u8 ((X.getD (31 - k) 0).toNat : Int) 15))] [1, 2, 3, 4, 5] (by kernel_rfl) rfl hS36 ?_
    have e38 : (Go.bits .and .u8 ((X.getD (31 - k) 0).toNat : Int) 15) = ((((X.getD (31 - k) 0).toNat % 16) : Nat) : Int) := u8_and15 _
    refine GP.eq (M' := [(3, pt p9 0), (13, .int .u8 (((sg ((X.getD (31 - k) 0).toNat / 16))).toNat : Int)), (15, .int .u8 ((((X.getD (31 - k) 0).toNat % 16) : Nat) : Int))]) (by rw [e38]) ?_
    clear e38
    refine GP.sem 6 (fun w_ H_ => run_strIdx (P := Try.prog) (k := .u8) (t := 9) (s := signs) (i := ((X.getD (31 - k) 0).toNat % 16)) (by kernel_rfl) (signs_at (by omega)) _) [3, 13, 16] [(3, pt p9 0), (13, .int .u8 (((sg ((X.getD (31 - k) 0).toNat / 16))).toNat : Int)), (16, .int .u8 (((sg ((X.getD (31 - k) 0).toNat % 16))).toNat : Int))] (by kernel_rfl) (by kernel_rfl) (by kernel_rfl) hS36 ?_
    refine GP.named fun Xd_ hXd_ => ?_
    have st54 : ∀ (wD_ : World) (p45 : Nat), Hp w [] [.blk p3 (by8 X) 24, .blk p9 [.slice A_ (2 * k) c_] 28, .blk B17 [.slice (some ⟨p3, 0, none⟩) 32 32] 28, .row A_ (2 * k) c_ 5 1 (by8 (hexP X k)), .obj D25 DF, .obj l26 oB28, .row (some ⟨p45, 0, none⟩) 2 2 5 1 (by8 ([((sg ((X.getD (31 - k) 0).toNat / 16))), ((sg ((X.getD (31 - k) 0).toNat % 16)))] : List UInt8))] wD_ → Xd_ [1, 2, 3, 4, 5, 6, 0, 7] [(3, pt p9 0), (10, .slice A_ (2 * k) c_), (17, .slice (some ⟨p45, 0, none⟩) 2 2)] wD_ := by
      intro wD_ p45 HD_
      rw [hXd_]
      have hS55 : Hp w [] [.blk p3 (by8 X) 24, .blk B17 [.slice (some ⟨p3, 0, none⟩) 32 32] 28, .obj D25 DF, .obj l26 oB28] wD_ := HD_.sub (List.Sublist.cons_cons _ (List.Sublist.cons _ (List.Sublist.cons_cons _ (List.Sublist.cons _ (List.Sublist.cons_cons _ (List.Sublist.cons_cons _ (List.Sublist.cons _ (List.Sublist.slnil))))))))
      obtain ⟨A56, c57, w58, r59, H60⟩ := HD_.append (P := Try.prog) (e := 5) (sz := 1) (by_ := 1) (n := (2 * k)) (c := c_) (m := 2) (d := 2) (t := 28) (ty := 28) (xs := by8 (hexP X k)) (news := by8 ([((sg ((X.getD (31 - k) 0).toNat / 16))), ((sg ((X.getD (31 - k) 0).toNat % 16)))] : List UInt8)) 3 rfl (by kernel_rfl) (HD_.rdRow 6 rfl) (by first | (simp [by8_length]; done) | (rw [by8_length]; omega) | (rw [by8_length, putB_length])) (by8_one _) (by omega) (by simp only [maxLen]; omega)
      rw [← by8_append] at H60
      have H60 : Hp w [] [.blk p3 (by8 X) 24, .blk p9 [.slice A_ (2 * k) c_] 28, .blk B17 [.slice (some ⟨p3, 0, none⟩) 32 32] 28, .row A56 ((2 * k) + 2) c57 5 1 (by8 ((hexP X k) ++ ([((sg ((X.getD (31 - k) 0).toNat / 16))), ((sg ((X.getD (31 - k) 0).toNat % 16)))] : List UInt8))), .obj D25 DF, .obj l26 oB28, .row (some ⟨p45, 0, none⟩) 2 2 5 1 (by8 ([((sg ((X.getD (31 - k) 0).toNat / 16))), ((sg ((X.getD (31 - k) 0).toNat % 16)))] : List UInt8))] w58 := H60
      have hS61 : Hp w [] [.blk p3 (by8 X) 24, .blk B17 [.slice (some ⟨p3, 0, none⟩) 32 32] 28, .obj D25 DF, .obj l26 oB28] w58 := H60.sub (List.Sublist.cons_cons _ (List.Sublist.cons _ (List.Sublist.cons_cons _ (List.Sublist.cons _ (List.Sublist.cons_cons _ (List.Sublist.cons_cons _ (List.Sublist.cons _ (List.Sublist.slnil))))))))
      refine GP.made 8 r59 [3, 18] [(3, pt p9 0), (18, .slice A56 ((2 * k) + 2) c57)] (by kernel_rfl) (by kernel_rfl) (by kernel_rfl) hS61 ?_
      obtain ⟨w62, r63, H64⟩ := H60.st (P := Try.prog) (o := 0) (ty := 28) (v := .slice A56 ((2 * k) + 2) c57) 1 rfl (by kernel_rfl) (by simp) rfl
      have H64 : Hp w [] [.blk p3 (by8 X) 24, .blk p9 [.slice A56 ((2 * k) + 2) c57] 28, .blk B17 [.slice (some ⟨p3, 0, none⟩) 32 32] 28, .row A56 ((2 * k) + 2) c57 5 1 (by8 ((hexP X k) ++ ([((sg ((X.getD (31 - k) 0).toNat / 16))), ((sg ((X.getD (31 - k) 0).toNat % 16)))] : List UInt8))), .obj D25 DF, .obj l26 oB28, .row (some ⟨p45, 0, none⟩) 2 2 5 1 (by8 ([((sg ((X.getD (31 - k) 0).toNat / 16))), ((sg ((X.getD (31 - k) 0).toNat % 16)))] : List UInt8))] w62 := H64
      have hS65 : Hp w [] [.blk p3 (by8 X) 24, .blk B17 [.slice (some ⟨p3, 0, none⟩) 32 32] 28, .obj D25 DF, .obj l26 oB28] w62 := H64.sub (List.Sublist.cons_cons _ (List.Sublist.cons _ (List.Sublist.cons_cons _ (List.Sublist.cons _ (List.Sublist.cons_cons _ (List.Sublist.cons_cons _ (List.Sublist.cons _ (List.Sublist.slnil))))))))
      refine GP.semU 9 r63 [] [] (by kernel_rfl) rfl rfl (by kernel_rfl) hS65 ?_
      have H66 : Hp w [] [.blk p3 (by8 X) 24, .blk p9 [.slice A56 ((2 * k) + 2) c57] 28, .blk B17 [.slice (some ⟨p3, 0, none⟩) 32 32] 28, .row A56 ((2 * k) + 2) c57 5 1 (by8 ((hexP X k) ++ ([((sg ((X.getD (31 - k) 0).toNat / 16))), ((sg ((X.getD (31 - k) 0).toNat % 16)))] : List UInt8))), .obj D25 DF, .obj l26 oB28] w62 := H64.sub (List.Sublist.cons_cons _ (List.Sublist.cons_cons _ (List.Sublist.cons_cons _ (List.Sublist.cons_cons _ (List.Sublist.cons_cons _ (List.Sublist.cons_cons _ (List.Sublist.cons _ (List.Sublist.slnil))))))))
      have H67 : Hp w [] [.blk p3 (by8 X) 24, .blk p9 [.slice A56 (2 * (k + 1)) c57] 28, .blk B17 [.slice (some ⟨p3, 0, none⟩) 32 32] 28, .row A56 (2 * (k + 1)) c57 5 1 (by8 (hexP X (k + 1))), .obj D25 DF, .obj l26 oB28] w62 := H66
      exact GP.fin (by kernel_rfl) (fun F_ hF_ hM_ => ⟨⟨A56, c57⟩, trivial, H67⟩)
    have st52 : ∀ (wD_ : World), Hp w [] [.blk p3 (by8 X) 24, .blk p9 [.slice A_ (2 * k) c_] 28, .blk B17 [.slice (some ⟨p3, 0, none⟩) 32 32] 28, .row A_ (2 * k) c_ 5 1 (by8 (hexP X k)), .obj D25 DF, .obj l26 oB28] wD_ → Xd_ [1, 2, 3, 4, 5, 6, 0] [(3, pt p9 0), (10, .slice A_ (2 * k) c_), (13, .int .u8 (((sg ((X.getD (31 - k) 0).toNat / 16))).toNat : Int)), (16, .int .u8 (((sg ((X.getD (31 - k) 0).toNat % 16))).toNat : Int))] wD_ := by
      intro wD_ HD_
      rw [hXd_]
      have hS68 : Hp w [] [.blk p3 (by8 X) 24, .blk B17 [.slice (some ⟨p3, 0, none⟩) 32 32] 28, .obj D25 DF, .obj l26 oB28] wD_ := HD_.sub (List.Sublist.cons_cons _ (List.Sublist.cons _ (List.Sublist.cons_cons _ (List.Sublist.cons _ (List.Sublist.cons_cons _ (List.Sublist.cons_cons _ (List.Sublist.slnil)))))))
      refine GP.all1 7 (by kernel_rfl) ?_
      · skip
        have hS69 : Hp w [] [.blk p3 (by8 X) 24, .blk B17 [.slice (some ⟨p3, 0, none⟩) 32 32] 28, .obj D25 DF, .obj l26 oB28] wD_ := HD_.sub (List.Sublist.cons_cons _ (List.Sublist.cons _ (List.Sublist.cons_cons _ (List.Sublist.cons _ (List.Sublist.cons_cons _ (List.Sublist.cons_cons _ (List.Sublist.slnil)))))))
        obtain ⟨p70, w71, r72, H73⟩ := HD_.madeRow (P := Try.prog) (Instr.buildSlice 28 2 #[(0, .int .u8 (((sg ((X.getD (31 - k) 0).toNat / 16))).toNat : Int)), (1, .int .u8 (((sg ((X.getD (31 - k) 0).toNat % 16))).toNat : Int))]) (fun b_ => .slice (some ⟨b_, 0, none⟩) 2 2) [.int .u8 (((sg ((X.getD (31 - k) 0).toNat / 16))).toNat : Int), .int .u8 (((sg ((X.getD (31 - k) 0).toNat % 16))).toNat : Int)] 5 2 2 1 (by kernel_rfl) (by decide) (by decide) rfl
        have H73 : Hp w [] [.blk p3 (by8 X) 24, .blk p9 [.slice A_ (2 * k) c_] 28, .blk B17 [.slice (some ⟨p3, 0, none⟩) 32 32] 28, .row A_ (2 * k) c_ 5 1 (by8 (hexP X k)), .obj D25 DF, .obj l26 oB28, .row (some ⟨p70, 0, none⟩) 2 2 5 1 (by8 ([((sg ((X.getD (31 - k) 0).toNat / 16))), ((sg ((X.getD (31 - k) 0).toNat % 16)))] : List UInt8))] w71 := H73
        have hS74 : Hp w [] [.blk p3 (by8 X) 24, .blk B17 [.slice (some ⟨p3, 0, none⟩) 32 32] 28, .obj D25 DF, .obj l26 oB28] w71 := H73.sub (List.Sublist.cons_cons _ (List.Sublist.cons _ (List.Sublist.cons_cons _ (List.Sublist.cons _ (List.Sublist.cons_cons _ (List.Sublist.cons_cons _ (List.Sublist.cons _ (List.Sublist.slnil))))))))
        refine GO.made r72 [3, 10, 17] [(3, pt p9 0), (10, .slice A_ (2 * k) c_), (17, .slice (some ⟨p70, 0, none⟩) 2 2)] (by kernel_rfl) (by kernel_rfl) hS74 ?_
        refine GP.perm [1, 2, 3, 4, 5, 6, 0, 7] (by kernel_rfl) rfl ?_
        rw [← hXd_]
        exact st54 _ p70 H73
    have st53 : ∀ (wD_ : World) (p40 : Nat), Hp w [] [.blk p3 (by8 X) 24, .blk p9 [.slice A_ (2 * k) c_] 28, .blk B17 [.slice (some ⟨p3, 0, none⟩) 32 32] 28, .row A_ (2 * k) c_ 5 1 (by8 (hexP X k)), .obj D25 DF, .obj l26 oB28, .row (some ⟨p40, 0, none⟩) 2 2 5 1 (by8 ([((sg ((X.getD (31 - k) 0).toNat / 16))), ((sg ((X.getD (31 - k) 0).toNat % 16)))] : List UInt8))] wD_ → Xd_ [1, 2, 3, 4, 5, 6, 7] [(3, pt p9 0), (17, .slice (some ⟨p40, 0, none⟩) 2 2)] wD_ := by
      intro wD_ p40 HD_
      rw [hXd_]
      have hS75 : Hp w [] [.blk p3 (by8 X) 24, .blk B17 [.slice (some ⟨p3, 0, none⟩) 32 32] 28, .obj D25 DF, .obj l26 oB28] wD_ := HD_.sub (List.Sublist.cons_cons _ (List.Sublist.cons _ (List.Sublist.cons_cons _ (List.Sublist.cons _ (List.Sublist.cons_cons _ (List.Sublist.cons_cons _ (List.Sublist.cons _ (List.Sublist.slnil))))))))
      refine GP.all1 0 (by kernel_rfl) ?_
      · skip
        have hS76 : Hp w [] [.blk p3 (by8 X) 24, .blk B17 [.slice (some ⟨p3, 0, none⟩) 32 32] 28, .obj D25 DF, .obj l26 oB28] wD_ := HD_.sub (List.Sublist.cons_cons _ (List.Sublist.cons _ (List.Sublist.cons_cons _ (List.Sublist.cons _ (List.Sublist.cons_cons _ (List.Sublist.cons_cons _ (List.Sublist.cons _ (List.Sublist.slnil))))))))
        have hS77 : Hp w [] [.blk p3 (by8 X) 24, .blk B17 [.slice (some ⟨p3, 0, none⟩) 32 32] 28, .obj D25 DF, .obj l26 oB28] wD_ := HD_.sub (List.Sublist.cons_cons _ (List.Sublist.cons _ (List.Sublist.cons_cons _ (List.Sublist.cons _ (List.Sublist.cons_cons _ (List.Sublist.cons_cons _ (List.Sublist.cons _ (List.Sublist.slnil))))))))
        refine GO.made (HD_.ld (o := 0) (ty := 28) (v := .slice A_ (2 * k) c_) 1 rfl (by kernel_rfl) rfl) [3, 10, 17] [(3, pt p9 0), (10, .slice A_ (2 * k) c_), (17, .slice (some ⟨p40, 0, none⟩) 2 2)] (by kernel_rfl) (by kernel_rfl) hS77 ?_
        refine GP.perm [1, 2, 3, 4, 5, 6, 0, 7] (by kernel_rfl) rfl ?_
        rw [← hXd_]
        exact st54 _ p40 HD_
    have st51 : ∀ (wD_ : World), Hp w [] [.blk p3 (by8 X) 24, .blk p9 [.slice A_ (2 * k) c_] 28, .blk B17 [.slice (some ⟨p3, 0, none⟩) 32 32] 28, .row A_ (2 * k) c_ 5 1 (by8 (hexP X k)), .obj D25 DF, .obj l26 oB28] wD_ → Xd_ [1, 2, 3, 4, 5, 6] [(3, pt p9 0), (13, .int .u8 (((sg ((X.getD (31 - k) 0).toNat / 16))).toNat : Int)), (16, .int .u8 (((sg ((X.getD (31 - k) 0).toNat % 16))).toNat : Int))] wD_ := by
      intro wD_ HD_
      rw [hXd_]
      have hS78 : Hp w [] [.blk p3 (by8 X) 24, .blk B17 [.slice (some ⟨p3, 0, none⟩) 32 32] 28, .obj D25 DF, .obj l26 oB28] wD_ := HD_.sub (List.Sublist.cons_cons _ (List.Sublist.cons _ (List.Sublist.cons_cons _ (List.Sublist.cons _ (List.Sublist.cons_cons _ (List.Sublist.cons_cons _ (List.Sublist.slnil)))))))
      refine GP.all2 0 7 (by kernel_rfl) ?_ ?_
      · skip
        have hS79 : Hp w [] [.blk p3 (by8 X) 24, .blk B17 [.slice (some ⟨p3, 0, none⟩) 32 32] 28, .obj D25 DF, .obj l26 oB28] wD_ := HD_.sub (List.Sublist.cons_cons _ (List.Sublist.cons _ (List.Sublist.cons_cons _ (List.Sublist.cons _ (List.Sublist.cons_cons _ (List.Sublist.cons_cons _ (List.Sublist.slnil)))))))
        have hS80 : Hp w [] [.blk p3 (by8 X) 24, .blk B17 [.slice (some ⟨p3, 0, none⟩) 32 32] 28, .obj D25 DF, .obj l26 oB28] wD_ := HD_.sub (List.Sublist.cons_cons _ (List.Sublist.cons _ (List.Sublist.cons_cons _ (List.Sublist.cons _ (List.Sublist.cons_cons _ (List.Sublist.cons_cons _ (List.Sublist.slnil)))))))
        refine GO.made (HD_.ld (o := 0) (ty := 28) (v := .slice A_ (2 * k) c_) 1 rfl (by kernel_rfl) rfl) [3, 10, 13, 16] [(3, pt p9 0), (10, .slice A_ (2 * k) c_), (13, .int .u8 (((sg ((X.getD (31 - k) 0).toNat / 16))).toNat : Int)), (16, .int .u8 (((sg ((X.getD (31 - k) 0).toNat % 16))).toNat : Int))] (by kernel_rfl) (by kernel_rfl) hS80 ?_
        refine GP.perm [1, 2, 3, 4, 5, 6, 0] (by kernel_rfl) rfl ?_
        rw [← hXd_]
        exact st52 _ HD_
      · skip
        have hS81 : Hp w [] [.blk p3 (by8 X) 24, .blk B17 [.slice (some ⟨p3, 0, none⟩) 32 32] 28, .obj D25 DF, .obj l26 oB28] wD_ := HD_.sub (List.Sublist.cons_cons _ (List.Sublist.cons _ (List.Sublist.cons_cons _ (List.Sublist.cons _ (List.Sublist.cons_cons _ (List.Sublist.cons_cons _ (List.Sublist.slnil)))))))
        obtain ⟨p82, w83, r84, H85⟩ := HD_.madeRow (P := Try.prog) (Instr.buildSlice 28 2 #[(0, .int .u8 (((sg ((X.getD (31 - k) 0).toNat / 16))).toNat : Int)), (1, .int .u8 (((sg ((X.getD (31 - k) 0).toNat % 16))).toNat : Int))]) (fun b_ => .slice (some ⟨b_, 0, none⟩) 2 2) [.int .u8 (((sg ((X.getD (31 - k) 0).toNat / 16))).toNat : Int), .int .u8 (((sg ((X.getD (31 - k) 0).toNat % 16))).toNat : Int)] 5 2 2 1 (by kernel_rfl) (by decide) (by decide) rfl
        have H85 : Hp w [] [.blk p3 (by8 X) 24, .blk p9 [.slice A_ (2 * k) c_] 28, .blk B17 [.slice (some ⟨p3, 0, none⟩) 32 32] 28, .row A_ (2 * k) c_ 5 1 (by8 (hexP X k)), .obj D25 DF, .obj l26 oB28, .row (some ⟨p82, 0, none⟩) 2 2 5 1 (by8 ([((sg ((X.getD (31 - k) 0).toNat / 16))), ((sg ((X.getD (31 - k) 0).toNat % 16)))] : List UInt8))] w83 := H85
        have hS86 : Hp w [] [.blk p3 (by8 X) 24, .blk B17 [.slice (some ⟨p3, 0, none⟩) 32 32] 28, .obj D25 DF, .obj l26 oB28] w83 := H85.sub (List.Sublist.cons_cons _ (List.Sublist.cons _ (List.Sublist.cons_cons _ (List.Sublist.cons _ (List.Sublist.cons_cons _ (List.Sublist.cons_cons _ (List.Sublist.cons _ (List.Sublist.slnil))))))))
        refine GO.made r84 [3, 17] [(3, pt p9 0), (17, .slice (some ⟨p82, 0, none⟩) 2 2)] (by kernel_rfl) (by kernel_rfl) hS86 ?_
        refine GP.perm [1, 2, 3, 4, 5, 6, 7] (by kernel_rfl) rfl ?_
        rw [← hXd_]
        exact st53 _ p82 H85
    exact st51 _ H34
  · skip
    rintro D90 ⟨A_, c_⟩ w87 hx88 H89
    refine RG.kk hK14 (fun _ _ h => h) ?_
    have H89 : Hp w [] [.blk p3 (by8 X) 24, .blk p9 [.slice A_ (2 * 32) c_] 28, .blk B17 [.slice (some ⟨p3, 0, none⟩) 32 32] 28, .row A_ (2 * 32) c_ 5 1 (by8 (hexP X 32)), .obj D90 DF] w87 := H89
    refine RG.seqK fun K91 hK92 => ?_
    refine RG.region (by kernel_rfl) ?_
    refine RL.sem (j := 1) (H89.ld (o := 0) (ty := 28) (v := .slice A_ (2 * 32) c_) 1 rfl (by kernel_rfl) rfl) [19] [(19, .slice A_ (2 * 32) c_)] (by kernel_rfl) (by kernel_rfl) rfl ?_
    refine RL.sem (j := 2) (run_toStr (P := Try.prog) (src := 28) (dst := 9) (A := A_) (bs := (hexP X 32)) (n := (2 * 32)) (c := c_) (by kernel_rfl) (by kernel_rfl) (H89.rdRow 3 rfl) (by rw [hexP_length])) [20] [(20, .string (strOf (hexP X 32)))] (by kernel_rfl) (by kernel_rfl) rfl ?_
    refine RL.run (j := 3) 1 [2] [(2, .string (strOf (hexP X 32)))] (by kernel_rfl) rfl ?_
    refine RL.k rfl hK92 (fun _ _ h => h) ?_
    refine RG.ret ?_
    have hD93 := H89.objAt 4 rfl
    have H94 : Hp w [] [.blk p3 (by8 X) 24, .blk p9 [.slice A_ (2 * 32) c_] 28, .blk B17 [.slice (some ⟨p3, 0, none⟩) 32 32] 28, .row A_ (2 * 32) c_ 5 1 (by8 (hexP X 32)), .obj D90 (.deferred none)] (World.putObj w87 D90 (.deferred none)) := H89.putObj 4 (.deferred none) rfl
    intro F_ hF_ hM_
    refine hRet _ _ (postK_1 hD93 rfl (RV.tmp rfl) ?_ F_ hF_ hM_)
    exact ⟨rfl, H94.sub (List.nil_sublist _)⟩
  · skip
    rintro D98 ⟨A_, c_⟩ w95 hx96 H97
    exact hx96.elim
theorem Parse_calls (s : List UInt8) (w : World) (hs : s.length ≤ maxLen) : Calls Try.prog 43 #[.string (strOf s)] w fun e w' => e = .returned (.tuple #[.agg (by8 (parT s)).toArray, .int .i64 ((parE s : Nat) : Int)]) ∧ Hp w [] [] w' := by
  have hsm : s.length ≤ 9223372036854775807 := Nat.le_trans hs (by decide)
  have hsz := strOf_size s
  refine calls_G (args := [.string (strOf s)]) Try.func43 rfl Try.ntmps43 rfl ?_
  intro Q0 hRet hNor hPan
  have H := Hp.start w
  have H : Hp w [] [] w := H
  refine G.seqK fun K1 hK2 => ?_
  refine G.region ?_
  obtain ⟨p3, w4, r5, H6⟩ := H.alloc (P := Try.prog) 24 (by8 (List.replicate 32 0)) (by kernel_rfl)
  have H6 : Hp w [] [.blk p3 (by8 (List.replicate 32 0)) 24] w4 := H6
  refine GL.sem (j := 1) (r5) [0, 2] [(0, .string (strOf s)), (2, pt p3 0)] (by kernel_rfl) (by kernel_rfl) rfl ?_
  refine GL.run (j := 2) 1 [0, 2] [(0, .string (strOf s)), (2, pt p3 0)] (by kernel_rfl) rfl ?_
  refine GL.k rfl hK2 (fun _ _ h => h) ?_
  refine G.seqK fun K7 hK8 => ?_
  refine G.region ?_
  obtain ⟨p9, w10, r11, H12⟩ := H6.alloc (P := Try.prog) 24 (by8 (List.replicate 32 0)) (by kernel_rfl)
  have H12 : Hp w [] [.blk p3 (by8 (List.replicate 32 0)) 24, .blk p9 (by8 (List.replicate 32 0)) 24] w10 := H12
  refine GL.sem (j := 1) (r11) [0, 2, 4] [(0, .string (strOf s)), (2, pt p3 0), (4, pt p9 0)] (by kernel_rfl) (by kernel_rfl) rfl ?_
  refine GL.k rfl hK8 (fun _ _ h => h) ?_
  refine G.seqK fun K13 hK14 => ?_
  refine G.seqK fun K15 hK16 => ?_
  refine G.region ?_
  refine GL.run (j := 3) 3 [0, 2, 4, 9] [(0, .string (strOf s)), (2, pt p3 0), (4, pt p9 0), (9, .bool (((strOf s).size : Int) != 64))] (by kernel_rfl) rfl ?_
  refine GL.k rfl hK16 (fun _ _ h => h) ?_
  cases hb17 : (((strOf s).size : Int) != 64)
  · skip
    have hb17f : ((strOf s).size : Int) = 64 := bne_eq_false_iff_eq.1 hb17
    refine G.no rfl ?_
    refine G.skipK hK14 (fun _ _ h => h) ?_
    refine G.seqK fun K18 hK19 => ?_
    refine G.seqK fun K20 hK21 => ?_
    refine G.region ?_
    refine GL.run (j := 1) 1 [0, 2, 4, 11] [(0, .string (strOf s)), (2, pt p3 0), (4, pt p9 0), (11, .string (strOf s))] (by kernel_rfl) rfl ?_
    obtain ⟨k22, w23, r24, H25⟩ := H12.strRange (P := Try.prog) (t := 9) (by kernel_rfl) (strOf s)
    have H25 : Hp w [] [.blk p3 (by8 (List.replicate 32 0)) 24, .blk p9 (by8 (List.replicate 32 0)) 24, .obj k22 (.stringIter (strOf s) 0)] w23 := H25
    refine GL.sem (j := 2) (r24) [0, 2, 4, 12] [(0, .string (strOf s)), (2, pt p3 0), (4, pt p9 0), (12, pt k22 0)] (by kernel_rfl) (by kernel_rfl) rfl ?_
    refine GL.k rfl hK21 (fun _ _ h => h) ?_
    refine G.block ?_
    have hs64 : s.length = 64 := by omega
    refine G.fit [0, 2, 4, 12] (M' := [(0, .string (strOf s)), (2, pt p3 0), (4, pt p9 0), (12, pt k22 0)]) (by kernel_rfl) ?_
    refine G.loop (X := Nat) (fun k => [(0, .string (strOf s)), (2, pt p3 0), (4, pt p9 0), (12, pt k22 0)]) (fun k w_ => (k ≤ 64 ∧ (s.take k).all hexOK = true) ∧ Hp w [] [.blk p3 (by8 (List.replicate 32 0)) 24, .blk p9 (by8 (pX s k)) 24, .obj k22 (.stringIter (strOf s) k)] w_) (fun k => 64 - k) 0 [0, 2, 4, 12] (by kernel_rfl) ⟨⟨by omega, by rw [List.take_zero]; rfl⟩, H25⟩ ?_
    rintro k w26 ⟨hi27, H28⟩
    refine G.eq (M' := [(0, .string (strOf s)), (2, pt p3 0), (4, pt p9 0), (12, pt k22 0)]) rfl ?_
    have H28 : Hp w [] [.blk p3 (by8 (List.replicate 32 0)) 24, .blk p9 (by8 (pX s k)) 24, .obj k22 (.stringIter (strOf s) k)] w26 := H28
    obtain ⟨hk64, hal⟩ := hi27
    by_cases hkk : k < 64
    · skip
      refine G.seqK fun K29 hK30 => ?_
      refine G.region ?_
      obtain ⟨r31, wd32, w33, hr34, H35, h36⟩ := H28.strAny (P := Try.prog) 2 rfl (getD8 (bs := s) (k := k) (by omega)) 0
      have H35 : Hp w [] [.blk p3 (by8 (List.replicate 32 0)) 24, .blk p9 (by8 (pX s k)) 24, .obj k22 (.stringIter (strOf s) (k + wd32))] w33 := H35
      refine GL.sem (j := 1) (hr34) [0, 2, 4, 12, 13] [(0, .string (strOf s)), (2, pt p3 0), (4, pt p9 0), (12, pt k22 0), (13, .tuple #[.bool true, .int .i64 (k : Int), .int .i32 (r31 : Int)])] (by kernel_rfl) (by kernel_rfl) rfl ?_
      refine GL.run (j := 2) 1 [0, 2, 4, 12, 13, 14] [(0, .string (strOf s)), (2, pt p3 0), (4, pt p9 0), (12, pt k22 0), (13, .tuple #[.bool true, .int .i64 (k : Int), .int .i32 (r31 : Int)]), (14, .bool true)] (by kernel_rfl) rfl ?_
      refine GL.k rfl hK30 (fun _ _ h => h) ?_
      refine G.seqK fun K37 hK38 => ?_
      refine G.yes rfl ?_
      refine G.skipK hK38 (fun _ _ h => h) ?_
      refine G.block ?_
      refine G.seqK fun K39 hK40 => ?_
      refine G.region ?_
      refine GL.run (j := 2) 2 [0, 2, 4, 5, 12] [(0, .string (strOf s)), (2, pt p3 0), (4, pt p9 0), (5, .int .i64 (k : Int)), (12, pt k22 0)] (by kernel_rfl) rfl ?_
      refine GL.k rfl hK40 (fun _ _ h => h) ?_
      refine G.seqK fun K41 hK42 => ?_
      refine G.region ?_
      refine GL.run (j := 2) 2 [0, 2, 4, 5, 12, 16, 17] [(0, .string (strOf s)), (2, pt p3 0), (4, pt p9 0), (5, .int .i64 (k : Int)), (12, pt k22 0), (16, .string (strOf s)), (17, .int .i64 (k : Int))] (by kernel_rfl) rfl ?_
      refine GL.sem (j := 3) (run_strIdx (P := Try.prog) (k := .i64) (t := 9) (s := s) (i := k) (by kernel_rfl) (getD8 (by omega)) _) [0, 2, 4, 5, 12, 18] [(0, .string (strOf s)), (2, pt p3 0), (4, pt p9 0), (5, .int .i64 (k : Int)), (12, pt k22 0), (18, .int .u8 (((s.getD k 0)).toNat : Int))] (by kernel_rfl) (by kernel_rfl) rfl ?_
      refine GL.call (j := 4) (Index1_calls ((s.getD k 0)) w33) (by kernel_rfl) rfl (fun e_ w43 hR => ?_)
      obtain ⟨rfl, H45⟩ := hR
      have H44 : Hp w [] [.blk p3 (by8 (List.replicate 32 0)) 24, .blk p9 (by8 (pX s k)) 24, .obj k22 (.stringIter (strOf s) (k + wd32))] w43 := H35.callNil H45
      refine ⟨_, rfl, [0, 2, 4, 5, 12, 19], [(0, .string (strOf s)), (2, pt p3 0), (4, pt p9 0), (5, .int .i64 (k : Int)), (12, pt k22 0), (19, .int .i64 (hexZ ((s.getD k 0))))], by kernel_rfl, ?_⟩
      refine GL.run (j := 5) 1 [0, 2, 4, 5, 6, 12] [(0, .string (strOf s)), (2, pt p3 0), (4, pt p9 0), (5, .int .i64 (k : Int)), (6, .int .i64 (hexZ ((s.getD k 0)))), (12, pt k22 0)] (by kernel_rfl) rfl ?_
      refine GL.k rfl hK42 (fun _ _ h => h) ?_
      refine G.seqK fun K46 hK47 => ?_
      refine G.seqK fun K48 hK49 => ?_
      refine G.region ?_
      refine GL.run (j := 2) 2 [0, 2, 4, 5, 6, 12, 21] [(0, .string (strOf s)), (2, pt p3 0), (4, pt p9 0), (5, .int .i64 (k : Int)), (6, .int .i64 (hexZ ((s.getD k 0)))), (12, pt k22 0), (21, .bool (decide ((hexZ ((s.getD k 0))) < 0)))] (by kernel_rfl) rfl ?_
      refine GL.k rfl hK49 (fun _ _ h => h) ?_
      cases hb50 : (decide ((hexZ ((s.getD k 0))) < 0))
      · skip
        have hb50f := of_decide_eq_false hb50
        have hok := hexZ_pos (c := s.getD k 0) (by omega)
        have hdl := hexD_lt hok.1
        refine G.eq (M' := [(0, .string (strOf s)), (2, pt p3 0), (4, pt p9 0), (5, .int .i64 (k : Int)), (6, .int .i64 (((hexD (s.getD k 0)) : Nat) : Int)), (12, pt k22 0), (21, .bool false)]) (by rw [hok.2]) ?_
        refine G.no rfl ?_
        refine G.skipK hK47 (fun _ _ h => h) ?_
        refine G.region ?_
        refine GL.run (j := 4) 4 [0, 2, 4, 6, 12, 24, 26] [(0, .string (strOf s)), (2, pt p3 0), (4, pt p9 0), (6, .int .i64 (((hexD (s.getD k 0)) : Nat) : Int)), (12, pt k22 0), (24, .int .i64 (IntKind.i64.wrap (Int.tdiv (k : Int) 2))), (26, .int .i64 (IntKind.i64.wrap (Int.tdiv (k : Int) 2)))] (by kernel_rfl) rfl ?_
        have e51 : (IntKind.i64.wrap (Int.tdiv (k : Int) 2)) = (((k / 2) : Nat) : Int) := i_quo 2 (by omega)
        refine GL.eq (M' := [(0, .string (strOf s)), (2, pt p3 0), (4, pt p9 0), (6, .int .i64 (((hexD (s.getD k 0)) : Nat) : Int)), (12, pt k22 0), (24, .int .i64 (((k / 2) : Nat) : Int)), (26, .int .i64 (((k / 2) : Nat) : Int))]) (by rw [e51]) ?_
        clear e51
        refine GL.sem (j := 5) (run_idxArr (P := Try.prog) (k := .i64) (t := 24) (len := 32) (sz := 1) (b := p9) (o := 0) (j := (k / 2)) (by kernel_rfl) rfl (by omega)) [0, 2, 4, 6, 12, 24, 27] [(0, .string (strOf s)), (2, pt p3 0), (4, pt p9 0), (6, .int .i64 (((hexD (s.getD k 0)) : Nat) : Int)), (12, pt k22 0), (24, .int .i64 (((k / 2) : Nat) : Int)), (27, pt p9 (0 + (k / 2) * 1))] (by kernel_rfl) (by kernel_rfl) rfl ?_
        refine GL.sem (j := 6) (H44.ld (o := (0 + (k / 2) * 1)) (ty := 5) (v := .int .u8 ((((pX s k).getD (k / 2) 0)).toNat : Int)) 1 rfl (by kernel_rfl) (by rw [show (0 + (k / 2) * 1) = (k / 2) by omega]; exact by8_at (getD8 (by rw [pX_length]; omega)))) [0, 2, 4, 6, 12, 24, 28] [(0, .string (strOf s)), (2, pt p3 0), (4, pt p9 0), (6, .int .i64 (((hexD (s.getD k 0)) : Nat) : Int)), (12, pt k22 0), (24, .int .i64 (((k / 2) : Nat) : Int)), (28, .int .u8 ((((pX s k).getD (k / 2) 0)).toNat : Int))] (by kernel_rfl) (by kernel_rfl) rfl ?_
        refine GL.run (j := 10) 4 [0, 2, 4, 12, 24, 32] [(0, .string (strOf s)), (2, pt p3 0), (4, pt p9 0), (12, pt k22 0), (24, .int .i64 (((k / 2) : Nat) : Int)), (32, .int .u8 (Go.bits .or .u8 (IntKind.u8.wrap (((((pX s k).getD (k / 2) 0)).toNat : Int) * 2 ^ 4)) (IntKind.u8.wrap (((hexD (s.getD k 0)) : Nat) : Int))))] (by kernel_rfl) rfl ?_
        have e52 : (IntKind.u8.wrap (((((pX s k).getD (k / 2) 0)).toNat : Int) * 2 ^ 4)) = ((((((pX s k).getD (k / 2) 0)).toNat * 16 % 256) : Nat) : Int) := u8_mul16 _
        have e53 : (IntKind.u8.wrap (((hexD (s.getD k 0)) : Nat) : Int)) = (((hexD (s.getD k 0)) : Nat) : Int) := in_u8 (by omega)
        have e54 : (Go.bits .or .u8 ((((((pX s k).getD (k / 2) 0)).toNat * 16 % 256) : Nat) : Int) (((hexD (s.getD k 0)) : Nat) : Int)) = (((nib (((pX s k).getD (k / 2) 0)) (hexD (s.getD k 0))).toNat : Nat) : Int) := u8_or16 hdl
        refine GL.eq (M' := [(0, .string (strOf s)), (2, pt p3 0), (4, pt p9 0), (12, pt k22 0), (24, .int .i64 (((k / 2) : Nat) : Int)), (32, .int .u8 (((nib (((pX s k).getD (k / 2) 0)) (hexD (s.getD k 0))).toNat : Nat) : Int))]) (by rw [e52, e53, e54]) ?_
        clear e52 e53 e54
        refine GL.sem (j := 11) (run_idxArr (P := Try.prog) (k := .i64) (t := 24) (len := 32) (sz := 1) (b := p9) (o := 0) (j := (k / 2)) (by kernel_rfl) rfl (by omega)) [0, 2, 4, 12, 32, 33] [(0, .string (strOf s)), (2, pt p3 0), (4, pt p9 0), (12, pt k22 0), (32, .int .u8 (((nib (((pX s k).getD (k / 2) 0)) (hexD (s.getD k 0))).toNat : Nat) : Int)), (33, pt p9 (0 + (k / 2) * 1))] (by kernel_rfl) (by kernel_rfl) rfl ?_
        obtain ⟨w55, r56, H57⟩ := H44.st (P := Try.prog) (o := (0 + (k / 2) * 1)) (ty := 5) (v := .int .u8 (((nib (((pX s k).getD (k / 2) 0)) (hexD (s.getD k 0))).toNat : Nat) : Int)) 1 rfl (by kernel_rfl) (by rw [by8_length, pX_length]; omega) rfl
        rw [show (0 + (k / 2) * 1) = (k / 2) by omega, by8_set] at H57
        have H57 : Hp w [] [.blk p3 (by8 (List.replicate 32 0)) 24, .blk p9 (by8 (List.set (pX s k) (k / 2) (nib (((pX s k).getD (k / 2) 0)) (hexD (s.getD k 0))))) 24, .obj k22 (.stringIter (strOf s) (k + wd32))] w55 := H57
        refine GL.semU (j := 12) r56 [0, 2, 4, 12] [(0, .string (strOf s)), (2, pt p3 0), (4, pt p9 0), (12, pt k22 0)] (by kernel_rfl) rfl rfl rfl ?_
        have hwd : wd32 = 1 := h36 (hex_ascii hok.1)
        rw [hwd] at H57
        have H58 : Hp w [] [.blk p3 (by8 (List.replicate 32 0)) 24, .blk p9 (by8 (pX s (k + 1))) 24, .obj k22 (.stringIter (strOf s) (k + 1))] w55 := by rw [pX]; exact H57
        exact GL.againB (k + 1) [0, 2, 4, 12] rfl (by kernel_rfl) (by show 64 - (k + 1) < 64 - k; omega) ⟨⟨by omega, all_step (by omega) hal hok.1⟩, H58⟩
      · skip
        have hb50f := of_decide_eq_true hb50
        have hno := okT_no (s := s) (.inr ⟨k, by omega, hexZ_neg (by omega)⟩)
        refine G.yes rfl ?_
        refine G.seqK fun K59 hK60 => ?_
        refine G.region ?_
        refine GL.run (j := 1) 1 [2, 22] [(2, pt p3 0), (22, .agg (by8 (List.replicate 32 0)).toArray)] (by kernel_rfl) rfl ?_
        obtain ⟨w61, r62, H63⟩ := H44.stA (P := Try.prog) (o := 0) (vs := by8 (List.replicate 32 0)) (ty := 24) (m := 32) 0 rfl (by kernel_rfl) (by rw [by8_length, List.length_replicate]) (Nat.le_of_eq (by rw [Nat.zero_add]; exact ((show (by8 (List.replicate 32 0)).length = 32 from by rw [by8_length]; rfl)).symm)) (by8_one _)
        rw [st_whole (by rw [by8_length]; rfl)] at H63
        have H63 : Hp w [] [.blk p3 (by8 (List.replicate 32 0)) 24, .blk p9 (by8 (pX s k)) 24, .obj k22 (.stringIter (strOf s) (k + wd32))] w61 := H63
        refine GL.semU (j := 2) r62 [2] [(2, pt p3 0)] (by kernel_rfl) rfl rfl rfl ?_
        refine GL.run (j := 3) 1 [2, 3] [(2, pt p3 0), (3, .int .i64 2)] (by kernel_rfl) rfl ?_
        refine GL.k rfl hK60 (fun _ _ h => h) ?_
        refine G.ret ?_
        intro F_ hF_ hM_
        refine hRet _ _ (bodyPost_2 rfl (RV.cell rfl (H63.ldA (o := 0) (ty := 24) (m := 32) (sub := by8 (List.replicate 32 0)) 0 rfl (by kernel_rfl) (sub_whole (by rw [by8_length, List.length_replicate])) (by rw [by8_length, List.length_replicate]))) (RV.tmp rfl) ?_ F_ hF_ hM_)
        obtain ⟨e1, e2⟩ := par_no hno
        rw [e1, e2]
        exact ⟨rfl, H63.sub (List.nil_sublist _)⟩
    · skip
      refine G.seqK fun K64 hK65 => ?_
      refine G.region ?_
      refine GL.sem (j := 1) (H28.strEnd (P := Try.prog) 2 rfl (by omega) 0) [0, 2, 4, 12, 13] [(0, .string (strOf s)), (2, pt p3 0), (4, pt p9 0), (12, pt k22 0), (13, .tuple #[.bool false])] (by kernel_rfl) (by kernel_rfl) rfl ?_
      refine GL.run (j := 2) 1 [0, 2, 4, 12, 13, 14] [(0, .string (strOf s)), (2, pt p3 0), (4, pt p9 0), (12, pt k22 0), (13, .tuple #[.bool false]), (14, .bool false)] (by kernel_rfl) rfl ?_
      refine GL.k rfl hK65 (fun _ _ h => h) ?_
      refine G.seqK fun K66 hK67 => ?_
      refine G.no rfl ?_
      refine G.exitK hK19 (fun _ _ h => h) ?_
      refine G.seqK fun K68 hK69 => ?_
      refine G.region ?_
      refine GL.run (j := 1) 1 [2, 4, 34] [(2, pt p3 0), (4, pt p9 0), (34, .slice (some ⟨p9, 0, none⟩) 32 32)] (by kernel_rfl) rfl ?_
      have H70 := (Hp.reorder (L' := [.blk p9 (by8 (pX s k)) 24, .blk p3 (by8 (List.replicate 32 0)) 24, .obj k22 (.stringIter (strOf s) k)]) H28 (List.Perm.trans (List.Perm.swap _ _ _) (List.Perm.refl _)))
      refine GL.call (j := 2) (Reverse_calls (ids [.blk p9 (by8 (pX s k)) 24]) p9 (pX s k) (by rw [pX_length]) w26 (Hp.startL (A := [.blk p9 (by8 (pX s k)) 24]) (B := [.blk p3 (by8 (List.replicate 32 0)) 24, .obj k22 (.stringIter (strOf s) k)]) H70)) (by kernel_rfl) rfl (fun e_ w71 hR => ?_)
      obtain ⟨rfl, H73⟩ := hR
      have H72 : Hp w [] [.blk p9 (by8 (List.reverse (pX s k))) 24, .blk p3 (by8 (List.replicate 32 0)) 24, .obj k22 (.stringIter (strOf s) k)] w71 := Hp.callL (A := [.blk p9 (by8 (pX s k)) 24]) (B := [.blk p3 (by8 (List.replicate 32 0)) 24, .obj k22 (.stringIter (strOf s) k)]) H70 H73
      refine ⟨_, rfl, [2, 4], [(2, pt p3 0), (4, pt p9 0)], by kernel_rfl, ?_⟩
      refine GL.k rfl hK69 (fun _ _ h => h) ?_
      refine G.seqK fun K74 hK75 => ?_
      refine G.region ?_
      refine GL.sem (j := 1) (H72.ldA (o := 0) (ty := 24) (m := 32) (sub := by8 (List.reverse (pX s k))) 0 rfl (by kernel_rfl) (sub_whole (by rw [by8_length, List.length_reverse, pX_length])) (by rw [by8_length, List.length_reverse, pX_length])) [2, 36] [(2, pt p3 0), (36, .agg (by8 (List.reverse (pX s k))).toArray)] (by kernel_rfl) (by kernel_rfl) rfl ?_
      obtain ⟨w76, r77, H78⟩ := H72.stA (P := Try.prog) (o := 0) (vs := by8 (List.reverse (pX s k))) (ty := 24) (m := 32) 1 rfl (by kernel_rfl) (by rw [by8_length, List.length_reverse, pX_length]) (Nat.le_of_eq (by rw [Nat.zero_add]; exact ((show (by8 (List.replicate 32 0)).length = 32 from by rw [by8_length]; rfl)).symm)) (by8_one _)
      rw [st_whole (by rw [by8_length]; rfl)] at H78
      have H78 : Hp w [] [.blk p9 (by8 (List.reverse (pX s k))) 24, .blk p3 (by8 (List.reverse (pX s k))) 24, .obj k22 (.stringIter (strOf s) k)] w76 := H78
      refine GL.semU (j := 2) r77 [2] [(2, pt p3 0)] (by kernel_rfl) rfl rfl rfl ?_
      refine GL.run (j := 3) 1 [2, 3] [(2, pt p3 0), (3, .int .i64 0)] (by kernel_rfl) rfl ?_
      refine GL.k rfl hK75 (fun _ _ h => h) ?_
      refine G.ret ?_
      intro F_ hF_ hM_
      refine hRet _ _ (bodyPost_2 rfl (RV.cell rfl (H78.ldA (o := 0) (ty := 24) (m := 32) (sub := by8 (List.reverse (pX s k))) 1 rfl (by kernel_rfl) (sub_whole (by rw [by8_length, List.length_reverse, pX_length])) (by rw [by8_length, List.length_reverse, pX_length]))) (RV.tmp rfl) ?_ F_ hF_ hM_)
      rw [show k = 64 by omega] at hal
      obtain ⟨_, e1, e2⟩ := par_yes hs64 (by rw [List.take_of_length_le (by omega)] at hal; exact hal)
      rw [e1, e2, show 64 = k by omega]
      exact ⟨rfl, H78.sub (List.nil_sublist _)⟩
  · skip
    have hb17f : ((strOf s).size : Int) ≠ 64 := bne_iff_ne.1 hb17
    have hno := okT_no (s := s) (.inl (by omega))
    refine G.yes rfl ?_
    refine G.seqK fun K79 hK80 => ?_
    refine G.region ?_
    refine GL.run (j := 1) 1 [2, 10] [(2, pt p3 0), (10, .agg (by8 (List.replicate 32 0)).toArray)] (by kernel_rfl) rfl ?_
    obtain ⟨w81, r82, H83⟩ := H12.stA (P := Try.prog) (o := 0) (vs := by8 (List.replicate 32 0)) (ty := 24) (m := 32) 0 rfl (by kernel_rfl) (by rw [by8_length, List.length_replicate]) (Nat.le_of_eq (by rw [Nat.zero_add]; exact ((show (by8 (List.replicate 32 0)).length = 32 from by rw [by8_length]; rfl)).symm)) (by8_one _)
    rw [st_whole (by rw [by8_length]; rfl)] at H83
    have H83 : Hp w [] [.blk p3 (by8 (List.replicate 32 0)) 24, .blk p9 (by8 (List.replicate 32 0)) 24] w81 := H83
    refine GL.semU (j := 2) r82 [2] [(2, pt p3 0)] (by kernel_rfl) rfl rfl rfl ?_
    refine GL.run (j := 3) 1 [2, 3] [(2, pt p3 0), (3, .int .i64 2)] (by kernel_rfl) rfl ?_
    refine GL.k rfl hK80 (fun _ _ h => h) ?_
    refine G.ret ?_
    intro F_ hF_ hM_
    refine hRet _ _ (bodyPost_2 rfl (RV.cell rfl (H83.ldA (o := 0) (ty := 24) (m := 32) (sub := by8 (List.replicate 32 0)) 0 rfl (by kernel_rfl) (sub_whole (by rw [by8_length, List.length_replicate])) (by rw [by8_length, List.length_replicate]))) (RV.tmp rfl) ?_ F_ hF_ hM_)
    obtain ⟨e1, e2⟩ := par_no hno
    rw [e1, e2]
    exact ⟨rfl, H83.sub (List.nil_sublist _)⟩
end Go.Proofs.Ytdepaaphgfapjaa
