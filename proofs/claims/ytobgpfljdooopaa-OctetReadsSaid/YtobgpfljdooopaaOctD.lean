/- The document's numbers and counts. -/
import Derived.Test.YtobgpfljdooopaaOctWc
namespace Go.Proofs.Ytobgpfljdooopaa
open Go.RowKit
theorem n_byte256 (x : Nat) : IntKind.u8.wrap ((x % 256 : Nat) : Int) = (((UInt8.ofNat x).toNat : Nat) : Int) := by rw [IntKind.wrap_u8, u8_ofNat]; omega
theorem RPut_calls (x n : Nat) (hx : x < K) (hn : n ≤ 1000) (w : World) : Calls Try.prog 21 #[.int .u64 (x : Int), .int .i64 (n : Int)] w fun e w' => ∃ A c, e = .returned (.slice A n c) ∧ Hp w [] [.row A n c 5 1 (by8 (putB x n))] w' := by
  refine calls_G (args := [.int .u64 (x : Int), .int .i64 (n : Int)]) Try.func21 rfl Try.ntmps21 rfl ?_
  intro Q0 hRet hNor hPan
  have H := Hp.start w
  have H : Hp w [] [] w := H
  refine G.seqK fun K1 hK2 => ?_
  refine G.region ?_
  refine GL.run (j := 1) 1 [0, 1] [(0, .int .u64 (x : Int)), (1, .int .i64 (n : Int))] (by kernel_rfl) rfl ?_
  refine GL.k rfl hK2 (fun _ _ h => h) ?_
  refine G.seqK fun K3 hK4 => ?_
  refine G.region ?_
  obtain ⟨p5, w6, r7, H8⟩ := H.madeRow (P := Try.prog) (Instr.buildSlice 22 0 #[]) (fun b_ => .slice (some ⟨b_, 0, none⟩) 0 0) [] 5 0 0 1 (by kernel_rfl) (by decide) (by decide) rfl
  have H8 : Hp w [] [.row (some ⟨p5, 0, none⟩) 0 0 5 1 (by8 ([] : List UInt8))] w6 := H8
  refine GL.sem (j := 1) (r7) [0, 1, 7] [(0, .int .u64 (x : Int)), (1, .int .i64 (n : Int)), (7, .slice (some ⟨p5, 0, none⟩) 0 0)] (by kernel_rfl) (by kernel_rfl) rfl ?_
  refine GL.run (j := 2) 1 [0, 1, 5] [(0, .int .u64 (x : Int)), (1, .int .i64 (n : Int)), (5, .slice (some ⟨p5, 0, none⟩) 0 0)] (by kernel_rfl) rfl ?_
  refine GL.k rfl hK4 (fun _ _ h => h) ?_
  refine G.seqK fun K9 hK10 => ?_
  refine G.seqK fun K11 hK12 => ?_
  refine G.region ?_
  refine GL.run (j := 1) 1 [0, 1, 5, 6] [(0, .int .u64 (x : Int)), (1, .int .i64 (n : Int)), (5, .slice (some ⟨p5, 0, none⟩) 0 0), (6, .int .i64 0)] (by kernel_rfl) rfl ?_
  refine GL.k rfl hK12 (fun _ _ h => h) ?_
  refine G.block ?_
  refine G.fit [0, 1, 5, 6] (M' := [(0, .int .u64 (x : Int)), (1, .int .i64 (n : Int)), (5, .slice (some ⟨p5, 0, none⟩) 0 0), (6, .int .i64 0)]) (by kernel_rfl) ?_
  refine G.eq (M' := [(0, .int .u64 ((x / 256 ^ 0 : Nat) : Int)), (1, .int .i64 (n : Int)), (5, .slice (some ⟨p5, 0, none⟩) 0 0), (6, .int .i64 0)]) (by simp only [Nat.pow_zero, Nat.div_one]) ?_
  refine G.loop (X := Nat × Option Addr × Nat) (fun ⟨i, B_, b_⟩ => [(0, .int .u64 ((x / 256 ^ i : Nat) : Int)), (1, .int .i64 (n : Int)), (5, .slice B_ i b_), (6, .int .i64 (i : Int))]) (fun ⟨i, B_, b_⟩ w_ => (i ≤ n) ∧ Hp w [] [.row B_ i b_ 5 1 (by8 (putB x i))] w_) (fun ⟨i, B_, b_⟩ => n - i) ⟨0, (some ⟨p5, 0, none⟩), 0⟩ [0, 1, 5, 6] (by kernel_rfl) ⟨Nat.zero_le _, H8⟩ ?_
  rintro ⟨i, B_, b_⟩ w13 ⟨hi14, H15⟩
  refine G.eq (M' := [(0, .int .u64 ((x / 256 ^ i : Nat) : Int)), (1, .int .i64 (n : Int)), (5, .slice B_ i b_), (6, .int .i64 (i : Int))]) rfl ?_
  have H15 : Hp w [] [.row B_ i b_ 5 1 (by8 (putB x i))] w13 := H15
  have hi9 := hi14
  refine G.seqK fun K16 hK17 => ?_
  refine G.seqK fun K18 hK19 => ?_
  refine G.region ?_
  refine GL.run (j := 3) 3 [0, 1, 5, 6, 10] [(0, .int .u64 ((x / 256 ^ i : Nat) : Int)), (1, .int .i64 (n : Int)), (5, .slice B_ i b_), (6, .int .i64 (i : Int)), (10, .bool (decide ((i : Int) < (n : Int))))] (by kernel_rfl) rfl ?_
  refine GL.k rfl hK19 (fun _ _ h => h) ?_
  cases hb20 : (decide ((i : Int) < (n : Int)))
  · skip
    have hb20f := of_decide_eq_false hb20
    refine G.no rfl ?_
    refine G.exitK hK10 (fun _ _ h => h) ?_
    refine G.seqK fun K21 hK22 => ?_
    refine G.region ?_
    refine GL.run (j := 2) 2 [4] [(4, .slice B_ i b_)] (by kernel_rfl) rfl ?_
    refine GL.k rfl hK22 (fun _ _ h => h) ?_
    refine G.ret ?_
    intro F_ hF_ hM_
    refine hRet _ _ (bodyPost_1 rfl (RV.tmp rfl) ?_ F_ hF_ hM_)
    have HF := H15
    rw [show i = n by omega] at HF
    rw [show i = n by omega]
    exact ⟨_, _, rfl, HF⟩
  · skip
    have hb20f := of_decide_eq_true hb20
    refine G.yes rfl ?_
    refine G.skipK hK17 (fun _ _ h => h) ?_
    refine G.seqK fun K23 hK24 => ?_
    refine G.block ?_
    refine G.seqK fun K25 hK26 => ?_
    refine G.region ?_
    refine GL.run (j := 4) 4 [0, 1, 6, 13, 16] [(0, .int .u64 ((x / 256 ^ i : Nat) : Int)), (1, .int .i64 (n : Int)), (6, .int .i64 (i : Int)), (13, .slice B_ i b_), (16, .int .u8 (IntKind.u8.wrap (Int.tmod ((x / 256 ^ i : Nat) : Int) 256)))] (by kernel_rfl) rfl ?_
    have e27 : (Int.tmod ((x / 256 ^ i : Nat) : Int) 256) = (((x / 256 ^ i) % 256 : Nat) : Int) := n_rem _ 256
    have e28 : (IntKind.u8.wrap (((x / 256 ^ i) % 256 : Nat) : Int)) = ((UInt8.ofNat (x / 256 ^ i)).toNat : Int) := n_byte256 _
    refine GL.eq (M' := [(0, .int .u64 ((x / 256 ^ i : Nat) : Int)), (1, .int .i64 (n : Int)), (6, .int .i64 (i : Int)), (13, .slice B_ i b_), (16, .int .u8 ((UInt8.ofNat (x / 256 ^ i)).toNat : Int))]) (by rw [e27, e28]) ?_
    clear e27 e28
    obtain ⟨p29, w30, r31, H32⟩ := H15.made (P := Try.prog) (Instr.buildSlice 22 1 #[(0, .int .u8 ((UInt8.ofNat (x / 256 ^ i)).toNat : Int))]) (fun b_ => .slice (some ⟨b_, 0, none⟩) 1 1) [.int .u8 ((UInt8.ofNat (x / 256 ^ i)).toNat : Int)] 5 (by kernel_rfl)
    have H32 : Hp w [] [.row B_ i b_ 5 1 (by8 (putB x i)), .blk p29 [.int .u8 ((UInt8.ofNat (x / 256 ^ i)).toNat : Int)] 5] w30 := H32
    refine GL.sem (j := 5) (r31) [0, 1, 6, 13, 17] [(0, .int .u64 ((x / 256 ^ i : Nat) : Int)), (1, .int .i64 (n : Int)), (6, .int .i64 (i : Int)), (13, .slice B_ i b_), (17, .slice (some ⟨p29, 0, none⟩) 1 1)] (by kernel_rfl) (by kernel_rfl) rfl ?_
    obtain ⟨A33, c34, w35, r36, H37⟩ := H32.append (P := Try.prog) (e := 5) (sz := 1) (by_ := 1) (n := i) (c := b_) (m := 1) (d := 1) (t := 22) (ty := 22) (xs := by8 (putB x i)) (news := by8 ([(UInt8.ofNat (x / 256 ^ i))] : List UInt8)) 0 rfl (by kernel_rfl) (H32.rdBlk (o := 0) (xs := by8 ([(UInt8.ofNat (x / 256 ^ i))] : List UInt8)) 1 1 rfl rfl) (by first | (simp [by8_length]; done) | (rw [by8_length]; omega) | (rw [by8_length, putB_length])) (by8_one _) (by omega) (by simp only [maxLen]; omega)
    rw [← by8_append] at H37
    have H37 : Hp w [] [.row A33 (i + 1) c34 5 1 (by8 ((putB x i) ++ ([(UInt8.ofNat (x / 256 ^ i))] : List UInt8))), .blk p29 [.int .u8 ((UInt8.ofNat (x / 256 ^ i)).toNat : Int)] 5] w35 := H37
    refine GL.sem (j := 6) (r36) [0, 1, 6, 18] [(0, .int .u64 ((x / 256 ^ i : Nat) : Int)), (1, .int .i64 (n : Int)), (6, .int .i64 (i : Int)), (18, .slice A33 (i + 1) c34)] (by kernel_rfl) (by kernel_rfl) rfl ?_
    refine GL.run (j := 7) 1 [0, 1, 5, 6] [(0, .int .u64 ((x / 256 ^ i : Nat) : Int)), (1, .int .i64 (n : Int)), (5, .slice A33 (i + 1) c34), (6, .int .i64 (i : Int))] (by kernel_rfl) rfl ?_
    refine GL.k rfl hK26 (fun _ _ h => h) ?_
    refine G.region ?_
    refine GL.run (j := 3) 3 [0, 1, 5, 6] [(0, .int .u64 (IntKind.u64.wrap (Int.tdiv ((x / 256 ^ i : Nat) : Int) 256))), (1, .int .i64 (n : Int)), (5, .slice A33 (i + 1) c34), (6, .int .i64 (i : Int))] (by kernel_rfl) rfl ?_
    have e38 : (IntKind.u64.wrap (Int.tdiv ((x / 256 ^ i : Nat) : Int) 256)) = (((x / 256 ^ i) / 256 : Nat) : Int) := n_quo 256 (Nat.lt_of_le_of_lt (Nat.div_le_self _ _) hx)
    refine GL.eq (M' := [(0, .int .u64 (((x / 256 ^ i) / 256 : Nat) : Int)), (1, .int .i64 (n : Int)), (5, .slice A33 (i + 1) c34), (6, .int .i64 (i : Int))]) (by rw [e38]) ?_
    clear e38
    refine GL.k rfl hK24 (fun _ _ h => h) ?_
    refine G.region ?_
    refine GL.run (j := 3) 3 [0, 1, 5, 6] [(0, .int .u64 (((x / 256 ^ i) / 256 : Nat) : Int)), (1, .int .i64 (n : Int)), (5, .slice A33 (i + 1) c34), (6, .int .i64 (IntKind.i64.wrap ((i : Int) + 1)))] (by kernel_rfl) rfl ?_
    have e39 : (IntKind.i64.wrap ((i : Int) + 1)) = ((i + 1 : Nat) : Int) := by rw [in_i64 (by omega)]; omega
    refine GL.eq (M' := [(0, .int .u64 (((x / 256 ^ i) / 256 : Nat) : Int)), (1, .int .i64 (n : Int)), (5, .slice A33 (i + 1) c34), (6, .int .i64 ((i + 1 : Nat) : Int))]) (by rw [e39]) ?_
    clear e39
    have H40 : Hp w [] [.row A33 (i + 1) c34 5 1 (by8 ((putB x i) ++ ([(UInt8.ofNat (x / 256 ^ i))] : List UInt8)))] w35 := H37.sub (List.Sublist.cons_cons _ (List.Sublist.cons _ (List.Sublist.slnil)))
    have H41 : Hp w [] [.row A33 (i + 1) c34 5 1 (by8 (putB x (i + 1)))] w35 := by rw [putB_snoc]; exact H40
    refine GL.fit (ts := [0, 1, 5, 6]) (M' := [(0, .int .u64 (((x / 256 ^ i) / 256 : Nat) : Int)), (1, .int .i64 (n : Int)), (5, .slice A33 (i + 1) c34), (6, .int .i64 ((i + 1 : Nat) : Int))]) (by kernel_rfl) ?_
    refine GL.eq (M' := [(0, .int .u64 ((x / 256 ^ (i + 1) : Nat) : Int)), (1, .int .i64 (n : Int)), (5, .slice A33 (i + 1) c34), (6, .int .i64 (((i + 1) : Nat) : Int))]) (by rw [Nat.pow_succ, ← Nat.div_div_eq_div_mul]) ?_
    exact GL.again ⟨(i + 1), A33, c34⟩ [0, 1, 5, 6] rfl (by kernel_rfl) (by show n - (i + 1) < n - i; omega) ⟨by omega, H41⟩
theorem RCnt_calls (x : Nat) (hx : x < K) (w : World) : Calls Try.prog 23 #[.int .u64 (x : Int)] w fun e w' => ∃ A c, e = .returned (.slice A (cntSz x) c) ∧ Hp w [] [.row A (cntSz x) c 5 1 (by8 (cnt x))] w' := by
  refine calls_G (args := [.int .u64 (x : Int)]) Try.func23 rfl Try.ntmps23 rfl ?_
  intro Q0 hRet hNor hPan
  have H := Hp.start w
  have H : Hp w [] [] w := H
  refine G.seqK fun K1 hK2 => ?_
  refine G.region ?_
  refine GL.run (j := 1) 1 [0] [(0, .int .u64 (x : Int))] (by kernel_rfl) rfl ?_
  refine GL.k rfl hK2 (fun _ _ h => h) ?_
  refine G.seqK fun K3 hK4 => ?_
  refine G.seqK fun K5 hK6 => ?_
  refine G.region ?_
  refine GL.run (j := 2) 2 [0, 4] [(0, .int .u64 (x : Int)), (4, .bool (decide ((x : Int) < 253)))] (by kernel_rfl) rfl ?_
  refine GL.k rfl hK6 (fun _ _ h => h) ?_
  cases hb7 : (decide ((x : Int) < 253))
  · skip
    have hb7f := of_decide_eq_false hb7
    refine G.no rfl ?_
    refine G.skipK hK4 (fun _ _ h => h) ?_
    refine G.seqK fun K8 hK9 => ?_
    refine G.seqK fun K10 hK11 => ?_
    refine G.region ?_
    refine GL.run (j := 2) 2 [0, 9] [(0, .int .u64 (x : Int)), (9, .bool (decide ((x : Int) < 65536)))] (by kernel_rfl) rfl ?_
    refine GL.k rfl hK11 (fun _ _ h => h) ?_
    cases hb12 : (decide ((x : Int) < 65536))
    · skip
      have hb12f := of_decide_eq_false hb12
      refine G.no rfl ?_
      refine G.skipK hK9 (fun _ _ h => h) ?_
      refine G.seqK fun K13 hK14 => ?_
      refine G.seqK fun K15 hK16 => ?_
      refine G.region ?_
      refine GL.run (j := 2) 2 [0, 15] [(0, .int .u64 (x : Int)), (15, .bool (decide ((x : Int) < 4294967296)))] (by kernel_rfl) rfl ?_
      refine GL.k rfl hK16 (fun _ _ h => h) ?_
      cases hb17 : (decide ((x : Int) < 4294967296))
      · skip
        have hb17f := of_decide_eq_false hb17
        refine G.no rfl ?_
        refine G.skipK hK14 (fun _ _ h => h) ?_
        refine G.seqK fun K18 hK19 => ?_
        refine G.region ?_
        obtain ⟨p20, w21, r22, H23⟩ := H.madeRow (P := Try.prog) (Instr.buildSlice 22 1 #[(0, .int .u8 255)]) (fun b_ => .slice (some ⟨b_, 0, none⟩) 1 1) [.int .u8 255] 5 1 1 1 (by kernel_rfl) (by decide) (by decide) rfl
        have H23 : Hp w [] [.row (some ⟨p20, 0, none⟩) 1 1 5 1 (by8 ([255] : List UInt8))] w21 := H23
        refine GL.sem (j := 1) (r22) [0, 20] [(0, .int .u64 (x : Int)), (20, .slice (some ⟨p20, 0, none⟩) 1 1)] (by kernel_rfl) (by kernel_rfl) rfl ?_
        refine GL.run (j := 2) 1 [20, 21] [(20, .slice (some ⟨p20, 0, none⟩) 1 1), (21, .int .u64 (x : Int))] (by kernel_rfl) rfl ?_
        refine GL.call (j := 3) (RPut_calls x 8 hx (by omega) w21) (by kernel_rfl) rfl (fun e_ w28 hR => ?_)
        obtain ⟨A24, c25, rfl, H27⟩ := hR
        have H26 : Hp w [] [.row (some ⟨p20, 0, none⟩) 1 1 5 1 (by8 ([255] : List UInt8)), .row A24 8 c25 5 1 (by8 (putB x 8))] w28 := H23.callNew H27
        refine ⟨_, rfl, [20, 22], [(20, .slice (some ⟨p20, 0, none⟩) 1 1), (22, .slice A24 8 c25)], by kernel_rfl, ?_⟩
        obtain ⟨A29, c30, w31, r32, H33⟩ := H26.append (P := Try.prog) (e := 5) (sz := 1) (by_ := 1) (n := 1) (c := 1) (m := 8) (d := c25) (t := 22) (ty := 22) (xs := by8 ([255] : List UInt8)) (news := by8 (putB x 8)) 0 rfl (by kernel_rfl) (H26.rdRow 1 rfl) (by first | (simp [by8_length]; done) | (rw [by8_length]; omega) | (rw [by8_length, putB_length])) (by8_one _) (by omega) (by simp only [maxLen]; omega)
        rw [← by8_append] at H33
        have H33 : Hp w [] [.row A29 9 c30 5 1 (by8 (([255] : List UInt8) ++ (putB x 8))), .row A24 8 c25 5 1 (by8 (putB x 8))] w31 := H33
        refine GL.sem (j := 4) (r32) [23] [(23, .slice A29 9 c30)] (by kernel_rfl) (by kernel_rfl) rfl ?_
        refine GL.run (j := 5) 1 [2] [(2, .slice A29 9 c30)] (by kernel_rfl) rfl ?_
        refine GL.k rfl hK19 (fun _ _ h => h) ?_
        refine G.ret ?_
        intro F_ hF_ hM_
        refine hRet _ _ (bodyPost_1 rfl (RV.tmp rfl) ?_ F_ hF_ hM_)
        have H34 : Hp w [] [.row A29 9 c30 5 1 (by8 (([255] : List UInt8) ++ (putB x 8)))] w31 := H33.sub (List.Sublist.cons_cons _ (List.Sublist.cons _ (List.Sublist.slnil)))
        have e0 : cntSz x = 9 ∧ cnt x = putB 255 1 ++ putB x 8 := by rcases cnt_cases x with ⟨_, a, b⟩ | ⟨_, _, a, b⟩ | ⟨_, _, a, b⟩ | ⟨_, a, b⟩ <;> first | exact ⟨a, b⟩ | (exfalso; omega)
        rw [e0.1, e0.2]
        exact ⟨_, _, rfl, H34⟩
      · skip
        have hb17f := of_decide_eq_true hb17
        refine G.yes rfl ?_
        refine G.seqK fun K35 hK36 => ?_
        refine G.region ?_
        obtain ⟨p37, w38, r39, H40⟩ := H.madeRow (P := Try.prog) (Instr.buildSlice 22 1 #[(0, .int .u8 254)]) (fun b_ => .slice (some ⟨b_, 0, none⟩) 1 1) [.int .u8 254] 5 1 1 1 (by kernel_rfl) (by decide) (by decide) rfl
        have H40 : Hp w [] [.row (some ⟨p37, 0, none⟩) 1 1 5 1 (by8 ([254] : List UInt8))] w38 := H40
        refine GL.sem (j := 1) (r39) [0, 16] [(0, .int .u64 (x : Int)), (16, .slice (some ⟨p37, 0, none⟩) 1 1)] (by kernel_rfl) (by kernel_rfl) rfl ?_
        refine GL.run (j := 2) 1 [16, 17] [(16, .slice (some ⟨p37, 0, none⟩) 1 1), (17, .int .u64 (x : Int))] (by kernel_rfl) rfl ?_
        refine GL.call (j := 3) (RPut_calls x 4 hx (by omega) w38) (by kernel_rfl) rfl (fun e_ w45 hR => ?_)
        obtain ⟨A41, c42, rfl, H44⟩ := hR
        have H43 : Hp w [] [.row (some ⟨p37, 0, none⟩) 1 1 5 1 (by8 ([254] : List UInt8)), .row A41 4 c42 5 1 (by8 (putB x 4))] w45 := H40.callNew H44
        refine ⟨_, rfl, [16, 18], [(16, .slice (some ⟨p37, 0, none⟩) 1 1), (18, .slice A41 4 c42)], by kernel_rfl, ?_⟩
        obtain ⟨A46, c47, w48, r49, H50⟩ := H43.append (P := Try.prog) (e := 5) (sz := 1) (by_ := 1) (n := 1) (c := 1) (m := 4) (d := c42) (t := 22) (ty := 22) (xs := by8 ([254] : List UInt8)) (news := by8 (putB x 4)) 0 rfl (by kernel_rfl) (H43.rdRow 1 rfl) (by first | (simp [by8_length]; done) | (rw [by8_length]; omega) | (rw [by8_length, putB_length])) (by8_one _) (by omega) (by simp only [maxLen]; omega)
        rw [← by8_append] at H50
        have H50 : Hp w [] [.row A46 5 c47 5 1 (by8 (([254] : List UInt8) ++ (putB x 4))), .row A41 4 c42 5 1 (by8 (putB x 4))] w48 := H50
        refine GL.sem (j := 4) (r49) [19] [(19, .slice A46 5 c47)] (by kernel_rfl) (by kernel_rfl) rfl ?_
        refine GL.run (j := 5) 1 [2] [(2, .slice A46 5 c47)] (by kernel_rfl) rfl ?_
        refine GL.k rfl hK36 (fun _ _ h => h) ?_
        refine G.ret ?_
        intro F_ hF_ hM_
        refine hRet _ _ (bodyPost_1 rfl (RV.tmp rfl) ?_ F_ hF_ hM_)
        have H51 : Hp w [] [.row A46 5 c47 5 1 (by8 (([254] : List UInt8) ++ (putB x 4)))] w48 := H50.sub (List.Sublist.cons_cons _ (List.Sublist.cons _ (List.Sublist.slnil)))
        have e0 : cntSz x = 5 ∧ cnt x = putB 254 1 ++ putB x 4 := by rcases cnt_cases x with ⟨_, a, b⟩ | ⟨_, _, a, b⟩ | ⟨_, _, a, b⟩ | ⟨_, a, b⟩ <;> first | exact ⟨a, b⟩ | (exfalso; omega)
        rw [e0.1, e0.2]
        exact ⟨_, _, rfl, H51⟩
    · skip
      have hb12f := of_decide_eq_true hb12
      refine G.yes rfl ?_
      refine G.seqK fun K52 hK53 => ?_
      refine G.region ?_
      obtain ⟨p54, w55, r56, H57⟩ := H.madeRow (P := Try.prog) (Instr.buildSlice 22 1 #[(0, .int .u8 253)]) (fun b_ => .slice (some ⟨b_, 0, none⟩) 1 1) [.int .u8 253] 5 1 1 1 (by kernel_rfl) (by decide) (by decide) rfl
      have H57 : Hp w [] [.row (some ⟨p54, 0, none⟩) 1 1 5 1 (by8 ([253] : List UInt8))] w55 := H57
      refine GL.sem (j := 1) (r56) [0, 10] [(0, .int .u64 (x : Int)), (10, .slice (some ⟨p54, 0, none⟩) 1 1)] (by kernel_rfl) (by kernel_rfl) rfl ?_
      refine GL.run (j := 2) 1 [10, 11] [(10, .slice (some ⟨p54, 0, none⟩) 1 1), (11, .int .u64 (x : Int))] (by kernel_rfl) rfl ?_
      refine GL.call (j := 3) (RPut_calls x 2 hx (by omega) w55) (by kernel_rfl) rfl (fun e_ w62 hR => ?_)
      obtain ⟨A58, c59, rfl, H61⟩ := hR
      have H60 : Hp w [] [.row (some ⟨p54, 0, none⟩) 1 1 5 1 (by8 ([253] : List UInt8)), .row A58 2 c59 5 1 (by8 (putB x 2))] w62 := H57.callNew H61
      refine ⟨_, rfl, [10, 12], [(10, .slice (some ⟨p54, 0, none⟩) 1 1), (12, .slice A58 2 c59)], by kernel_rfl, ?_⟩
      obtain ⟨A63, c64, w65, r66, H67⟩ := H60.append (P := Try.prog) (e := 5) (sz := 1) (by_ := 1) (n := 1) (c := 1) (m := 2) (d := c59) (t := 22) (ty := 22) (xs := by8 ([253] : List UInt8)) (news := by8 (putB x 2)) 0 rfl (by kernel_rfl) (H60.rdRow 1 rfl) (by first | (simp [by8_length]; done) | (rw [by8_length]; omega) | (rw [by8_length, putB_length])) (by8_one _) (by omega) (by simp only [maxLen]; omega)
      rw [← by8_append] at H67
      have H67 : Hp w [] [.row A63 3 c64 5 1 (by8 (([253] : List UInt8) ++ (putB x 2))), .row A58 2 c59 5 1 (by8 (putB x 2))] w65 := H67
      refine GL.sem (j := 4) (r66) [13] [(13, .slice A63 3 c64)] (by kernel_rfl) (by kernel_rfl) rfl ?_
      refine GL.run (j := 5) 1 [2] [(2, .slice A63 3 c64)] (by kernel_rfl) rfl ?_
      refine GL.k rfl hK53 (fun _ _ h => h) ?_
      refine G.ret ?_
      intro F_ hF_ hM_
      refine hRet _ _ (bodyPost_1 rfl (RV.tmp rfl) ?_ F_ hF_ hM_)
      have H68 : Hp w [] [.row A63 3 c64 5 1 (by8 (([253] : List UInt8) ++ (putB x 2)))] w65 := H67.sub (List.Sublist.cons_cons _ (List.Sublist.cons _ (List.Sublist.slnil)))
      have e0 : cntSz x = 3 ∧ cnt x = putB 253 1 ++ putB x 2 := by rcases cnt_cases x with ⟨_, a, b⟩ | ⟨_, _, a, b⟩ | ⟨_, _, a, b⟩ | ⟨_, a, b⟩ <;> first | exact ⟨a, b⟩ | (exfalso; omega)
      rw [e0.1, e0.2]
      exact ⟨_, _, rfl, H68⟩
  · skip
    have hb7f := of_decide_eq_true hb7
    refine G.yes rfl ?_
    refine G.seqK fun K69 hK70 => ?_
    refine G.region ?_
    refine GL.run (j := 2) 2 [6] [(6, .int .u8 (IntKind.u8.wrap (x : Int)))] (by kernel_rfl) rfl ?_
    have e71 : (IntKind.u8.wrap (x : Int)) = ((UInt8.ofNat x).toNat : Int) := n_byte _
    refine GL.eq (M' := [(6, .int .u8 ((UInt8.ofNat x).toNat : Int))]) (by rw [e71]) ?_
    clear e71
    obtain ⟨p72, w73, r74, H75⟩ := H.madeRow (P := Try.prog) (Instr.buildSlice 22 1 #[(0, .int .u8 ((UInt8.ofNat x).toNat : Int))]) (fun b_ => .slice (some ⟨b_, 0, none⟩) 1 1) [.int .u8 ((UInt8.ofNat x).toNat : Int)] 5 1 1 1 (by kernel_rfl) (by decide) (by decide) rfl
    have H75 : Hp w [] [.row (some ⟨p72, 0, none⟩) 1 1 5 1 (by8 ([(UInt8.ofNat x)] : List UInt8))] w73 := H75
    refine GL.sem (j := 3) (r74) [7] [(7, .slice (some ⟨p72, 0, none⟩) 1 1)] (by kernel_rfl) (by kernel_rfl) rfl ?_
    refine GL.run (j := 4) 1 [2] [(2, .slice (some ⟨p72, 0, none⟩) 1 1)] (by kernel_rfl) rfl ?_
    refine GL.k rfl hK70 (fun _ _ h => h) ?_
    refine G.ret ?_
    intro F_ hF_ hM_
    refine hRet _ _ (bodyPost_1 rfl (RV.tmp rfl) ?_ F_ hF_ hM_)
    have e0 : cntSz x = 1 ∧ cnt x = putB x 1 := by rcases cnt_cases x with ⟨_, a, b⟩ | ⟨_, _, a, b⟩ | ⟨_, _, a, b⟩ | ⟨_, a, b⟩ <;> first | exact ⟨a, b⟩ | (exfalso; omega)
    rw [e0.1, e0.2]
    exact ⟨_, _, rfl, H75⟩
theorem RGet_calls (bs : List UInt8) (A : Option Addr) (n c : Nat) (w : World) (hx : RdS w A (by8 bs)) (hn : n = bs.length) (hb : n ≤ 8) : Calls Try.prog 10 #[.slice A n c] w fun e w' => e = .returned (.int .u64 ((getB bs : Nat) : Int)) ∧ Hp w [] [] w' := by
  have hMX : MX = 4611686018427387904 := rfl
  have hK0 : K = 18446744073709551616 := rfl
  have hK40 : K4 = 115792089237316195423570985008687907853269984665640564039457584007913129639936 := rfl
  refine calls_G (args := [.slice A n c]) Try.func10 rfl Try.ntmps10 rfl ?_
  intro Q0 hRet hNor hPan
  have H := Hp.start w
  have H : Hp w [] [] w := H
  refine G.seqK fun K1 hK2 => ?_
  refine G.region ?_
  refine GL.run (j := 1) 1 [0] [(0, .slice A n c)] (by kernel_rfl) rfl ?_
  refine GL.k rfl hK2 (fun _ _ h => h) ?_
  refine G.seqK fun K3 hK4 => ?_
  refine G.region ?_
  refine GL.run (j := 1) 1 [0, 3] [(0, .slice A n c), (3, .int .u64 0)] (by kernel_rfl) rfl ?_
  refine GL.k rfl hK4 (fun _ _ h => h) ?_
  refine G.seqK fun K5 hK6 => ?_
  refine G.seqK fun K7 hK8 => ?_
  refine G.region ?_
  refine GL.run (j := 4) 4 [0, 3, 4] [(0, .slice A n c), (3, .int .u64 0), (4, .int .i64 (IntKind.i64.wrap ((n : Int) - 1)))] (by kernel_rfl) rfl ?_
  have e9 : (IntKind.i64.wrap ((n : Int) - 1)) = (((n : Nat) : Int) - 1) := in_i64 (by omega)
  refine GL.eq (M' := [(0, .slice A n c), (3, .int .u64 0), (4, .int .i64 (((n : Nat) : Int) - 1))]) (by rw [e9]) ?_
  clear e9
  refine GL.k rfl hK8 (fun _ _ h => h) ?_
  refine G.block ?_
  refine G.fit [0, 3, 4] (M' := [(0, .slice A n c), (3, .int .u64 0), (4, .int .i64 (((n : Nat) : Int) - 1))]) (by kernel_rfl) ?_
  refine G.loop (X := Nat × Nat) (fun ⟨m, s⟩ => [(0, .slice A n c), (3, .int .u64 (s : Int)), (4, .int .i64 (((m : Nat) : Int) - 1))]) (fun ⟨m, s⟩ w_ => (m ≤ n ∧ s = getB (bs.drop m)) ∧ Hp w [] [] w_) (fun ⟨m, s⟩ => m) ⟨n, 0⟩ [0, 3, 4] (by kernel_rfl) ⟨⟨Nat.le_refl _, by rw [hn, List.drop_length]; rfl⟩, H⟩ ?_
  rintro ⟨m, s⟩ w10 ⟨hi11, H12⟩
  refine G.eq (M' := [(0, .slice A n c), (3, .int .u64 (s : Int)), (4, .int .i64 (((m : Nat) : Int) - 1))]) rfl ?_
  have H12 : Hp w [] [] w10 := H12
  obtain ⟨hmn, hs1⟩ := hi11
  refine G.seqK fun K13 hK14 => ?_
  refine G.seqK fun K15 hK16 => ?_
  refine G.region ?_
  refine GL.run (j := 2) 2 [0, 3, 4, 9] [(0, .slice A n c), (3, .int .u64 (s : Int)), (4, .int .i64 (((m : Nat) : Int) - 1)), (9, .bool (decide (0 ≤ (((m : Nat) : Int) - 1))))] (by kernel_rfl) rfl ?_
  refine GL.k rfl hK16 (fun _ _ h => h) ?_
  cases hb17 : (decide (0 ≤ (((m : Nat) : Int) - 1)))
  · skip
    have hb17f := of_decide_eq_false hb17
    have hm0 : m = 0 := by omega
    refine G.no rfl ?_
    refine G.exitK hK6 (fun _ _ h => h) ?_
    refine G.seqK fun K18 hK19 => ?_
    refine G.region ?_
    refine GL.run (j := 2) 2 [2] [(2, .int .u64 (s : Int))] (by kernel_rfl) rfl ?_
    refine GL.k rfl hK19 (fun _ _ h => h) ?_
    refine G.ret ?_
    intro F_ hF_ hM_
    refine hRet _ _ (bodyPost_1 rfl (RV.tmp rfl) ?_ F_ hF_ hM_)
    rw [hm0, List.drop_zero] at hs1
    rw [← hs1]
    exact ⟨rfl, H12.sub (List.nil_sublist _)⟩
  · skip
    have hb17f := of_decide_eq_true hb17
    have hm0 : 0 < m := by omega
    have ei : (((m : Nat) : Int) - 1) = ((m - 1 : Nat) : Int) := by omega
    have hat0 := getD8 (bs := bs) (k := m - 1) (by omega)
    have hs56 : s < 72057594037927936 := by rw [hs1]; exact Nat.lt_of_lt_of_le (getB_lt _) (Nat.le_trans (Nat.pow_le_pow_right (by decide) (show (bs.drop m).length ≤ 7 by rw [List.length_drop]; omega)) (by decide))
    have hxb := UInt8.toNat_lt (bs.getD (m - 1) 0)
    refine G.eq (M' := [(0, .slice A n c), (3, .int .u64 (s : Int)), (4, .int .i64 ((m - 1 : Nat) : Int)), (9, .bool true)]) (by rw [ei]) ?_
    refine G.yes rfl ?_
    refine G.skipK hK14 (fun _ _ h => h) ?_
    refine G.seqK fun K20 hK21 => ?_
    refine G.block ?_
    refine G.region ?_
    refine GL.run (j := 4) 4 [0, 4, 13, 14, 15] [(0, .slice A n c), (4, .int .i64 ((m - 1 : Nat) : Int)), (13, .int .u64 (IntKind.u64.wrap ((s : Int) * 256))), (14, .slice A n c), (15, .int .i64 ((m - 1 : Nat) : Int))] (by kernel_rfl) rfl ?_
    have e22 : (IntKind.u64.wrap ((s : Int) * 256)) = ((s * 256 : Nat) : Int) := n_mul' (a := s) (b := 256) (by omega)
    refine GL.eq (M' := [(0, .slice A n c), (4, .int .i64 ((m - 1 : Nat) : Int)), (13, .int .u64 ((s * 256 : Nat) : Int)), (14, .slice A n c), (15, .int .i64 ((m - 1 : Nat) : Int))]) (by rw [e22]) ?_
    clear e22
    refine GL.sem (j := 5) (run_idxRd (P := Try.prog) (k := .i64) (t := 22) (A := A) (len := n) (cap := c) (j := m - 1) (by kernel_rfl) rfl (hx.hp H12) (by rw [by8_length]; omega) (by omega)) [0, 4, 13, 16] [(0, .slice A n c), (4, .int .i64 ((m - 1 : Nat) : Int)), (13, .int .u64 ((s * 256 : Nat) : Int)), (16, .pointer (Option.map (fun x => Addr.add x (m - 1)) A))] (by kernel_rfl) (by kernel_rfl) rfl ?_
    refine GL.sem (j := 6) (run_ldRd (P := Try.prog) (ty := 5) (A := A) (j := m - 1) (v := .int .u8 ((bs.getD (m - 1) 0).toNat : Int)) (by kernel_rfl) (hx.hp H12) (by8_at (getD8 (by omega)))) [0, 4, 13, 17] [(0, .slice A n c), (4, .int .i64 ((m - 1 : Nat) : Int)), (13, .int .u64 ((s * 256 : Nat) : Int)), (17, .int .u8 ((bs.getD (m - 1) 0).toNat : Int))] (by kernel_rfl) (by kernel_rfl) rfl ?_
    refine GL.run (j := 9) 3 [0, 3, 4] [(0, .slice A n c), (3, .int .u64 (IntKind.u64.wrap (((s * 256 : Nat) : Int) + (IntKind.u64.wrap ((bs.getD (m - 1) 0).toNat : Int))))), (4, .int .i64 ((m - 1 : Nat) : Int))] (by kernel_rfl) rfl ?_
    have e23 : (IntKind.u64.wrap ((bs.getD (m - 1) 0).toNat : Int)) = ((bs.getD (m - 1) 0).toNat : Int) := u8_up_u64 _
    have e24 : (IntKind.u64.wrap (((s * 256 : Nat) : Int) + ((bs.getD (m - 1) 0).toNat : Int))) = ((s * 256 + (bs.getD (m - 1) 0).toNat : Nat) : Int) := n_add' (a := s * 256) (b := (bs.getD (m - 1) 0).toNat) (by omega)
    refine GL.eq (M' := [(0, .slice A n c), (3, .int .u64 ((s * 256 + (bs.getD (m - 1) 0).toNat : Nat) : Int)), (4, .int .i64 ((m - 1 : Nat) : Int))]) (by rw [e23, e24]) ?_
    clear e23 e24
    refine GL.k rfl hK21 (fun _ _ h => h) ?_
    refine G.region ?_
    refine GL.run (j := 3) 3 [0, 3, 4] [(0, .slice A n c), (3, .int .u64 ((s * 256 + (bs.getD (m - 1) 0).toNat : Nat) : Int)), (4, .int .i64 (IntKind.i64.wrap (((m - 1 : Nat) : Int) - 1)))] (by kernel_rfl) rfl ?_
    have e25 : (IntKind.i64.wrap (((m - 1 : Nat) : Int) - 1)) = (((m - 1 : Nat) : Int) - 1) := in_i64 (by omega)
    refine GL.eq (M' := [(0, .slice A n c), (3, .int .u64 ((s * 256 + (bs.getD (m - 1) 0).toNat : Nat) : Int)), (4, .int .i64 (((m - 1 : Nat) : Int) - 1))]) (by rw [e25]) ?_
    clear e25
    refine GL.fit (ts := [0, 3, 4]) (M' := [(0, .slice A n c), (3, .int .u64 ((s * 256 + (bs.getD (m - 1) 0).toNat : Nat) : Int)), (4, .int .i64 (((m - 1 : Nat) : Int) - 1))]) (by kernel_rfl) ?_
    refine GL.eq (M' := [(0, .slice A n c), (3, .int .u64 ((s * 256 + (bs.getD (m - 1) 0).toNat : Nat) : Int)), (4, .int .i64 ((((m - 1) : Nat) : Int) - 1))]) (by rfl) ?_
    exact GL.again ⟨(m - 1), s * 256 + (bs.getD (m - 1) 0).toNat⟩ [0, 3, 4] rfl (by kernel_rfl) (by show (m - 1) < m; omega) ⟨⟨by omega, by rw [getB_drop hat0, show m - 1 + 1 = m by omega, ← hs1]; omega⟩, H12⟩
theorem run_shl_i {P : Program} {t a r : Nat} {k' : IntKind} (hr : a * 2 ^ r ≤ 1000 ∧ r ≤ 64) (w : World) : (binOp .shl t (.int .i64 (a : Int)) (.int k' (r : Int))).run P w = .ok (.int .i64 ((a * 2 ^ r : Nat) : Int)) w := by
  rw [run_shl rfl (by omega), show min ((r : Int)).toNat IntKind.i64.bits = r from by simp only [IntKind.bits]; omega]
  rw [show ((a : Int) * 2 ^ r) = ((a * 2 ^ r : Nat) : Int) by simp, in_i64 (by omega)]
theorem ReadCount_calls (bs : List UInt8) (A : Option Addr) (n c : Nat) (w : World) (hx : RdS w A (by8 bs)) (hn : n = bs.length) (hnc : n ≤ c) (hb : n ≤ 1000000) : Calls Try.prog 31 #[.slice A n c] w fun e w' => ∃ v s : Nat, e = .returned (.tuple #[.int .u64 (v : Int), .int .i64 (s : Int), .bool (cnOK bs)]) ∧ (cnOK bs = true → v = cnX bs ∧ s = cnN bs + 1) ∧ Hp w [] [] w' := by
  have hMX : MX = 4611686018427387904 := rfl
  have hK0 : K = 18446744073709551616 := rfl
  have hK40 : K4 = 115792089237316195423570985008687907853269984665640564039457584007913129639936 := rfl
  refine calls_G (args := [.slice A n c]) Try.func31 rfl Try.ntmps31 rfl ?_
  intro Q0 hRet hNor hPan
  have H := Hp.start w
  have H : Hp w [] [] w := H
  refine G.seqK fun K1 hK2 => ?_
  refine G.region ?_
  refine GL.run (j := 3) 3 [0] [(0, .slice A n c)] (by kernel_rfl) rfl ?_
  refine GL.k rfl hK2 (fun _ _ h => h) ?_
  refine G.seqK fun K3 hK4 => ?_
  refine G.seqK fun K5 hK6 => ?_
  refine G.region ?_
  refine GL.run (j := 3) 3 [0, 9] [(0, .slice A n c), (9, .bool ((n : Int) == 0))] (by kernel_rfl) rfl ?_
  refine GL.k rfl hK6 (fun _ _ h => h) ?_
  cases hb7 : ((n : Int) == 0)
  · skip
    have hb7f := ne_of_beq_false hb7
    refine G.no rfl ?_
    refine G.skipK hK4 (fun _ _ h => h) ?_
    refine G.seqK fun K8 hK9 => ?_
    refine G.region ?_
    refine GL.run (j := 1) 1 [0, 5] [(0, .slice A n c), (5, .int .i64 1)] (by kernel_rfl) rfl ?_
    refine GL.k rfl hK9 (fun _ _ h => h) ?_
    refine G.seqK fun K10 hK11 => ?_
    refine G.region ?_
    refine GL.run (j := 1) 1 [0, 5, 10] [(0, .slice A n c), (5, .int .i64 1), (10, .slice A n c)] (by kernel_rfl) rfl ?_
    refine GL.sem (j := 2) (run_idxRd (P := Try.prog) (k := .i64) (t := 22) (A := A) (len := n) (cap := c) (j := 0) (by kernel_rfl) rfl (hx.hp H) (by rw [by8_length]; omega) (by omega)) [0, 5, 11] [(0, .slice A n c), (5, .int .i64 1), (11, .pointer (Option.map (fun x => Addr.add x 0) A))] (by kernel_rfl) (by kernel_rfl) rfl ?_
    refine GL.sem (j := 3) (run_ldRd (P := Try.prog) (ty := 5) (A := A) (j := 0) (v := .int .u8 ((bs.getD 0 0).toNat : Int)) (by kernel_rfl) (hx.hp H) (by8_at (getD8 (by omega)))) [0, 5, 12] [(0, .slice A n c), (5, .int .i64 1), (12, .int .u8 ((bs.getD 0 0).toNat : Int))] (by kernel_rfl) (by kernel_rfl) rfl ?_
    refine GL.run (j := 5) 2 [0, 5, 6] [(0, .slice A n c), (5, .int .i64 1), (6, .int .u64 (IntKind.u64.wrap ((bs.getD 0 0).toNat : Int)))] (by kernel_rfl) rfl ?_
    have e12 : (IntKind.u64.wrap ((bs.getD 0 0).toNat : Int)) = ((bs.getD 0 0).toNat : Int) := u8_up_u64 _
    refine GL.eq (M' := [(0, .slice A n c), (5, .int .i64 1), (6, .int .u64 ((bs.getD 0 0).toNat : Int))]) (by rw [e12]) ?_
    clear e12
    refine GL.k rfl hK11 (fun _ _ h => h) ?_
    refine G.seqK fun K13 hK14 => ?_
    refine G.seqK fun K15 hK16 => ?_
    refine G.region ?_
    refine GL.run (j := 1) 1 [0, 5, 6, 14] [(0, .slice A n c), (5, .int .i64 1), (6, .int .u64 ((bs.getD 0 0).toNat : Int)), (14, .slice A n c)] (by kernel_rfl) rfl ?_
    refine GL.sem (j := 2) (run_idxRd (P := Try.prog) (k := .i64) (t := 22) (A := A) (len := n) (cap := c) (j := 0) (by kernel_rfl) rfl (hx.hp H) (by rw [by8_length]; omega) (by omega)) [0, 5, 6, 15] [(0, .slice A n c), (5, .int .i64 1), (6, .int .u64 ((bs.getD 0 0).toNat : Int)), (15, .pointer (Option.map (fun x => Addr.add x 0) A))] (by kernel_rfl) (by kernel_rfl) rfl ?_
    refine GL.sem (j := 3) (run_ldRd (P := Try.prog) (ty := 5) (A := A) (j := 0) (v := .int .u8 ((bs.getD 0 0).toNat : Int)) (by kernel_rfl) (hx.hp H) (by8_at (getD8 (by omega)))) [0, 5, 6, 16] [(0, .slice A n c), (5, .int .i64 1), (6, .int .u64 ((bs.getD 0 0).toNat : Int)), (16, .int .u8 ((bs.getD 0 0).toNat : Int))] (by kernel_rfl) (by kernel_rfl) rfl ?_
    refine GL.run (j := 4) 1 [0, 5, 6, 17] [(0, .slice A n c), (5, .int .i64 1), (6, .int .u64 ((bs.getD 0 0).toNat : Int)), (17, .bool (decide (253 ≤ ((bs.getD 0 0).toNat : Int))))] (by kernel_rfl) rfl ?_
    refine GL.k rfl hK16 (fun _ _ h => h) ?_
    cases hb17 : (decide (253 ≤ ((bs.getD 0 0).toNat : Int)))
    · skip
      have hb17f := of_decide_eq_false hb17
      have hb0 := UInt8.toNat_lt (bs.getD 0 0)
      have hcn : cnN bs = 0 := by unfold cnN; rw [if_pos (by omega)]
      refine G.no rfl ?_
      refine G.skipK hK14 (fun _ _ h => h) ?_
      refine G.seqK fun K18 hK19 => ?_
      refine G.region ?_
      refine GL.run (j := 3) 3 [5, 32, 33, 34] [(5, .int .i64 1), (32, .int .u64 ((bs.getD 0 0).toNat : Int)), (33, .int .i64 1), (34, .int .u64 ((bs.getD 0 0).toNat : Int))] (by kernel_rfl) rfl ?_
      have hcA20 := cntSz_le ((bs.getD 0 0).toNat)
      refine GL.call (j := 4) (RCnt_calls ((bs.getD 0 0).toNat) (by omega) w) (by kernel_rfl) rfl (fun e_ w24 hR => ?_)
      obtain ⟨A20, c21, rfl, H23⟩ := hR
      have H22 : Hp w [] [.row A20 (cntSz ((bs.getD 0 0).toNat)) c21 5 1 (by8 (cnt ((bs.getD 0 0).toNat)))] w24 := H.callNew H23
      refine ⟨_, rfl, [5, 32, 33, 35], [(5, .int .i64 1), (32, .int .u64 ((bs.getD 0 0).toNat : Int)), (33, .int .i64 1), (35, .slice A20 (cntSz ((bs.getD 0 0).toNat)) c21)], by kernel_rfl, ?_⟩
      refine GL.run (j := 10) 6 [2, 3, 4] [(2, .int .u64 ((bs.getD 0 0).toNat : Int)), (3, .int .i64 1), (4, .bool ((((cntSz ((bs.getD 0 0).toNat)) : Nat) : Int) == 1))] (by kernel_rfl) rfl ?_
      refine GL.k rfl hK19 (fun _ _ h => h) ?_
      refine G.ret ?_
      intro F_ hF_ hM_
      refine hRet _ _ (bodyPost_3 rfl (RV.tmp rfl) (RV.tmp rfl) (RV.tmp rfl) ?_ F_ hF_ hM_)
      have e1 : cnX bs = (bs.getD 0 0).toNat := by unfold cnX; rw [if_pos (by omega)]
      have e0 : (((((cntSz ((bs.getD 0 0).toNat)) : Nat) : Int) == 1) : Bool) = cnOK bs := by
        unfold cnOK
        rw [decide_eq_true (show bs.length ≠ 0 by omega), decide_eq_true (show cnN bs + 1 ≤ bs.length by omega), e1, hcn, Bool.eq_iff_iff]
        simp only [beq_iff_eq, Bool.true_and, decide_eq_true_eq]
        omega
      rw [e0]
      exact ⟨_, _, rfl, fun _ => ⟨e1.symm, by rw [hcn]⟩, H22.sub (List.nil_sublist _)⟩
    · skip
      have hb17f := of_decide_eq_true hb17
      have hb0 := UInt8.toNat_lt (bs.getD 0 0)
      have hcn : cnN bs = 2 * 2 ^ ((bs.getD 0 0).toNat - 253) := by unfold cnN; rw [if_neg (by omega)]
      have h28 : 2 * 2 ^ ((bs.getD 0 0).toNat - 253) = 2 ∨ 2 * 2 ^ ((bs.getD 0 0).toNat - 253) = 4 ∨ 2 * 2 ^ ((bs.getD 0 0).toNat - 253) = 8 := by
        have : (bs.getD 0 0).toNat - 253 = 0 ∨ (bs.getD 0 0).toNat - 253 = 1 ∨ (bs.getD 0 0).toNat - 253 = 2 := by omega
        rcases this with h | h | h <;> rw [h] <;> decide
      refine G.yes rfl ?_
      refine G.seqK fun K25 hK26 => ?_
      refine G.region ?_
      refine GL.run (j := 1) 1 [0, 18] [(0, .slice A n c), (18, .slice A n c)] (by kernel_rfl) rfl ?_
      refine GL.sem (j := 2) (run_idxRd (P := Try.prog) (k := .i64) (t := 22) (A := A) (len := n) (cap := c) (j := 0) (by kernel_rfl) rfl (hx.hp H) (by rw [by8_length]; omega) (by omega)) [0, 19] [(0, .slice A n c), (19, .pointer (Option.map (fun x => Addr.add x 0) A))] (by kernel_rfl) (by kernel_rfl) rfl ?_
      refine GL.sem (j := 3) (run_ldRd (P := Try.prog) (ty := 5) (A := A) (j := 0) (v := .int .u8 ((bs.getD 0 0).toNat : Int)) (by kernel_rfl) (hx.hp H) (by8_at (getD8 (by omega)))) [0, 20] [(0, .slice A n c), (20, .int .u8 ((bs.getD 0 0).toNat : Int))] (by kernel_rfl) (by kernel_rfl) rfl ?_
      refine GL.run (j := 4) 1 [0, 21] [(0, .slice A n c), (21, .int .u8 (IntKind.u8.wrap (((bs.getD 0 0).toNat : Int) - 253)))] (by kernel_rfl) rfl ?_
      have e27 : (IntKind.u8.wrap (((bs.getD 0 0).toNat : Int) - 253)) = (((bs.getD 0 0).toNat - 253 : Nat) : Int) := by rw [in_u8 (by omega)]; omega
      refine GL.eq (M' := [(0, .slice A n c), (21, .int .u8 (((bs.getD 0 0).toNat - 253 : Nat) : Int))]) (by rw [e27]) ?_
      clear e27
      refine GL.sem (j := 5) (run_shl_i (P := Try.prog) (k' := .u8) (t := 3) (a := 2) (r := (bs.getD 0 0).toNat - 253) (by omega) _) [0, 22] [(0, .slice A n c), (22, .int .i64 ((2 * 2 ^ ((bs.getD 0 0).toNat - 253) : Nat) : Int))] (by kernel_rfl) (by kernel_rfl) rfl ?_
      refine GL.run (j := 7) 2 [0, 5] [(0, .slice A n c), (5, .int .i64 (IntKind.i64.wrap (1 + ((2 * 2 ^ ((bs.getD 0 0).toNat - 253) : Nat) : Int))))] (by kernel_rfl) rfl ?_
      have e28 : (IntKind.i64.wrap (1 + ((2 * 2 ^ ((bs.getD 0 0).toNat - 253) : Nat) : Int))) = ((2 * 2 ^ ((bs.getD 0 0).toNat - 253) + 1 : Nat) : Int) := by rw [in_i64 (by omega)]; omega
      refine GL.eq (M' := [(0, .slice A n c), (5, .int .i64 ((2 * 2 ^ ((bs.getD 0 0).toNat - 253) + 1 : Nat) : Int))]) (by rw [e28]) ?_
      clear e28
      refine GL.k rfl hK26 (fun _ _ h => h) ?_
      refine G.seqK fun K29 hK30 => ?_
      refine G.seqK fun K31 hK32 => ?_
      refine G.region ?_
      refine GL.run (j := 4) 4 [0, 5, 27] [(0, .slice A n c), (5, .int .i64 ((2 * 2 ^ ((bs.getD 0 0).toNat - 253) + 1 : Nat) : Int)), (27, .bool (decide ((n : Int) < ((2 * 2 ^ ((bs.getD 0 0).toNat - 253) + 1 : Nat) : Int))))] (by kernel_rfl) rfl ?_
      refine GL.k rfl hK32 (fun _ _ h => h) ?_
      cases hb33 : (decide ((n : Int) < ((2 * 2 ^ ((bs.getD 0 0).toNat - 253) + 1 : Nat) : Int)))
      · skip
        have hb33f := of_decide_eq_false hb33
        refine G.no rfl ?_
        refine G.skipK hK30 (fun _ _ h => h) ?_
        refine G.region ?_
        refine GL.run (j := 2) 2 [5, 28, 29] [(5, .int .i64 ((2 * 2 ^ ((bs.getD 0 0).toNat - 253) + 1 : Nat) : Int)), (28, .slice A n c), (29, .int .i64 ((2 * 2 ^ ((bs.getD 0 0).toNat - 253) + 1 : Nat) : Int))] (by kernel_rfl) rfl ?_
        refine GL.sem (j := 3) (run_sliceSl (P := Try.prog) (lo := some (.int .i64 1)) (hi := some (.int .i64 ((2 * 2 ^ ((bs.getD 0 0).toNat - 253) + 1 : Nat) : Int))) (t := 22) (len := n) (cap := c) (A := A) (l := 1) (h := 2 * 2 ^ ((bs.getD 0 0).toNat - 253) + 1) (by kernel_rfl) (Or.inr ⟨_, _, rfl, rfl⟩) (Or.inr ⟨_, _, rfl, rfl⟩) (by omega) (by omega)) [5, 30] [(5, .int .i64 ((2 * 2 ^ ((bs.getD 0 0).toNat - 253) + 1 : Nat) : Int)), (30, .slice (if c = 1 then A else Option.map (fun x => Addr.add x 1) A) (2 * 2 ^ ((bs.getD 0 0).toNat - 253) + 1 - 1) (c - 1))] (by kernel_rfl) (by kernel_rfl) rfl ?_
        refine GL.call (j := 4) (RGet_calls ((bs.take (2 * 2 ^ ((bs.getD 0 0).toNat - 253) + 1)).drop 1) (if c = 1 then A else Option.map (fun x => Addr.add x 1) A) (2 * 2 ^ ((bs.getD 0 0).toNat - 253) + 1 - 1) (c - 1) w (RdS.cut8 (cap := c) (hx.hp H) 1 (2 * 2 ^ ((bs.getD 0 0).toNat - 253) + 1) (cs := ((bs.take (2 * 2 ^ ((bs.getD 0 0).toNat - 253) + 1)).drop 1)) (by omega) rfl) (by rw [List.length_drop, List.length_take]; omega) (by rw [Nat.add_sub_cancel]; omega)) (by kernel_rfl) rfl (fun e_ w34 hR => ?_)
        obtain ⟨rfl, H36⟩ := hR
        have H35 : Hp w [] [] w34 := H.callNil H36
        refine ⟨_, rfl, [5, 31], [(5, .int .i64 ((2 * 2 ^ ((bs.getD 0 0).toNat - 253) + 1 : Nat) : Int)), (31, .int .u64 (((getB ((bs.take (2 * 2 ^ ((bs.getD 0 0).toNat - 253) + 1)).drop 1)) : Nat) : Int))], by kernel_rfl, ?_⟩
        refine GL.run (j := 5) 1 [5, 6] [(5, .int .i64 ((2 * 2 ^ ((bs.getD 0 0).toNat - 253) + 1 : Nat) : Int)), (6, .int .u64 (((getB ((bs.take (2 * 2 ^ ((bs.getD 0 0).toNat - 253) + 1)).drop 1)) : Nat) : Int))] (by kernel_rfl) rfl ?_
        refine GL.k rfl hK14 (fun _ _ h => h) ?_
        refine G.seqK fun K37 hK38 => ?_
        refine G.region ?_
        refine GL.run (j := 3) 3 [5, 32, 33, 34] [(5, .int .i64 ((2 * 2 ^ ((bs.getD 0 0).toNat - 253) + 1 : Nat) : Int)), (32, .int .u64 (((getB ((bs.take (2 * 2 ^ ((bs.getD 0 0).toNat - 253) + 1)).drop 1)) : Nat) : Int)), (33, .int .i64 ((2 * 2 ^ ((bs.getD 0 0).toNat - 253) + 1 : Nat) : Int)), (34, .int .u64 (((getB ((bs.take (2 * 2 ^ ((bs.getD 0 0).toNat - 253) + 1)).drop 1)) : Nat) : Int))] (by kernel_rfl) rfl ?_
        have hcA39 := cntSz_le (getB ((bs.take (2 * 2 ^ ((bs.getD 0 0).toNat - 253) + 1)).drop 1))
        refine GL.call (j := 4) (RCnt_calls (getB ((bs.take (2 * 2 ^ ((bs.getD 0 0).toNat - 253) + 1)).drop 1)) (Nat.lt_of_lt_of_le (getB_lt _) (Nat.le_trans (Nat.pow_le_pow_right (by decide) (show _ ≤ 8 by rw [List.length_drop, List.length_take]; omega)) (by decide))) w34) (by kernel_rfl) rfl (fun e_ w43 hR => ?_)
        obtain ⟨A39, c40, rfl, H42⟩ := hR
        have H41 : Hp w [] [.row A39 (cntSz (getB ((bs.take (2 * 2 ^ ((bs.getD 0 0).toNat - 253) + 1)).drop 1))) c40 5 1 (by8 (cnt (getB ((bs.take (2 * 2 ^ ((bs.getD 0 0).toNat - 253) + 1)).drop 1))))] w43 := H35.callNew H42
        refine ⟨_, rfl, [5, 32, 33, 35], [(5, .int .i64 ((2 * 2 ^ ((bs.getD 0 0).toNat - 253) + 1 : Nat) : Int)), (32, .int .u64 (((getB ((bs.take (2 * 2 ^ ((bs.getD 0 0).toNat - 253) + 1)).drop 1)) : Nat) : Int)), (33, .int .i64 ((2 * 2 ^ ((bs.getD 0 0).toNat - 253) + 1 : Nat) : Int)), (35, .slice A39 (cntSz (getB ((bs.take (2 * 2 ^ ((bs.getD 0 0).toNat - 253) + 1)).drop 1))) c40)], by kernel_rfl, ?_⟩
        refine GL.run (j := 10) 6 [2, 3, 4] [(2, .int .u64 (((getB ((bs.take (2 * 2 ^ ((bs.getD 0 0).toNat - 253) + 1)).drop 1)) : Nat) : Int)), (3, .int .i64 ((2 * 2 ^ ((bs.getD 0 0).toNat - 253) + 1 : Nat) : Int)), (4, .bool ((((cntSz (getB ((bs.take (2 * 2 ^ ((bs.getD 0 0).toNat - 253) + 1)).drop 1))) : Nat) : Int) == ((2 * 2 ^ ((bs.getD 0 0).toNat - 253) + 1 : Nat) : Int)))] (by kernel_rfl) rfl ?_
        refine GL.k rfl hK38 (fun _ _ h => h) ?_
        refine G.ret ?_
        intro F_ hF_ hM_
        refine hRet _ _ (bodyPost_3 rfl (RV.tmp rfl) (RV.tmp rfl) (RV.tmp rfl) ?_ F_ hF_ hM_)
        have e1 : cnX bs = (getB ((bs.take (2 * 2 ^ ((bs.getD 0 0).toNat - 253) + 1)).drop 1)) := by unfold cnX; rw [if_neg (by omega), hcn]
        have e0 : (((((cntSz (getB ((bs.take (2 * 2 ^ ((bs.getD 0 0).toNat - 253) + 1)).drop 1))) : Nat) : Int) == ((2 * 2 ^ ((bs.getD 0 0).toNat - 253) + 1 : Nat) : Int)) : Bool) = cnOK bs := by
          unfold cnOK
          rw [decide_eq_true (show bs.length ≠ 0 by omega), decide_eq_true (show cnN bs + 1 ≤ bs.length by omega), e1, hcn, Bool.eq_iff_iff]
          simp only [beq_iff_eq, Bool.true_and, decide_eq_true_eq]
          omega
        rw [e0]
        exact ⟨_, _, rfl, fun _ => ⟨e1.symm, by rw [hcn]⟩, H41.sub (List.nil_sublist _)⟩
      · skip
        have hb33f := of_decide_eq_true hb33
        refine G.yes rfl ?_
        refine G.seqK fun K44 hK45 => ?_
        refine G.region ?_
        refine GL.run (j := 3) 3 [2, 3, 4] [(2, .int .u64 0), (3, .int .i64 0), (4, .bool false)] (by kernel_rfl) rfl ?_
        refine GL.k rfl hK45 (fun _ _ h => h) ?_
        refine G.ret ?_
        intro F_ hF_ hM_
        refine hRet _ _ (bodyPost_3 rfl (RV.tmp rfl) (RV.tmp rfl) (RV.tmp rfl) ?_ F_ hF_ hM_)
        have e0 : cnOK bs = false := by
          unfold cnOK
          rw [decide_eq_false (show ¬ cnN bs + 1 ≤ bs.length by omega)]; simp
        rw [e0]
        exact ⟨0, 0, rfl, (fun h => by cases h), H.sub (List.nil_sublist _)⟩
  · skip
    have hb7f := eq_of_beq hb7
    refine G.yes rfl ?_
    refine G.seqK fun K46 hK47 => ?_
    refine G.region ?_
    refine GL.run (j := 3) 3 [2, 3, 4] [(2, .int .u64 0), (3, .int .i64 0), (4, .bool false)] (by kernel_rfl) rfl ?_
    refine GL.k rfl hK47 (fun _ _ h => h) ?_
    refine G.ret ?_
    intro F_ hF_ hM_
    refine hRet _ _ (bodyPost_3 rfl (RV.tmp rfl) (RV.tmp rfl) (RV.tmp rfl) ?_ F_ hF_ hM_)
    have e0 : cnOK bs = false := by
      unfold cnOK
      rw [decide_eq_false (show ¬ bs.length ≠ 0 by omega)]; rfl
    rw [e0]
    exact ⟨0, 0, rfl, (fun h => by cases h), H.sub (List.nil_sublist _)⟩
end Go.Proofs.Ytobgpfljdooopaa
