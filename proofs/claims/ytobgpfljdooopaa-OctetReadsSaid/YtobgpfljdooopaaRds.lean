/- Whatever is read is what the document says: the walk. -/
import Derived.Test.YtobgpfljdooopaaRdB
import Derived.Test.YtobgpfljdooopaaGl
namespace Go.Proofs.Ytobgpfljdooopaa
open Go.RowKit
set_option maxHeartbeats 4000000 in
theorem OctetReads_calls (bs : List UInt8) (Ab : Option Addr) (cb : Nat) (A : Option Addr) (n c0 : Nat) (xs : List Value) (kk ss : Nat → Int) (f : Nat → Nat) (BB : Nat → Option Addr) (bb : Nat → List UInt8) (bc : Nat → Nat) (w : World) (hr : RdS w A xs) (hx : xs.length = n * 4) (hn : n ≤ 9223372036854775807) (hf : ∀ i, f i < 2 ^ 64) (hs : ∀ i, -9223372036854775808 ≤ ss i ∧ ss i ≤ 9223372036854775807) (hB : ∀ i, RdS w (BB i) (by8 (bb i)) ∧ (bb i).length ≤ bc i ∧ bc i ≤ maxLen) (hel : ∀ i, i < n → (xs.drop (i * 4)).take 4 = [.int .i64 (kk i), .int .i64 (ss i), .int .u64 ((f i : Nat) : Int), .slice (BB i) (bb i).length (bc i)]) (hrb : RdS w Ab (by8 bs)) (hbc : bs.length ≤ maxLen) : Calls Try.prog 3 #[.slice Ab bs.length cb, .slice A n c0] w fun e w' => e = .returned (.bool true) ∧ Hp w [] [] w' := by
  simp only [maxLen] at hbc
  have hMX : MX = 4611686018427387904 := rfl
  have hK0 : K = 18446744073709551616 := rfl
  have hK40 : K4 = 115792089237316195423570985008687907853269984665640564039457584007913129639936 := rfl
  refine calls_G (args := [.slice Ab bs.length cb, .slice A n c0]) Try.func3 rfl Try.ntmps3 rfl ?_
  intro Q0 hRet hNor hPan
  have H := Hp.start w
  have H : Hp w [] [] w := H
  refine G.seqK fun K1 hK2 => ?_
  refine G.region ?_
  refine GL.run (j := 1) 1 [0, 1] [(0, .slice Ab bs.length cb), (1, .slice A n c0)] (by kernel_rfl) rfl ?_
  refine GL.k rfl hK2 (fun _ _ h => h) ?_
  refine G.seqK fun K3 hK4 => ?_
  refine G.seqK fun K5 hK6 => ?_
  refine G.region ?_
  refine GL.call (j := 1) (lives_calls w) (by kernel_rfl) rfl (fun e_ w7 hR => ?_)
  obtain ⟨rfl, H9⟩ := hR
  have H8 : Hp w [] [] w7 := H.callNil H9
  refine ⟨_, rfl, [0, 1, 15], [(0, .slice Ab bs.length cb), (1, .slice A n c0), (15, .bool true)], by kernel_rfl, ?_⟩
  refine GL.run (j := 4) 3 [0, 1, 17, 18] [(0, .slice Ab bs.length cb), (1, .slice A n c0), (17, .bool false), (18, .slice A n c0)] (by kernel_rfl) rfl ?_
  refine GL.call (j := 5) (few_calls A n c0 xs kk ss f BB bb bc w7 (hr.hp H8) hx hn hf hs (fun i => ⟨(hB i).1.hp H8, (hB i).2⟩) hel) (by kernel_rfl) rfl (fun e_ w14 hR => ?_)
  obtain ⟨fb10, rfl, hfb11, H13⟩ := hR
  have H12 : Hp w [] [] w14 := H8.callNil H13
  refine ⟨_, rfl, [0, 1, 17, 19], [(0, .slice Ab bs.length cb), (1, .slice A n c0), (17, .bool false), (19, .bool fb10)], by kernel_rfl, ?_⟩
  refine GL.run (j := 8) 3 [0, 1, 22] [(0, .slice Ab bs.length cb), (1, .slice A n c0), (22, .bool (!fb10))] (by kernel_rfl) rfl ?_
  rcases (Bool.eq_false_or_eq_true fb10).symm with hb15 | hb15
  · skip
    refine GL.eq (M' := [(0, .slice Ab bs.length cb), (1, .slice A n c0), (22, .bool true)]) (by first | (rw [hb15]; done) | (rw [hb15]; rfl)) ?_
    refine GL.run (j := 12) 4 [0, 1, 26] [(0, .slice Ab bs.length cb), (1, .slice A n c0), (26, .bool true)] (by kernel_rfl) rfl ?_
    refine GL.k rfl hK6 (fun _ _ h => h) ?_
    refine G.yes rfl ?_
    refine G.seqK fun K16 hK17 => ?_
    refine G.region ?_
    refine GL.call (j := 1) (lives_calls w14) (by kernel_rfl) rfl (fun e_ w18 hR => ?_)
    obtain ⟨rfl, H20⟩ := hR
    have H19 : Hp w [] [] w18 := H12.callNil H20
    refine ⟨_, rfl, [27], [(27, .bool true)], by kernel_rfl, ?_⟩
    refine GL.run (j := 2) 1 [4] [(4, .bool true)] (by kernel_rfl) rfl ?_
    refine GL.k rfl hK17 (fun _ _ h => h) ?_
    refine G.ret ?_
    intro F_ hF_ hM_
    refine hRet _ _ (bodyPost_1 rfl (RV.tmp rfl) ?_ F_ hF_ hM_)
    exact ⟨rfl, H19.sub (List.nil_sublist _)⟩
  · skip
    refine GL.eq (M' := [(0, .slice Ab bs.length cb), (1, .slice A n c0), (22, .bool false)]) (by first | (rw [hb15]; done) | (rw [hb15]; rfl)) ?_
    have hfw := hfb11.1 hb15
    refine GL.run (j := 12) 4 [0, 1, 26] [(0, .slice Ab bs.length cb), (1, .slice A n c0), (26, .bool (decide (500 < (bs.length : Int))))] (by kernel_rfl) rfl ?_
    refine GL.k rfl hK6 (fun _ _ h => h) ?_
    cases hb21 : (decide (500 < (bs.length : Int)))
    · skip
      have hb21f := of_decide_eq_false hb21
      refine G.no rfl ?_
      refine G.skipK hK4 (fun _ _ h => h) ?_
      refine G.seqK fun K22 hK23 => ?_
      refine G.region ?_
      obtain ⟨p24, w25, r26, H27⟩ := H12.madeRow (P := Try.prog) (Instr.buildSlice 22 0 #[]) (fun b_ => .slice (some ⟨b_, 0, none⟩) 0 0) [] 5 0 0 1 (by kernel_rfl) (by decide) (by decide) rfl
      have H27 : Hp w [] [.row (some ⟨p24, 0, none⟩) 0 0 5 1 (by8 ([] : List UInt8))] w25 := H27
      refine GL.sem (j := 1) (r26) [0, 1, 28] [(0, .slice Ab bs.length cb), (1, .slice A n c0), (28, .slice (some ⟨p24, 0, none⟩) 0 0)] (by kernel_rfl) (by kernel_rfl) rfl ?_
      refine GL.run (j := 2) 1 [0, 1, 28, 29] [(0, .slice Ab bs.length cb), (1, .slice A n c0), (28, .slice (some ⟨p24, 0, none⟩) 0 0), (29, .slice Ab bs.length cb)] (by kernel_rfl) rfl ?_
      obtain ⟨A28, c29, w30, r31, H32⟩ := H27.append (P := Try.prog) (e := 5) (sz := 1) (by_ := 1) (n := 0) (c := 0) (m := bs.length) (d := cb) (t := 22) (ty := 22) (xs := by8 ([] : List UInt8)) (news := by8 bs) 0 rfl (by kernel_rfl) (hrb.hp H27) (by first | (simp [by8_length]; done) | (rw [by8_length]; omega) | (rw [by8_length, putB_length])) (by8_one _) (by omega) (by simp only [maxLen]; omega)
      rw [Nat.zero_add] at r31 H32
      have H32 : Hp w [] [.row A28 bs.length c29 5 1 (by8 bs)] w30 := H32
      refine GL.sem (j := 3) (r31) [0, 1, 30] [(0, .slice Ab bs.length cb), (1, .slice A n c0), (30, .slice A28 bs.length c29)] (by kernel_rfl) (by kernel_rfl) rfl ?_
      refine GL.run (j := 4) 1 [0, 1, 5] [(0, .slice Ab bs.length cb), (1, .slice A n c0), (5, .slice A28 bs.length c29)] (by kernel_rfl) rfl ?_
      refine GL.k rfl hK23 (fun _ _ h => h) ?_
      refine G.seqK fun K33 hK34 => ?_
      refine G.region ?_
      refine GL.run (j := 1) 1 [0, 1, 5, 31] [(0, .slice Ab bs.length cb), (1, .slice A n c0), (5, .slice A28 bs.length c29), (31, .slice A28 bs.length c29)] (by kernel_rfl) rfl ?_
      have hl41 := (H32.rowLe 0 rfl).2.1
      rw [by8_length, Nat.mul_one] at hl41
      refine GL.call (j := 2) (Read_calls bs A28 bs.length c29 w30 (H32.rdRow 0 rfl) (by omega) (by omega)) (by kernel_rfl) rfl (fun e_ w40 hR => ?_)
      obtain ⟨p35, A36, c37, rfl, H39⟩ := hR
      have H38 : Hp w [] [.row A28 bs.length c29 5 1 (by8 bs), .row A36 bs.length c37 5 1 (by8 bs), .blk p35 [.slice A36 bs.length c37, .bool false] 54] w40 := H32.callNew H39
      have hk42 : bs.length = bs.length := by omega
      have hc43 := (H38.rowLe 1 rfl).1
      refine ⟨_, rfl, [0, 1, 5, 32], [(0, .slice Ab bs.length cb), (1, .slice A n c0), (5, .slice A28 bs.length c29), (32, pt p35 0)], by kernel_rfl, ?_⟩
      refine GL.run (j := 3) 1 [0, 1, 5, 6] [(0, .slice Ab bs.length cb), (1, .slice A n c0), (5, .slice A28 bs.length c29), (6, pt p35 0)] (by kernel_rfl) rfl ?_
      refine GL.k rfl hK34 (fun _ _ h => h) ?_
      refine G.seqK fun K44 hK45 => ?_
      refine G.seqK fun K46 hK47 => ?_
      refine G.region ?_
      refine GL.run (j := 3) 3 [0, 1, 5, 6, 34, 35] [(0, .slice Ab bs.length cb), (1, .slice A n c0), (5, .slice A28 bs.length c29), (6, pt p35 0), (34, .int .i64 (bs.length : Int)), (35, .int .i64 0)] (by kernel_rfl) rfl ?_
      refine GL.k rfl hK47 (fun _ _ h => h) ?_
      refine G.block ?_
      refine G.fit [0, 1, 5, 6, 34, 35] (M' := [(0, .slice Ab bs.length cb), (1, .slice A n c0), (5, .slice A28 bs.length c29), (6, pt p35 0), (34, .int .i64 (bs.length : Int)), (35, .int .i64 0)]) (by kernel_rfl) ?_
      refine G.loop (X := Nat × List UInt8) (fun ⟨i, ys⟩ => [(0, .slice Ab bs.length cb), (1, .slice A n c0), (5, .slice A28 bs.length c29), (6, pt p35 0), (34, .int .i64 (bs.length : Int)), (35, .int .i64 (i : Int))]) (fun ⟨i, ys⟩ w_ => (i ≤ bs.length ∧ ys.length = bs.length) ∧ Hp w [] [.row A28 bs.length c29 5 1 (by8 ys), .row A36 bs.length c37 5 1 (by8 bs), .blk p35 [.slice A36 bs.length c37, .bool false] 54] w_) (fun ⟨i, ys⟩ => bs.length - i) ⟨0, bs⟩ [0, 1, 5, 6, 34, 35] (by kernel_rfl) ⟨⟨Nat.zero_le _, rfl⟩, H38⟩ ?_
      rintro ⟨i, ys⟩ w48 ⟨hi49, H50⟩
      refine G.eq (M' := [(0, .slice Ab bs.length cb), (1, .slice A n c0), (5, .slice A28 bs.length c29), (6, pt p35 0), (34, .int .i64 (bs.length : Int)), (35, .int .i64 (i : Int))]) rfl ?_
      have H50 : Hp w [] [.row A28 bs.length c29 5 1 (by8 ys), .row A36 bs.length c37 5 1 (by8 bs), .blk p35 [.slice A36 bs.length c37, .bool false] 54] w48 := H50
      obtain ⟨hib, hyl⟩ := hi49
      refine G.seqK fun K51 hK52 => ?_
      refine G.region ?_
      refine GL.run (j := 1) 1 [0, 1, 5, 6, 34, 35, 36] [(0, .slice Ab bs.length cb), (1, .slice A n c0), (5, .slice A28 bs.length c29), (6, pt p35 0), (34, .int .i64 (bs.length : Int)), (35, .int .i64 (i : Int)), (36, .bool (decide ((i : Int) < (bs.length : Int))))] (by kernel_rfl) rfl ?_
      refine GL.k rfl hK52 (fun _ _ h => h) ?_
      refine G.seqK fun K53 hK54 => ?_
      cases hb55 : (decide ((i : Int) < (bs.length : Int)))
      · skip
        have hb55f := of_decide_eq_false hb55
        refine G.no rfl ?_
        refine G.exitK hK45 (fun _ _ h => h) ?_
        refine G.seqK fun K56 hK57 => ?_
        refine G.region ?_
        obtain ⟨p58, w59, r60, H61⟩ := H50.madeRow (P := Try.prog) (Instr.buildSlice 22 0 #[]) (fun b_ => .slice (some ⟨b_, 0, none⟩) 0 0) [] 5 0 0 1 (by kernel_rfl) (by decide) (by decide) rfl
        have H61 : Hp w [] [.row A28 bs.length c29 5 1 (by8 ys), .row A36 bs.length c37 5 1 (by8 bs), .blk p35 [.slice A36 bs.length c37, .bool false] 54, .row (some ⟨p58, 0, none⟩) 0 0 5 1 (by8 ([] : List UInt8))] w59 := H61
        refine GL.sem (j := 1) (r60) [0, 1, 6, 45] [(0, .slice Ab bs.length cb), (1, .slice A n c0), (6, pt p35 0), (45, .slice (some ⟨p58, 0, none⟩) 0 0)] (by kernel_rfl) (by kernel_rfl) rfl ?_
        refine GL.run (j := 2) 1 [1, 6, 45, 46] [(1, .slice A n c0), (6, pt p35 0), (45, .slice (some ⟨p58, 0, none⟩) 0 0), (46, .slice Ab bs.length cb)] (by kernel_rfl) rfl ?_
        obtain ⟨A62, c63, w64, r65, H66⟩ := H61.append (P := Try.prog) (e := 5) (sz := 1) (by_ := 1) (n := 0) (c := 0) (m := bs.length) (d := cb) (t := 22) (ty := 22) (xs := by8 ([] : List UInt8)) (news := by8 bs) 3 rfl (by kernel_rfl) (hrb.hp H61) (by first | (simp [by8_length]; done) | (rw [by8_length]; omega) | (rw [by8_length, putB_length])) (by8_one _) (by omega) (by simp only [maxLen]; omega)
        rw [Nat.zero_add] at r65 H66
        have H66 : Hp w [] [.row A28 bs.length c29 5 1 (by8 ys), .row A36 bs.length c37 5 1 (by8 bs), .blk p35 [.slice A36 bs.length c37, .bool false] 54, .row A62 bs.length c63 5 1 (by8 bs)] w64 := H66
        refine GL.sem (j := 3) (r65) [1, 6, 47] [(1, .slice A n c0), (6, pt p35 0), (47, .slice A62 bs.length c63)] (by kernel_rfl) (by kernel_rfl) rfl ?_
        refine GL.run (j := 4) 1 [1, 6, 48] [(1, .slice A n c0), (6, pt p35 0), (48, .agg #[.slice A62 bs.length c63, .bool false])] (by kernel_rfl) rfl ?_
        obtain ⟨p67, w68, r69, H70⟩ := H66.box (P := Try.prog) 30 [.slice A62 bs.length c63, .bool false] (.agg #[.slice A62 bs.length c63, .bool false]) rfl
        have H70 : Hp w [] [.row A28 bs.length c29 5 1 (by8 ys), .row A36 bs.length c37 5 1 (by8 bs), .blk p35 [.slice A36 bs.length c37, .bool false] 54, .row A62 bs.length c63 5 1 (by8 bs), .blk p67 [.slice A62 bs.length c63, .bool false] 30] w68 := H70
        refine GL.sem (j := 5) (r69) [1, 6, 49] [(1, .slice A n c0), (6, pt p35 0), (49, pt p67 0)] (by kernel_rfl) (by kernel_rfl) rfl ?_
        refine GL.run (j := 6) 1 [1, 6, 8] [(1, .slice A n c0), (6, pt p35 0), (8, pt p67 0)] (by kernel_rfl) rfl ?_
        refine GL.k rfl hK57 (fun _ _ h => h) ?_
        refine G.seqK fun K71 hK72 => ?_
        refine G.seqK fun K73 hK74 => ?_
        refine G.region ?_
        refine GL.run (j := 3) 3 [6, 8, 50, 51, 52] [(6, pt p35 0), (8, pt p67 0), (50, .slice A n c0), (51, .int .i64 (n : Int)), (52, .int .i64 0)] (by kernel_rfl) rfl ?_
        refine GL.k rfl hK74 (fun _ _ h => h) ?_
        refine G.block ?_
        have H75 : Hp w [] [.row A36 bs.length c37 5 1 (by8 bs), .blk p35 [.slice A36 bs.length c37, .bool false] 54, .row A62 bs.length c63 5 1 (by8 bs), .blk p67 [.slice A62 bs.length c63, .bool false] 30] w68 := H70.sub (List.Sublist.cons _ (List.Sublist.cons_cons _ (List.Sublist.cons_cons _ (List.Sublist.cons_cons _ (List.Sublist.cons_cons _ (List.Sublist.slnil))))))
        have H76 := (Hp.reorder (L' := [.blk p35 [.slice A36 bs.length c37, .bool false] 54, .row A36 bs.length c37 5 1 (by8 bs), .blk p67 [.slice A62 bs.length c63, .bool false] 30, .row A62 bs.length c63 5 1 (by8 bs)]) H75 (List.Perm.trans (List.Perm.swap _ _ _) (List.Perm.cons _ (List.Perm.cons _ (List.Perm.trans (List.Perm.swap _ _ _) (List.Perm.refl _))))))
        have hl9 := (H76.rowLe 3 rfl).1
        have hl8 := (H76.rowLe 1 rfl).1
        refine G.fit [6, 8, 50, 51, 52] (M' := [(6, pt p35 0), (8, pt p67 0), (50, .slice A n c0), (51, .int .i64 (n : Int)), (52, .int .i64 0)]) (by kernel_rfl) ?_
        refine G.loop (X := Nat × Option Addr × Nat × Option Addr × Nat × Bool × List UInt8) (fun ⟨j, A3, c3, A4, c4, wr, rest⟩ => [(6, pt p35 0), (8, pt p67 0), (50, .slice A n c0), (51, .int .i64 (n : Int)), (52, .int .i64 (j : Int))]) (fun ⟨j, A3, c3, A4, c4, wr, rest⟩ w_ => (j ≤ n ∧ Cut A36 bs A3 rest ∧ rest.length ≤ c3 ∧ Cut A62 bs A4 rest ∧ rest.length ≤ c4 ∧ rest.length ≤ 1000 ∧ (wr = true → rest = [])) ∧ Hp w [] [.blk p35 [.slice A3 rest.length c3, .bool wr] 54, .row A36 bs.length c37 5 1 (by8 bs), .blk p67 [.slice A4 rest.length c4, .bool wr] 30, .row A62 bs.length c63 5 1 (by8 bs)] w_) (fun ⟨j, A3, c3, A4, c4, wr, rest⟩ => n - j) ⟨0, A36, c37, A62, c63, false, bs⟩ [6, 8, 50, 51, 52] (by kernel_rfl) ⟨⟨Nat.zero_le _, Cut.refl _ _, hl8, Cut.refl _ _, hl9, by omega, fun h => by cases h⟩, H76⟩ ?_
        rintro ⟨j, A3, c3, A4, c4, wr, rest⟩ w78 ⟨hi79, H80⟩
        refine G.eq (M' := [(6, pt p35 0), (8, pt p67 0), (50, .slice A n c0), (51, .int .i64 (n : Int)), (52, .int .i64 (j : Int))]) rfl ?_
        have H80 : Hp w [] [.blk p35 [.slice A3 rest.length c3, .bool wr] 54, .row A36 bs.length c37 5 1 (by8 bs), .blk p67 [.slice A4 rest.length c4, .bool wr] 30, .row A62 bs.length c63 5 1 (by8 bs)] w78 := H80
        obtain ⟨hjn, hcu1, hca1, hcu2, hca2, hr1, hwr0⟩ := hi79
        have hfj := hf j
        have hsj := hs j
        refine G.seqK fun K81 hK82 => ?_
        refine G.region ?_
        refine GL.run (j := 1) 1 [6, 8, 50, 51, 52, 53] [(6, pt p35 0), (8, pt p67 0), (50, .slice A n c0), (51, .int .i64 (n : Int)), (52, .int .i64 (j : Int)), (53, .bool (decide ((j : Int) < (n : Int))))] (by kernel_rfl) rfl ?_
        refine GL.k rfl hK82 (fun _ _ h => h) ?_
        refine G.seqK fun K83 hK84 => ?_
        cases hb85 : (decide ((j : Int) < (n : Int)))
        · skip
          have hb85f := of_decide_eq_false hb85
          refine G.no rfl ?_
          refine G.exitK hK72 (fun _ _ h => h) ?_
          refine G.seqK fun K86 hK87 => ?_
          refine G.region ?_
          refine GL.run (j := 1) 1 [14] [(14, .pointer none)] (by kernel_rfl) rfl ?_
          refine GL.k rfl hK87 (fun _ _ h => h) ?_
          refine G.seqK fun K88 hK89 => ?_
          refine G.region ?_
          refine GL.run (j := 1) 1 [14, 165] [(14, .pointer none), (165, .pointer none)] (by kernel_rfl) rfl ?_
          refine GL.call (j := 2) (RWrong_nil w78) (by kernel_rfl) rfl (fun e_ w90 hR => ?_)
          obtain ⟨rfl, H92⟩ := hR
          have H91 : Hp w [] [.blk p35 [.slice A3 rest.length c3, .bool wr] 54, .row A36 bs.length c37 5 1 (by8 bs), .blk p67 [.slice A4 rest.length c4, .bool wr] 30, .row A62 bs.length c63 5 1 (by8 bs)] w90 := H80.callNil H92
          refine ⟨_, rfl, [14, 166], [(14, .pointer none), (166, .bool true)], by kernel_rfl, ?_⟩
          refine GL.run (j := 4) 2 [14, 167, 168] [(14, .pointer none), (167, .bool true), (168, .pointer none)] (by kernel_rfl) rfl ?_
          refine GL.call (j := 5) (REnd_nil w90) (by kernel_rfl) rfl (fun e_ w93 hR => ?_)
          obtain ⟨rfl, H95⟩ := hR
          have H94 : Hp w [] [.blk p35 [.slice A3 rest.length c3, .bool wr] 54, .row A36 bs.length c37 5 1 (by8 bs), .blk p67 [.slice A4 rest.length c4, .bool wr] 30, .row A62 bs.length c63 5 1 (by8 bs)] w93 := H91.callNil H95
          refine ⟨_, rfl, [14, 167, 169], [(14, .pointer none), (167, .bool true), (169, .bool false)], by kernel_rfl, ?_⟩
          refine GL.run (j := 9) 4 [14, 172, 173] [(14, .pointer none), (172, .bool true), (173, .pointer none)] (by kernel_rfl) rfl ?_
          refine GL.call (j := 10) (RLeft_nil w93) (by kernel_rfl) rfl (fun e_ w96 hR => ?_)
          obtain ⟨rfl, H98⟩ := hR
          have H97 : Hp w [] [.blk p35 [.slice A3 rest.length c3, .bool wr] 54, .row A36 bs.length c37 5 1 (by8 bs), .blk p67 [.slice A4 rest.length c4, .bool wr] 30, .row A62 bs.length c63 5 1 (by8 bs)] w96 := H94.callNil H98
          refine ⟨_, rfl, [14, 172, 174], [(14, .pointer none), (172, .bool true), (174, .int .i64 0)], by kernel_rfl, ?_⟩
          refine GL.run (j := 14) 4 [14, 177, 178] [(14, .pointer none), (177, .bool true), (178, .pointer none)] (by kernel_rfl) rfl ?_
          refine GL.call (j := 15) (RGet_nil w96) (by kernel_rfl) rfl (fun e_ w99 hR => ?_)
          obtain ⟨rfl, H101⟩ := hR
          have H100 : Hp w [] [.blk p35 [.slice A3 rest.length c3, .bool wr] 54, .row A36 bs.length c37 5 1 (by8 bs), .blk p67 [.slice A4 rest.length c4, .bool wr] 30, .row A62 bs.length c63 5 1 (by8 bs)] w99 := H97.callNil H101
          refine ⟨_, rfl, [14, 177, 179], [(14, .pointer none), (177, .bool true), (179, .int .u64 0)], by kernel_rfl, ?_⟩
          refine GL.run (j := 19) 4 [14, 182, 183] [(14, .pointer none), (182, .bool true), (183, .pointer none)] (by kernel_rfl) rfl ?_
          refine GL.call (j := 20) (RCount_nil w99) (by kernel_rfl) rfl (fun e_ w102 hR => ?_)
          obtain ⟨rfl, H104⟩ := hR
          have H103 : Hp w [] [.blk p35 [.slice A3 rest.length c3, .bool wr] 54, .row A36 bs.length c37 5 1 (by8 bs), .blk p67 [.slice A4 rest.length c4, .bool wr] 30, .row A62 bs.length c63 5 1 (by8 bs)] w102 := H100.callNil H104
          refine ⟨_, rfl, [14, 182, 184], [(14, .pointer none), (182, .bool true), (184, .int .u64 0)], by kernel_rfl, ?_⟩
          refine GL.run (j := 24) 4 [14, 187, 188] [(14, .pointer none), (187, .bool true), (188, .pointer none)] (by kernel_rfl) rfl ?_
          refine GL.call (j := 25) (RRaw_nil 0 w102) (by kernel_rfl) rfl (fun e_ w105 hR => ?_)
          obtain ⟨rfl, H107⟩ := hR
          have H106 : Hp w [] [.blk p35 [.slice A3 rest.length c3, .bool wr] 54, .row A36 bs.length c37 5 1 (by8 bs), .blk p67 [.slice A4 rest.length c4, .bool wr] 30, .row A62 bs.length c63 5 1 (by8 bs)] w105 := H103.callNil H107
          refine ⟨_, rfl, [14, 187, 189], [(14, .pointer none), (187, .bool true), (189, .slice none 0 0)], by kernel_rfl, ?_⟩
          refine GL.run (j := 27) 2 [187, 190, 191] [(187, .bool true), (190, .int .i64 0), (191, .pointer none)] (by kernel_rfl) rfl ?_
          refine GL.call (j := 28) (RCounted_nil w105) (by kernel_rfl) rfl (fun e_ w108 hR => ?_)
          obtain ⟨rfl, H110⟩ := hR
          have H109 : Hp w [] [.blk p35 [.slice A3 rest.length c3, .bool wr] 54, .row A36 bs.length c37 5 1 (by8 bs), .blk p67 [.slice A4 rest.length c4, .bool wr] 30, .row A62 bs.length c63 5 1 (by8 bs)] w108 := H106.callNil H110
          refine ⟨_, rfl, [187, 190, 192], [(187, .bool true), (190, .int .i64 0), (192, .slice none 0 0)], by kernel_rfl, ?_⟩
          refine GL.run (j := 33) 5 [4] [(4, .bool true)] (by kernel_rfl) rfl ?_
          refine GL.k rfl hK89 (fun _ _ h => h) ?_
          refine G.ret ?_
          intro F_ hF_ hM_
          refine hRet _ _ (bodyPost_1 rfl (RV.tmp rfl) ?_ F_ hF_ hM_)
          exact ⟨rfl, H109.sub (List.nil_sublist _)⟩
        · skip
          have hb85f := of_decide_eq_true hb85
          refine G.yes rfl ?_
          refine G.skipK hK84 (fun _ _ h => h) ?_
          refine G.seqK fun K111 hK112 => ?_
          refine G.block ?_
          refine G.seqK fun K113 hK114 => ?_
          refine G.region ?_
          refine GL.sem (j := 1) (run_idxRdN (P := Try.prog) (k := .i64) (t := 23) (sz := 4) (A := A) (len := n) (cap := c0) (j := j) (by kernel_rfl) rfl (hr.hp H80) hx (by decide) (by omega)) [6, 8, 50, 51, 52, 54] [(6, pt p35 0), (8, pt p67 0), (50, .slice A n c0), (51, .int .i64 (n : Int)), (52, .int .i64 (j : Int)), (54, .pointer (Option.map (fun x => Addr.add x (j * 4)) A))] (by kernel_rfl) (by kernel_rfl) rfl ?_
          refine GL.sem (j := 2) (run_ldRdA (P := Try.prog) (ty := 33) (A := A) (o := (j * 4)) (m := 4) (sub := [.int .i64 (kk j), .int .i64 (ss j), .int .u64 ((f j : Nat) : Int), .slice (BB j) ((bb j).length) (bc j)]) (by kernel_rfl) (hr.hp H80) (hel j (by omega)) rfl (by decide)) [6, 8, 50, 51, 52, 55] [(6, pt p35 0), (8, pt p67 0), (50, .slice A n c0), (51, .int .i64 (n : Int)), (52, .int .i64 (j : Int)), (55, .agg #[.int .i64 (kk j), .int .i64 (ss j), .int .u64 ((f j : Nat) : Int), .slice (BB j) ((bb j).length) (bc j)])] (by kernel_rfl) (by kernel_rfl) rfl ?_
          obtain ⟨p115, w116, r117, H118⟩ := H80.alloc (P := Try.prog) 33 [.int .i64 0, .int .i64 0, .int .u64 0, .slice none 0 0] (by kernel_rfl)
          have H118 : Hp w [] [.blk p35 [.slice A3 rest.length c3, .bool wr] 54, .row A36 bs.length c37 5 1 (by8 bs), .blk p67 [.slice A4 rest.length c4, .bool wr] 30, .row A62 bs.length c63 5 1 (by8 bs), .blk p115 [.int .i64 0, .int .i64 0, .int .u64 0, .slice none 0 0] 33] w116 := H118
          refine GL.sem (j := 3) (r117) [6, 8, 10, 50, 51, 52, 55] [(6, pt p35 0), (8, pt p67 0), (10, pt p115 0), (50, .slice A n c0), (51, .int .i64 (n : Int)), (52, .int .i64 (j : Int)), (55, .agg #[.int .i64 (kk j), .int .i64 (ss j), .int .u64 ((f j : Nat) : Int), .slice (BB j) ((bb j).length) (bc j)])] (by kernel_rfl) (by kernel_rfl) rfl ?_
          obtain ⟨w119, r120, H121⟩ := H118.stA (P := Try.prog) (o := 0) (vs := [.int .i64 (kk j), .int .i64 (ss j), .int .u64 ((f j : Nat) : Int), .slice (BB j) ((bb j).length) (bc j)]) (ty := 33) (m := 4) 4 rfl (by kernel_rfl) rfl (by simp) (by simp [Value.oneCell'])
          have H121 : Hp w [] [.blk p35 [.slice A3 rest.length c3, .bool wr] 54, .row A36 bs.length c37 5 1 (by8 bs), .blk p67 [.slice A4 rest.length c4, .bool wr] 30, .row A62 bs.length c63 5 1 (by8 bs), .blk p115 [.int .i64 (kk j), .int .i64 (ss j), .int .u64 ((f j : Nat) : Int), .slice (BB j) ((bb j).length) (bc j)] 33] w119 := H121
          refine GL.semU (j := 4) r120 [6, 8, 10, 50, 51, 52] [(6, pt p35 0), (8, pt p67 0), (10, pt p115 0), (50, .slice A n c0), (51, .int .i64 (n : Int)), (52, .int .i64 (j : Int))] (by kernel_rfl) rfl rfl rfl ?_
          refine GL.k rfl hK114 (fun _ _ h => h) ?_
          refine G.seqJ (X := Option Addr × Nat × Option Addr × Nat × Bool × List UInt8) (fun ⟨A5, c5, A6, c6, wr2, rest2⟩ => [(6, pt p35 0), (8, pt p67 0), (50, .slice A n c0), (51, .int .i64 (n : Int)), (52, .int .i64 (j : Int))]) (fun ⟨A5, c5, A6, c6, wr2, rest2⟩ w_ => (Cut A36 bs A5 rest2 ∧ rest2.length ≤ c5 ∧ Cut A62 bs A6 rest2 ∧ rest2.length ≤ c6 ∧ rest2.length ≤ 1000 ∧ (wr2 = true → rest2 = [])) ∧ Hp w [] [.blk p35 [.slice A5 rest2.length c5, .bool wr2] 54, .row A36 bs.length c37 5 1 (by8 bs), .blk p67 [.slice A6 rest2.length c6, .bool wr2] 30, .row A62 bs.length c63 5 1 (by8 bs)] w_) (fun J122 K123 hK124 => ?_) ?_
          · skip
            refine G.seqK fun K125 hK126 => ?_
            refine G.region ?_
            refine GL.run (j := 1) 1 [6, 8, 10, 50, 51, 52, 56] [(6, pt p35 0), (8, pt p67 0), (10, pt p115 0), (50, .slice A n c0), (51, .int .i64 (n : Int)), (52, .int .i64 (j : Int)), (56, pt p115 0)] (by kernel_rfl) rfl ?_
            refine GL.sem (j := 2) (H121.ld (o := 0) (ty := 3) (v := .int .i64 (kk j)) 4 rfl (by kernel_rfl) rfl) [6, 8, 10, 50, 51, 52, 57] [(6, pt p35 0), (8, pt p67 0), (10, pt p115 0), (50, .slice A n c0), (51, .int .i64 (n : Int)), (52, .int .i64 (j : Int)), (57, .int .i64 (kk j))] (by kernel_rfl) (by kernel_rfl) rfl ?_
            refine GL.k rfl hK126 (fun _ _ h => h) ?_
            refine G.block ?_
            refine G.seqK fun K127 hK128 => ?_
            refine G.region ?_
            refine GL.run (j := 2) 2 [6, 8, 10, 50, 51, 52, 57, 58] [(6, pt p35 0), (8, pt p67 0), (10, pt p115 0), (50, .slice A n c0), (51, .int .i64 (n : Int)), (52, .int .i64 (j : Int)), (57, .int .i64 (kk j)), (58, .bool ((kk j) == 0))] (by kernel_rfl) rfl ?_
            refine GL.k rfl hK128 (fun _ _ h => h) ?_
            cases hb129 : ((kk j) == 0)
            · skip
              have hb129f := ne_of_beq_false hb129
              refine G.no rfl ?_
              refine G.seqK fun K130 hK131 => ?_
              refine G.region ?_
              refine GL.run (j := 2) 2 [6, 8, 10, 50, 51, 52, 57, 78] [(6, pt p35 0), (8, pt p67 0), (10, pt p115 0), (50, .slice A n c0), (51, .int .i64 (n : Int)), (52, .int .i64 (j : Int)), (57, .int .i64 (kk j)), (78, .bool ((kk j) == 1))] (by kernel_rfl) rfl ?_
              refine GL.k rfl hK131 (fun _ _ h => h) ?_
              cases hb132 : ((kk j) == 1)
              · skip
                have hb132f := ne_of_beq_false hb132
                refine G.no rfl ?_
                refine G.seqK fun K133 hK134 => ?_
                refine G.region ?_
                refine GL.run (j := 2) 2 [6, 8, 10, 50, 51, 52, 57, 89] [(6, pt p35 0), (8, pt p67 0), (10, pt p115 0), (50, .slice A n c0), (51, .int .i64 (n : Int)), (52, .int .i64 (j : Int)), (57, .int .i64 (kk j)), (89, .bool ((kk j) == 2))] (by kernel_rfl) rfl ?_
                refine GL.k rfl hK134 (fun _ _ h => h) ?_
                cases hb135 : ((kk j) == 2)
                · skip
                  have hb135f := ne_of_beq_false hb135
                  refine G.no rfl ?_
                  refine G.seqK fun K136 hK137 => ?_
                  refine G.region ?_
                  refine GL.run (j := 2) 2 [6, 8, 10, 50, 51, 52, 101] [(6, pt p35 0), (8, pt p67 0), (10, pt p115 0), (50, .slice A n c0), (51, .int .i64 (n : Int)), (52, .int .i64 (j : Int)), (101, .bool ((kk j) == 3))] (by kernel_rfl) rfl ?_
                  refine GL.k rfl hK137 (fun _ _ h => h) ?_
                  cases hb138 : ((kk j) == 3)
                  · skip
                    have hb138f := ne_of_beq_false hb138
                    refine G.no rfl ?_
                    refine G.skipK hK124 (fun _ _ h => h) ?_
                    have H139 : Hp w [] [.blk p35 [.slice A3 rest.length c3, .bool wr] 54, .row A36 bs.length c37 5 1 (by8 bs), .blk p67 [.slice A4 rest.length c4, .bool wr] 30, .row A62 bs.length c63 5 1 (by8 bs)] w119 := H121.sub (List.Sublist.cons_cons _ (List.Sublist.cons_cons _ (List.Sublist.cons_cons _ (List.Sublist.cons_cons _ (List.Sublist.cons _ (List.Sublist.slnil))))))
                    have H140 := (Hp.reorder (L' := [.blk p35 [.slice A3 rest.length c3, .bool wr] 54, .row A36 bs.length c37 5 1 (by8 bs), .blk p67 [.slice A4 rest.length c4, .bool wr] 30, .row A62 bs.length c63 5 1 (by8 bs)]) H139 (List.Perm.refl _))
                    have H141 : Hp w [] [.blk p35 [.slice A3 rest.length c3, .bool wr] 54, .row A36 bs.length c37 5 1 (by8 bs), .blk p67 [.slice A4 rest.length c4, .bool wr] 30, .row A62 bs.length c63 5 1 (by8 bs)] w119 := H140
                    refine G.fit [6, 8, 50, 51, 52] (M' := [(6, pt p35 0), (8, pt p67 0), (50, .slice A n c0), (51, .int .i64 (n : Int)), (52, .int .i64 (j : Int))]) (by kernel_rfl) ?_
                    exact J122 ⟨A3, c3, A4, c4, wr, rest⟩ _ ⟨⟨hcu1, hca1, hcu2, hca2, hr1, hwr0⟩, H141⟩
                  · skip
                    have hb138f := eq_of_beq hb138
                    refine G.yes rfl ?_
                    refine G.seqK fun K142 hK143 => ?_
                    refine G.region ?_
                    refine GL.run (j := 1) 1 [6, 8, 10, 12, 50, 51, 52] [(6, pt p35 0), (8, pt p67 0), (10, pt p115 0), (12, .string ⟨#[]⟩), (50, .slice A n c0), (51, .int .i64 (n : Int)), (52, .int .i64 (j : Int))] (by kernel_rfl) rfl ?_
                    refine GL.k rfl hK143 (fun _ _ h => h) ?_
                    refine G.seqK fun K144 hK145 => ?_
                    refine G.seqK fun K146 hK147 => ?_
                    refine G.region ?_
                    refine GL.run (j := 1) 1 [6, 8, 10, 12, 50, 51, 52, 103] [(6, pt p35 0), (8, pt p67 0), (10, pt p115 0), (12, .string ⟨#[]⟩), (50, .slice A n c0), (51, .int .i64 (n : Int)), (52, .int .i64 (j : Int)), (103, pt p115 1)] (by kernel_rfl) rfl ?_
                    refine GL.sem (j := 2) (H121.ld (o := 1) (ty := 3) (v := .int .i64 (ss j)) 4 rfl (by kernel_rfl) rfl) [6, 8, 10, 12, 50, 51, 52, 104] [(6, pt p35 0), (8, pt p67 0), (10, pt p115 0), (12, .string ⟨#[]⟩), (50, .slice A n c0), (51, .int .i64 (n : Int)), (52, .int .i64 (j : Int)), (104, .int .i64 (ss j))] (by kernel_rfl) (by kernel_rfl) rfl ?_
                    refine GL.run (j := 3) 1 [6, 8, 10, 12, 50, 51, 52, 105] [(6, pt p35 0), (8, pt p67 0), (10, pt p115 0), (12, .string ⟨#[]⟩), (50, .slice A n c0), (51, .int .i64 (n : Int)), (52, .int .i64 (j : Int)), (105, .bool (decide ((ss j) < 0)))] (by kernel_rfl) rfl ?_
                    refine GL.k rfl hK147 (fun _ _ h => h) ?_
                    cases hb148 : (decide ((ss j) < 0))
                    · skip
                      have hb148f := of_decide_eq_false hb148
                      refine G.no rfl ?_
                      refine G.seqK fun K149 hK150 => ?_
                      refine G.region ?_
                      refine GL.run (j := 2) 2 [6, 8, 10, 12, 50, 51, 52, 108, 109] [(6, pt p35 0), (8, pt p67 0), (10, pt p115 0), (12, .string ⟨#[]⟩), (50, .slice A n c0), (51, .int .i64 (n : Int)), (52, .int .i64 (j : Int)), (108, pt p67 0), (109, pt p115 1)] (by kernel_rfl) rfl ?_
                      refine GL.sem (j := 3) (H121.ld (o := 1) (ty := 3) (v := .int .i64 (ss j)) 4 rfl (by kernel_rfl) rfl) [6, 8, 10, 12, 50, 51, 52, 108, 110] [(6, pt p35 0), (8, pt p67 0), (10, pt p115 0), (12, .string ⟨#[]⟩), (50, .slice A n c0), (51, .int .i64 (n : Int)), (52, .int .i64 (j : Int)), (108, pt p67 0), (110, .int .i64 (ss j))] (by kernel_rfl) (by kernel_rfl) rfl ?_
                      refine GL.run (j := 4) 1 [6, 8, 10, 12, 50, 51, 52, 108, 111] [(6, pt p35 0), (8, pt p67 0), (10, pt p115 0), (12, .string ⟨#[]⟩), (50, .slice A n c0), (51, .int .i64 (n : Int)), (52, .int .i64 (j : Int)), (108, pt p67 0), (111, .int .u64 (IntKind.u64.wrap (ss j)))] (by kernel_rfl) rfl ?_
                      have e151 : (IntKind.u64.wrap (ss j)) = (((ss j).toNat : Nat) : Int) := by rw [in_u64 (by omega)]; omega
                      refine GL.eq (M' := [(6, pt p35 0), (8, pt p67 0), (10, pt p115 0), (12, .string ⟨#[]⟩), (50, .slice A n c0), (51, .int .i64 (n : Int)), (52, .int .i64 (j : Int)), (108, pt p67 0), (111, .int .u64 (((ss j).toNat : Nat) : Int))]) (by rw [e151]) ?_
                      clear e151
                      have H156 := (Hp.reorder (L' := [.blk p67 [.slice A4 rest.length c4, .bool wr] 30, .row A62 bs.length c63 5 1 (by8 bs), .blk p35 [.slice A3 rest.length c3, .bool wr] 54, .row A36 bs.length c37 5 1 (by8 bs), .blk p115 [.int .i64 (kk j), .int .i64 (ss j), .int .u64 ((f j : Nat) : Int), .slice (BB j) ((bb j).length) (bc j)] 33]) H121 (List.Perm.trans (List.Perm.cons _ (List.Perm.swap _ _ _)) (List.Perm.trans (List.Perm.swap _ _ _) (List.Perm.cons _ (List.Perm.trans (List.Perm.cons _ (List.Perm.swap _ _ _)) (List.Perm.trans (List.Perm.swap _ _ _) (List.Perm.refl _)))))))
                      refine GL.call (j := 5) (MCount_calls (ids [.blk p67 [.slice A4 rest.length c4, .bool wr] 30, .row A62 bs.length c63 5 1 (by8 bs)]) p67 A4 rest.length c4 wr A62 bs.length c63 bs rest ((ss j).toNat) w119 (Hp.startL (A := [.blk p67 [.slice A4 rest.length c4, .bool wr] 30, .row A62 bs.length c63 5 1 (by8 bs)]) (B := [.blk p35 [.slice A3 rest.length c3, .bool wr] 54, .row A36 bs.length c37 5 1 (by8 bs), .blk p115 [.int .i64 (kk j), .int .i64 (ss j), .int .u64 ((f j : Nat) : Int), .slice (BB j) ((bb j).length) (bc j)] 33]) H156) hcu2 (rfl) (hca2) ((Nat.le_trans hr1 (by decide)))) (by kernel_rfl) rfl (fun e_ w157 hR => ?_)
                      obtain ⟨A152, c153, rfl, H159, hC154, hL155⟩ := hR
                      have H158 : Hp w [] [.blk p67 [.slice A152 ((ctR wr rest ((ss j).toNat)).length) c153, .bool (!(ctOK wr rest ((ss j).toNat)))] 30, .row A62 bs.length c63 5 1 (by8 bs), .blk p35 [.slice A3 rest.length c3, .bool wr] 54, .row A36 bs.length c37 5 1 (by8 bs), .blk p115 [.int .i64 (kk j), .int .i64 (ss j), .int .u64 ((f j : Nat) : Int), .slice (BB j) ((bb j).length) (bc j)] 33] w157 := Hp.callL (A := [.blk p67 [.slice A4 rest.length c4, .bool wr] 30, .row A62 bs.length c63 5 1 (by8 bs)]) (B := [.blk p35 [.slice A3 rest.length c3, .bool wr] 54, .row A36 bs.length c37 5 1 (by8 bs), .blk p115 [.int .i64 (kk j), .int .i64 (ss j), .int .u64 ((f j : Nat) : Int), .slice (BB j) ((bb j).length) (bc j)] 33]) H156 H159
                      refine ⟨_, rfl, [6, 8, 10, 12, 50, 51, 52, 112], [(6, pt p35 0), (8, pt p67 0), (10, pt p115 0), (12, .string ⟨#[]⟩), (50, .slice A n c0), (51, .int .i64 (n : Int)), (52, .int .i64 (j : Int)), (112, .int .u64 (((ctV wr rest ((ss j).toNat)) : Nat) : Int))], by kernel_rfl, ?_⟩
                      refine GL.run (j := 6) 1 [6, 8, 10, 12, 13, 50, 51, 52] [(6, pt p35 0), (8, pt p67 0), (10, pt p115 0), (12, .string ⟨#[]⟩), (13, .int .u64 (((ctV wr rest ((ss j).toNat)) : Nat) : Int)), (50, .slice A n c0), (51, .int .i64 (n : Int)), (52, .int .i64 (j : Int))] (by kernel_rfl) rfl ?_
                      refine GL.k rfl hK150 (fun _ _ h => h) ?_
                      refine G.seqK fun K160 hK161 => ?_
                      refine G.region ?_
                      refine GL.run (j := 3) 3 [6, 8, 10, 12, 13, 50, 51, 52, 115] [(6, pt p35 0), (8, pt p67 0), (10, pt p115 0), (12, .string ⟨#[]⟩), (13, .int .u64 (((ctV wr rest ((ss j).toNat)) : Nat) : Int)), (50, .slice A n c0), (51, .int .i64 (n : Int)), (52, .int .i64 (j : Int)), (115, pt p67 1)] (by kernel_rfl) rfl ?_
                      refine GL.sem (j := 4) (H158.ld (o := 1) (ty := 4) (v := .bool (!(ctOK wr rest ((ss j).toNat)))) 0 rfl (by kernel_rfl) rfl) [6, 8, 10, 12, 13, 50, 51, 52, 116] [(6, pt p35 0), (8, pt p67 0), (10, pt p115 0), (12, .string ⟨#[]⟩), (13, .int .u64 (((ctV wr rest ((ss j).toNat)) : Nat) : Int)), (50, .slice A n c0), (51, .int .i64 (n : Int)), (52, .int .i64 (j : Int)), (116, .bool (!(ctOK wr rest ((ss j).toNat))))] (by kernel_rfl) (by kernel_rfl) rfl ?_
                      refine GL.run (j := 5) 1 [6, 8, 10, 12, 13, 50, 51, 52, 117] [(6, pt p35 0), (8, pt p67 0), (10, pt p115 0), (12, .string ⟨#[]⟩), (13, .int .u64 (((ctV wr rest ((ss j).toNat)) : Nat) : Int)), (50, .slice A n c0), (51, .int .i64 (n : Int)), (52, .int .i64 (j : Int)), (117, .bool (!(!(ctOK wr rest ((ss j).toNat)))))] (by kernel_rfl) rfl ?_
                      refine GL.k rfl hK161 (fun _ _ h => h) ?_
                      cases hb162 : (ctOK wr rest ((ss j).toNat))
                      · skip
                        refine G.no rfl ?_
                        refine G.skipK hK145 (fun _ _ h => h) ?_
                        refine G.seqK fun K163 hK164 => ?_
                        refine G.region ?_
                        refine GL.run (j := 2) 2 [6, 8, 12, 50, 51, 52, 122, 123] [(6, pt p35 0), (8, pt p67 0), (12, .string ⟨#[]⟩), (50, .slice A n c0), (51, .int .i64 (n : Int)), (52, .int .i64 (j : Int)), (122, pt p35 0), (123, pt p115 1)] (by kernel_rfl) rfl ?_
                        refine GL.sem (j := 3) (H158.ld (o := 1) (ty := 3) (v := .int .i64 (ss j)) 4 rfl (by kernel_rfl) rfl) [6, 8, 12, 50, 51, 52, 122, 124] [(6, pt p35 0), (8, pt p67 0), (12, .string ⟨#[]⟩), (50, .slice A n c0), (51, .int .i64 (n : Int)), (52, .int .i64 (j : Int)), (122, pt p35 0), (124, .int .i64 (ss j))] (by kernel_rfl) (by kernel_rfl) rfl ?_
                        have H171 := (Hp.reorder (L' := [.blk p35 [.slice A3 rest.length c3, .bool wr] 54, .row A36 bs.length c37 5 1 (by8 bs), .blk p67 [.slice A152 ((ctR wr rest ((ss j).toNat)).length) c153, .bool (!(ctOK wr rest ((ss j).toNat)))] 30, .row A62 bs.length c63 5 1 (by8 bs), .blk p115 [.int .i64 (kk j), .int .i64 (ss j), .int .u64 ((f j : Nat) : Int), .slice (BB j) ((bb j).length) (bc j)] 33]) H158 (List.Perm.trans (List.Perm.cons _ (List.Perm.swap _ _ _)) (List.Perm.trans (List.Perm.swap _ _ _) (List.Perm.cons _ (List.Perm.trans (List.Perm.cons _ (List.Perm.swap _ _ _)) (List.Perm.trans (List.Perm.swap _ _ _) (List.Perm.refl _)))))))
                        refine GL.call (j := 4) (RCountedZ_calls (ids [.blk p35 [.slice A3 rest.length c3, .bool wr] 54, .row A36 bs.length c37 5 1 (by8 bs)]) p35 A3 rest.length c3 wr A36 bs.length c37 bs rest (ss j) w157 (Hp.startL (A := [.blk p35 [.slice A3 rest.length c3, .bool wr] 54, .row A36 bs.length c37 5 1 (by8 bs)]) (B := [.blk p67 [.slice A152 ((ctR wr rest ((ss j).toNat)).length) c153, .bool (!(ctOK wr rest ((ss j).toNat)))] 30, .row A62 bs.length c63 5 1 (by8 bs), .blk p115 [.int .i64 (kk j), .int .i64 (ss j), .int .u64 ((f j : Nat) : Int), .slice (BB j) ((bb j).length) (bc j)] 33]) H171) hcu1 (rfl) (hca1) ((Nat.le_trans hr1 (by decide))) (by omega) (by omega)) (by kernel_rfl) rfl (fun e_ w172 hR => ?_)
                        obtain ⟨A165, c166, A167, c168, rfl, H174, hC169, hL170⟩ := hR
                        have H173 : Hp w [] [.blk p35 [.slice A165 ((cdR wr rest (ss j).toNat).length) c166, .bool (!(cdOK wr rest (ss j).toNat))] 54, .row A36 bs.length c37 5 1 (by8 bs), .row A167 ((cdV wr rest (ss j).toNat).length) c168 5 1 (by8 (cdV wr rest (ss j).toNat)), .blk p67 [.slice A152 ((ctR wr rest ((ss j).toNat)).length) c153, .bool (!(ctOK wr rest ((ss j).toNat)))] 30, .row A62 bs.length c63 5 1 (by8 bs), .blk p115 [.int .i64 (kk j), .int .i64 (ss j), .int .u64 ((f j : Nat) : Int), .slice (BB j) ((bb j).length) (bc j)] 33] w172 := Hp.callL (A := [.blk p35 [.slice A3 rest.length c3, .bool wr] 54, .row A36 bs.length c37 5 1 (by8 bs)]) (B := [.blk p67 [.slice A152 ((ctR wr rest ((ss j).toNat)).length) c153, .bool (!(ctOK wr rest ((ss j).toNat)))] 30, .row A62 bs.length c63 5 1 (by8 bs), .blk p115 [.int .i64 (kk j), .int .i64 (ss j), .int .u64 ((f j : Nat) : Int), .slice (BB j) ((bb j).length) (bc j)] 33]) H171 H174
                        refine ⟨_, rfl, [6, 8, 12, 50, 51, 52, 125], [(6, pt p35 0), (8, pt p67 0), (12, .string ⟨#[]⟩), (50, .slice A n c0), (51, .int .i64 (n : Int)), (52, .int .i64 (j : Int)), (125, .slice A167 ((cdV wr rest (ss j).toNat).length) c168)], by kernel_rfl, ?_⟩
                        refine GL.sem (j := 5) (run_toStr (P := Try.prog) (src := 22) (dst := 9) (A := A167) (bs := (cdV wr rest (ss j).toNat)) (n := (cdV wr rest (ss j).toNat).length) (c := c168) (by kernel_rfl) (by kernel_rfl) (H173.rdRow 2 rfl) (rfl)) [6, 8, 12, 50, 51, 52, 126] [(6, pt p35 0), (8, pt p67 0), (12, .string ⟨#[]⟩), (50, .slice A n c0), (51, .int .i64 (n : Int)), (52, .int .i64 (j : Int)), (126, .string (strOf (cdV wr rest (ss j).toNat)))] (by kernel_rfl) (by kernel_rfl) rfl ?_
                        refine GL.run (j := 6) 1 [6, 8, 50, 51, 52, 126, 127] [(6, pt p35 0), (8, pt p67 0), (50, .slice A n c0), (51, .int .i64 (n : Int)), (52, .int .i64 (j : Int)), (126, .string (strOf (cdV wr rest (ss j).toNat))), (127, .string ⟨#[]⟩)] (by kernel_rfl) rfl ?_
                        refine GL.sem (j := 7) (run_str_neq (P := Try.prog) (t := 9) (cdV wr rest (ss j).toNat) ([] : List UInt8) _) [6, 8, 50, 51, 52, 128] [(6, pt p35 0), (8, pt p67 0), (50, .slice A n c0), (51, .int .i64 (n : Int)), (52, .int .i64 (j : Int)), (128, .bool (!((cdV wr rest (ss j).toNat) == ([] : List UInt8))))] (by kernel_rfl) (by kernel_rfl) rfl ?_
                        refine GL.k rfl hK164 (fun _ _ h => h) ?_
                        have hb175 : (!((cdV wr rest (ss j).toNat) == ([] : List UInt8))) = false := by rw [show ((cdV wr rest (ss j).toNat) == ([] : List UInt8)) = true from by rw [(cd_bad (by assumption : ctOK wr rest (ss j).toNat = false)).1]; rfl]; rfl
                        rw [hb175]
                        refine G.no rfl ?_
                        refine G.skipK hK124 (fun _ _ h => h) ?_
                        have H176 : Hp w [] [.blk p35 [.slice A165 ((cdR wr rest (ss j).toNat).length) c166, .bool (!(cdOK wr rest (ss j).toNat))] 54, .row A36 bs.length c37 5 1 (by8 bs), .blk p67 [.slice A152 ((ctR wr rest ((ss j).toNat)).length) c153, .bool (!(ctOK wr rest ((ss j).toNat)))] 30, .row A62 bs.length c63 5 1 (by8 bs)] w172 := H173.sub (List.Sublist.cons_cons _ (List.Sublist.cons_cons _ (List.Sublist.cons _ (List.Sublist.cons_cons _ (List.Sublist.cons_cons _ (List.Sublist.cons _ (List.Sublist.slnil)))))))
                        have H177 := (Hp.reorder (L' := [.blk p35 [.slice A165 ((cdR wr rest (ss j).toNat).length) c166, .bool (!(cdOK wr rest (ss j).toNat))] 54, .row A36 bs.length c37 5 1 (by8 bs), .blk p67 [.slice A152 ((ctR wr rest ((ss j).toNat)).length) c153, .bool (!(ctOK wr rest ((ss j).toNat)))] 30, .row A62 bs.length c63 5 1 (by8 bs)]) H176 (List.Perm.refl _))
                        obtain ⟨x1, x2, x3⟩ := cd_bad (by assumption : ctOK wr rest (ss j).toNat = false)
                        have x4 := ctR_wrong (wr := wr) (rest := rest) (m := (ss j).toNat) (by rw [(by assumption : ctOK wr rest (ss j).toNat = false)]; rfl)
                        have H1780 := H177
                        simp only [x2, x3, x4, (by assumption : ctOK wr rest (ss j).toNat = false)] at H1780
                        have H178 : Hp w [] [.blk p35 [.slice A165 (([] : List UInt8).length) c166, .bool true] 54, .row A36 bs.length c37 5 1 (by8 bs), .blk p67 [.slice A152 (([] : List UInt8).length) c153, .bool true] 30, .row A62 bs.length c63 5 1 (by8 bs)] w172 := H1780
                        have k1 := hC169
                        have k2 := hL170
                        have k3 := hC154
                        have k4 := hL155
                        rw [x2] at k1 k2
                        rw [x4] at k3 k4
                        refine G.fit [6, 8, 50, 51, 52] (M' := [(6, pt p35 0), (8, pt p67 0), (50, .slice A n c0), (51, .int .i64 (n : Int)), (52, .int .i64 (j : Int))]) (by kernel_rfl) ?_
                        exact J122 ⟨A165, c166, A152, c153, true, ([] : List UInt8)⟩ _ ⟨⟨k1, k2, k3, k4, by simp, fun _ => rfl⟩, H178⟩
                      · skip
                        refine G.yes rfl ?_
                        refine G.region ?_
                        refine GL.run (j := 3) 3 [6, 8, 10, 50, 51, 52, 118, 120] [(6, pt p35 0), (8, pt p67 0), (10, pt p115 0), (50, .slice A n c0), (51, .int .i64 (n : Int)), (52, .int .i64 (j : Int)), (118, pt p67 0), (120, .int .i64 (IntKind.i64.wrap (((ctV wr rest ((ss j).toNat)) : Nat) : Int)))] (by kernel_rfl) rfl ?_
                        have e179 : (IntKind.i64.wrap (((ctV wr rest ((ss j).toNat)) : Nat) : Int)) = (((ctV wr rest ((ss j).toNat)) : Nat) : Int) := in_i64 (by have := ctV_le wr rest (ss j).toNat; omega)
                        refine GL.eq (M' := [(6, pt p35 0), (8, pt p67 0), (10, pt p115 0), (50, .slice A n c0), (51, .int .i64 (n : Int)), (52, .int .i64 (j : Int)), (118, pt p67 0), (120, .int .i64 (((ctV wr rest ((ss j).toNat)) : Nat) : Int))]) (by rw [e179]) ?_
                        clear e179
                        refine GL.call (j := 4) (MRaw_calls (ids [.blk p67 [.slice A152 ((ctR wr rest ((ss j).toNat)).length) c153, .bool (!(ctOK wr rest ((ss j).toNat)))] 30, .row A62 bs.length c63 5 1 (by8 bs)]) p67 A152 ((ctR wr rest ((ss j).toNat)).length) c153 (!(ctOK wr rest ((ss j).toNat))) A62 bs.length c63 bs (ctR wr rest ((ss j).toNat)) (((ctV wr rest ((ss j).toNat)) : Nat) : Int) w157 (Hp.startL (A := [.blk p67 [.slice A152 ((ctR wr rest ((ss j).toNat)).length) c153, .bool (!(ctOK wr rest ((ss j).toNat)))] 30, .row A62 bs.length c63 5 1 (by8 bs)]) (B := [.blk p35 [.slice A3 rest.length c3, .bool wr] 54, .row A36 bs.length c37 5 1 (by8 bs), .blk p115 [.int .i64 (kk j), .int .i64 (ss j), .int .u64 ((f j : Nat) : Int), .slice (BB j) ((bb j).length) (bc j)] 33]) H158) hC154 (rfl) (hL155) ((Nat.le_trans (ctR_le _ _ _) (Nat.le_trans hr1 (by decide))))) (by kernel_rfl) rfl (fun e_ w184 hR => ?_)
                        obtain ⟨A180, c181, rfl, H186, hC182, hL183⟩ := hR
                        have H185 : Hp w [] [.blk p67 [.slice A180 ((zR (!(ctOK wr rest ((ss j).toNat))) (ctR wr rest ((ss j).toNat)) (((ctV wr rest ((ss j).toNat)) : Nat) : Int)).length) c181, .bool (!(zOK (!(ctOK wr rest ((ss j).toNat))) (ctR wr rest ((ss j).toNat)) (((ctV wr rest ((ss j).toNat)) : Nat) : Int)))] 30, .row A62 bs.length c63 5 1 (by8 bs), .blk p35 [.slice A3 rest.length c3, .bool wr] 54, .row A36 bs.length c37 5 1 (by8 bs), .blk p115 [.int .i64 (kk j), .int .i64 (ss j), .int .u64 ((f j : Nat) : Int), .slice (BB j) ((bb j).length) (bc j)] 33] w184 := Hp.callL (A := [.blk p67 [.slice A152 ((ctR wr rest ((ss j).toNat)).length) c153, .bool (!(ctOK wr rest ((ss j).toNat)))] 30, .row A62 bs.length c63 5 1 (by8 bs)]) (B := [.blk p35 [.slice A3 rest.length c3, .bool wr] 54, .row A36 bs.length c37 5 1 (by8 bs), .blk p115 [.int .i64 (kk j), .int .i64 (ss j), .int .u64 ((f j : Nat) : Int), .slice (BB j) ((bb j).length) (bc j)] 33]) H158 H186
                        refine ⟨_, rfl, [6, 8, 10, 50, 51, 52, 121], [(6, pt p35 0), (8, pt p67 0), (10, pt p115 0), (50, .slice A n c0), (51, .int .i64 (n : Int)), (52, .int .i64 (j : Int)), (121, .string (strOf (zV (!(ctOK wr rest ((ss j).toNat))) (ctR wr rest ((ss j).toNat)) (((ctV wr rest ((ss j).toNat)) : Nat) : Int))))], by kernel_rfl, ?_⟩
                        refine GL.run (j := 5) 1 [6, 8, 10, 12, 50, 51, 52] [(6, pt p35 0), (8, pt p67 0), (10, pt p115 0), (12, .string (strOf (zV (!(ctOK wr rest ((ss j).toNat))) (ctR wr rest ((ss j).toNat)) (((ctV wr rest ((ss j).toNat)) : Nat) : Int)))), (50, .slice A n c0), (51, .int .i64 (n : Int)), (52, .int .i64 (j : Int))] (by kernel_rfl) rfl ?_
                        refine GL.k rfl hK145 (fun _ _ h => h) ?_
                        refine G.seqK fun K187 hK188 => ?_
                        refine G.region ?_
                        refine GL.run (j := 2) 2 [6, 8, 12, 50, 51, 52, 122, 123] [(6, pt p35 0), (8, pt p67 0), (12, .string (strOf (zV (!(ctOK wr rest ((ss j).toNat))) (ctR wr rest ((ss j).toNat)) (((ctV wr rest ((ss j).toNat)) : Nat) : Int)))), (50, .slice A n c0), (51, .int .i64 (n : Int)), (52, .int .i64 (j : Int)), (122, pt p35 0), (123, pt p115 1)] (by kernel_rfl) rfl ?_
                        refine GL.sem (j := 3) (H185.ld (o := 1) (ty := 3) (v := .int .i64 (ss j)) 4 rfl (by kernel_rfl) rfl) [6, 8, 12, 50, 51, 52, 122, 124] [(6, pt p35 0), (8, pt p67 0), (12, .string (strOf (zV (!(ctOK wr rest ((ss j).toNat))) (ctR wr rest ((ss j).toNat)) (((ctV wr rest ((ss j).toNat)) : Nat) : Int)))), (50, .slice A n c0), (51, .int .i64 (n : Int)), (52, .int .i64 (j : Int)), (122, pt p35 0), (124, .int .i64 (ss j))] (by kernel_rfl) (by kernel_rfl) rfl ?_
                        have H195 := (Hp.reorder (L' := [.blk p35 [.slice A3 rest.length c3, .bool wr] 54, .row A36 bs.length c37 5 1 (by8 bs), .blk p67 [.slice A180 ((zR (!(ctOK wr rest ((ss j).toNat))) (ctR wr rest ((ss j).toNat)) (((ctV wr rest ((ss j).toNat)) : Nat) : Int)).length) c181, .bool (!(zOK (!(ctOK wr rest ((ss j).toNat))) (ctR wr rest ((ss j).toNat)) (((ctV wr rest ((ss j).toNat)) : Nat) : Int)))] 30, .row A62 bs.length c63 5 1 (by8 bs), .blk p115 [.int .i64 (kk j), .int .i64 (ss j), .int .u64 ((f j : Nat) : Int), .slice (BB j) ((bb j).length) (bc j)] 33]) H185 (List.Perm.trans (List.Perm.cons _ (List.Perm.swap _ _ _)) (List.Perm.trans (List.Perm.swap _ _ _) (List.Perm.cons _ (List.Perm.trans (List.Perm.cons _ (List.Perm.swap _ _ _)) (List.Perm.trans (List.Perm.swap _ _ _) (List.Perm.refl _)))))))
                        refine GL.call (j := 4) (RCountedZ_calls (ids [.blk p35 [.slice A3 rest.length c3, .bool wr] 54, .row A36 bs.length c37 5 1 (by8 bs)]) p35 A3 rest.length c3 wr A36 bs.length c37 bs rest (ss j) w184 (Hp.startL (A := [.blk p35 [.slice A3 rest.length c3, .bool wr] 54, .row A36 bs.length c37 5 1 (by8 bs)]) (B := [.blk p67 [.slice A180 ((zR (!(ctOK wr rest ((ss j).toNat))) (ctR wr rest ((ss j).toNat)) (((ctV wr rest ((ss j).toNat)) : Nat) : Int)).length) c181, .bool (!(zOK (!(ctOK wr rest ((ss j).toNat))) (ctR wr rest ((ss j).toNat)) (((ctV wr rest ((ss j).toNat)) : Nat) : Int)))] 30, .row A62 bs.length c63 5 1 (by8 bs), .blk p115 [.int .i64 (kk j), .int .i64 (ss j), .int .u64 ((f j : Nat) : Int), .slice (BB j) ((bb j).length) (bc j)] 33]) H195) hcu1 (rfl) (hca1) ((Nat.le_trans hr1 (by decide))) (by omega) (by omega)) (by kernel_rfl) rfl (fun e_ w196 hR => ?_)
                        obtain ⟨A189, c190, A191, c192, rfl, H198, hC193, hL194⟩ := hR
                        have H197 : Hp w [] [.blk p35 [.slice A189 ((cdR wr rest (ss j).toNat).length) c190, .bool (!(cdOK wr rest (ss j).toNat))] 54, .row A36 bs.length c37 5 1 (by8 bs), .row A191 ((cdV wr rest (ss j).toNat).length) c192 5 1 (by8 (cdV wr rest (ss j).toNat)), .blk p67 [.slice A180 ((zR (!(ctOK wr rest ((ss j).toNat))) (ctR wr rest ((ss j).toNat)) (((ctV wr rest ((ss j).toNat)) : Nat) : Int)).length) c181, .bool (!(zOK (!(ctOK wr rest ((ss j).toNat))) (ctR wr rest ((ss j).toNat)) (((ctV wr rest ((ss j).toNat)) : Nat) : Int)))] 30, .row A62 bs.length c63 5 1 (by8 bs), .blk p115 [.int .i64 (kk j), .int .i64 (ss j), .int .u64 ((f j : Nat) : Int), .slice (BB j) ((bb j).length) (bc j)] 33] w196 := Hp.callL (A := [.blk p35 [.slice A3 rest.length c3, .bool wr] 54, .row A36 bs.length c37 5 1 (by8 bs)]) (B := [.blk p67 [.slice A180 ((zR (!(ctOK wr rest ((ss j).toNat))) (ctR wr rest ((ss j).toNat)) (((ctV wr rest ((ss j).toNat)) : Nat) : Int)).length) c181, .bool (!(zOK (!(ctOK wr rest ((ss j).toNat))) (ctR wr rest ((ss j).toNat)) (((ctV wr rest ((ss j).toNat)) : Nat) : Int)))] 30, .row A62 bs.length c63 5 1 (by8 bs), .blk p115 [.int .i64 (kk j), .int .i64 (ss j), .int .u64 ((f j : Nat) : Int), .slice (BB j) ((bb j).length) (bc j)] 33]) H195 H198
                        refine ⟨_, rfl, [6, 8, 12, 50, 51, 52, 125], [(6, pt p35 0), (8, pt p67 0), (12, .string (strOf (zV (!(ctOK wr rest ((ss j).toNat))) (ctR wr rest ((ss j).toNat)) (((ctV wr rest ((ss j).toNat)) : Nat) : Int)))), (50, .slice A n c0), (51, .int .i64 (n : Int)), (52, .int .i64 (j : Int)), (125, .slice A191 ((cdV wr rest (ss j).toNat).length) c192)], by kernel_rfl, ?_⟩
                        refine GL.sem (j := 5) (run_toStr (P := Try.prog) (src := 22) (dst := 9) (A := A191) (bs := (cdV wr rest (ss j).toNat)) (n := (cdV wr rest (ss j).toNat).length) (c := c192) (by kernel_rfl) (by kernel_rfl) (H197.rdRow 2 rfl) (rfl)) [6, 8, 12, 50, 51, 52, 126] [(6, pt p35 0), (8, pt p67 0), (12, .string (strOf (zV (!(ctOK wr rest ((ss j).toNat))) (ctR wr rest ((ss j).toNat)) (((ctV wr rest ((ss j).toNat)) : Nat) : Int)))), (50, .slice A n c0), (51, .int .i64 (n : Int)), (52, .int .i64 (j : Int)), (126, .string (strOf (cdV wr rest (ss j).toNat)))] (by kernel_rfl) (by kernel_rfl) rfl ?_
                        refine GL.run (j := 6) 1 [6, 8, 50, 51, 52, 126, 127] [(6, pt p35 0), (8, pt p67 0), (50, .slice A n c0), (51, .int .i64 (n : Int)), (52, .int .i64 (j : Int)), (126, .string (strOf (cdV wr rest (ss j).toNat))), (127, .string (strOf (zV (!(ctOK wr rest ((ss j).toNat))) (ctR wr rest ((ss j).toNat)) (((ctV wr rest ((ss j).toNat)) : Nat) : Int))))] (by kernel_rfl) rfl ?_
                        refine GL.sem (j := 7) (run_str_neq (P := Try.prog) (t := 9) (cdV wr rest (ss j).toNat) (zV (!(ctOK wr rest ((ss j).toNat))) (ctR wr rest ((ss j).toNat)) (((ctV wr rest ((ss j).toNat)) : Nat) : Int)) _) [6, 8, 50, 51, 52, 128] [(6, pt p35 0), (8, pt p67 0), (50, .slice A n c0), (51, .int .i64 (n : Int)), (52, .int .i64 (j : Int)), (128, .bool (!((cdV wr rest (ss j).toNat) == (zV (!(ctOK wr rest ((ss j).toNat))) (ctR wr rest ((ss j).toNat)) (((ctV wr rest ((ss j).toNat)) : Nat) : Int)))))] (by kernel_rfl) (by kernel_rfl) rfl ?_
                        refine GL.k rfl hK188 (fun _ _ h => h) ?_
                        have hb199 : (!((cdV wr rest (ss j).toNat) == (zV (!(ctOK wr rest ((ss j).toNat))) (ctR wr rest ((ss j).toNat)) (((ctV wr rest ((ss j).toNat)) : Nat) : Int)))) = false := by rw [show ((cdV wr rest (ss j).toNat) == (zV (!(ctOK wr rest ((ss j).toNat))) (ctR wr rest ((ss j).toNat)) (((ctV wr rest ((ss j).toNat)) : Nat) : Int))) = true from beq_self_eq_true _]; rfl
                        rw [hb199]
                        refine G.no rfl ?_
                        refine G.skipK hK124 (fun _ _ h => h) ?_
                        have H200 : Hp w [] [.blk p35 [.slice A189 ((cdR wr rest (ss j).toNat).length) c190, .bool (!(cdOK wr rest (ss j).toNat))] 54, .row A36 bs.length c37 5 1 (by8 bs), .blk p67 [.slice A180 ((zR (!(ctOK wr rest ((ss j).toNat))) (ctR wr rest ((ss j).toNat)) (((ctV wr rest ((ss j).toNat)) : Nat) : Int)).length) c181, .bool (!(zOK (!(ctOK wr rest ((ss j).toNat))) (ctR wr rest ((ss j).toNat)) (((ctV wr rest ((ss j).toNat)) : Nat) : Int)))] 30, .row A62 bs.length c63 5 1 (by8 bs)] w196 := H197.sub (List.Sublist.cons_cons _ (List.Sublist.cons_cons _ (List.Sublist.cons _ (List.Sublist.cons_cons _ (List.Sublist.cons_cons _ (List.Sublist.cons _ (List.Sublist.slnil)))))))
                        have H201 := (Hp.reorder (L' := [.blk p35 [.slice A189 ((cdR wr rest (ss j).toNat).length) c190, .bool (!(cdOK wr rest (ss j).toNat))] 54, .row A36 bs.length c37 5 1 (by8 bs), .blk p67 [.slice A180 ((zR (!(ctOK wr rest ((ss j).toNat))) (ctR wr rest ((ss j).toNat)) (((ctV wr rest ((ss j).toNat)) : Nat) : Int)).length) c181, .bool (!(zOK (!(ctOK wr rest ((ss j).toNat))) (ctR wr rest ((ss j).toNat)) (((ctV wr rest ((ss j).toNat)) : Nat) : Int)))] 30, .row A62 bs.length c63 5 1 (by8 bs)]) H200 (List.Perm.refl _))
                        have H202 : Hp w [] [.blk p35 [.slice A189 ((cdR wr rest (ss j).toNat).length) c190, .bool (!(cdOK wr rest (ss j).toNat))] 54, .row A36 bs.length c37 5 1 (by8 bs), .blk p67 [.slice A180 ((cdR wr rest (ss j).toNat).length) c181, .bool (!(cdOK wr rest (ss j).toNat))] 30, .row A62 bs.length c63 5 1 (by8 bs)] w196 := H201
                        refine G.fit [6, 8, 50, 51, 52] (M' := [(6, pt p35 0), (8, pt p67 0), (50, .slice A n c0), (51, .int .i64 (n : Int)), (52, .int .i64 (j : Int))]) (by kernel_rfl) ?_
                        exact J122 ⟨A189, c190, A180, c181, (!(cdOK wr rest (ss j).toNat)), (cdR wr rest (ss j).toNat)⟩ _ ⟨⟨hC193, hL194, hC182, hL183, Nat.le_trans (cdR_le _ _ _) hr1, cdR_wrong⟩, H202⟩
                    · skip
                      have hb148f := of_decide_eq_true hb148
                      refine G.yes rfl ?_
                      refine G.region ?_
                      refine GL.run (j := 1) 1 [6, 8, 10, 12, 50, 51, 52, 106] [(6, pt p35 0), (8, pt p67 0), (10, pt p115 0), (12, .string ⟨#[]⟩), (50, .slice A n c0), (51, .int .i64 (n : Int)), (52, .int .i64 (j : Int)), (106, pt p67 0)] (by kernel_rfl) rfl ?_
                      have H203 := (Hp.reorder (L' := [.blk p67 [.slice A4 rest.length c4, .bool wr] 30, .row A62 bs.length c63 5 1 (by8 bs), .blk p35 [.slice A3 rest.length c3, .bool wr] 54, .row A36 bs.length c37 5 1 (by8 bs), .blk p115 [.int .i64 (kk j), .int .i64 (ss j), .int .u64 ((f j : Nat) : Int), .slice (BB j) ((bb j).length) (bc j)] 33]) H121 (List.Perm.trans (List.Perm.cons _ (List.Perm.swap _ _ _)) (List.Perm.trans (List.Perm.swap _ _ _) (List.Perm.cons _ (List.Perm.trans (List.Perm.cons _ (List.Perm.swap _ _ _)) (List.Perm.trans (List.Perm.swap _ _ _) (List.Perm.refl _)))))))
                      refine GL.call (j := 2) (MFail_calls (ids [.blk p67 [.slice A4 rest.length c4, .bool wr] 30, .row A62 bs.length c63 5 1 (by8 bs)]) p67 A4 rest.length c4 wr A62 bs.length c63 bs w119 (Hp.startL (A := [.blk p67 [.slice A4 rest.length c4, .bool wr] 30, .row A62 bs.length c63 5 1 (by8 bs)]) (B := [.blk p35 [.slice A3 rest.length c3, .bool wr] 54, .row A36 bs.length c37 5 1 (by8 bs), .blk p115 [.int .i64 (kk j), .int .i64 (ss j), .int .u64 ((f j : Nat) : Int), .slice (BB j) ((bb j).length) (bc j)] 33]) H203)) (by kernel_rfl) rfl (fun e_ w204 hR => ?_)
                      obtain ⟨rfl, H206⟩ := hR
                      have H205 : Hp w [] [.blk p67 [.slice none 0 0, .bool true] 30, .row A62 bs.length c63 5 1 (by8 bs), .blk p35 [.slice A3 rest.length c3, .bool wr] 54, .row A36 bs.length c37 5 1 (by8 bs), .blk p115 [.int .i64 (kk j), .int .i64 (ss j), .int .u64 ((f j : Nat) : Int), .slice (BB j) ((bb j).length) (bc j)] 33] w204 := Hp.callL (A := [.blk p67 [.slice A4 rest.length c4, .bool wr] 30, .row A62 bs.length c63 5 1 (by8 bs)]) (B := [.blk p35 [.slice A3 rest.length c3, .bool wr] 54, .row A36 bs.length c37 5 1 (by8 bs), .blk p115 [.int .i64 (kk j), .int .i64 (ss j), .int .u64 ((f j : Nat) : Int), .slice (BB j) ((bb j).length) (bc j)] 33]) H203 H206
                      refine ⟨_, rfl, [6, 8, 10, 12, 50, 51, 52], [(6, pt p35 0), (8, pt p67 0), (10, pt p115 0), (12, .string ⟨#[]⟩), (50, .slice A n c0), (51, .int .i64 (n : Int)), (52, .int .i64 (j : Int))], by kernel_rfl, ?_⟩
                      refine GL.k rfl hK145 (fun _ _ h => h) ?_
                      refine G.seqK fun K207 hK208 => ?_
                      refine G.region ?_
                      refine GL.run (j := 2) 2 [6, 8, 12, 50, 51, 52, 122, 123] [(6, pt p35 0), (8, pt p67 0), (12, .string ⟨#[]⟩), (50, .slice A n c0), (51, .int .i64 (n : Int)), (52, .int .i64 (j : Int)), (122, pt p35 0), (123, pt p115 1)] (by kernel_rfl) rfl ?_
                      refine GL.sem (j := 3) (H205.ld (o := 1) (ty := 3) (v := .int .i64 (ss j)) 4 rfl (by kernel_rfl) rfl) [6, 8, 12, 50, 51, 52, 122, 124] [(6, pt p35 0), (8, pt p67 0), (12, .string ⟨#[]⟩), (50, .slice A n c0), (51, .int .i64 (n : Int)), (52, .int .i64 (j : Int)), (122, pt p35 0), (124, .int .i64 (ss j))] (by kernel_rfl) (by kernel_rfl) rfl ?_
                      obtain ⟨o215, o216, o217⟩ := cd_wrong ([] : List UInt8) 0
                      have H218 := (Hp.reorder (L' := [.blk p35 [.slice A3 rest.length c3, .bool wr] 54, .row A36 bs.length c37 5 1 (by8 bs), .blk p67 [.slice none 0 0, .bool true] 30, .row A62 bs.length c63 5 1 (by8 bs), .blk p115 [.int .i64 (kk j), .int .i64 (ss j), .int .u64 ((f j : Nat) : Int), .slice (BB j) ((bb j).length) (bc j)] 33]) H205 (List.Perm.trans (List.Perm.cons _ (List.Perm.swap _ _ _)) (List.Perm.trans (List.Perm.swap _ _ _) (List.Perm.cons _ (List.Perm.trans (List.Perm.cons _ (List.Perm.swap _ _ _)) (List.Perm.trans (List.Perm.swap _ _ _) (List.Perm.refl _)))))))
                      refine GL.call (j := 4) (RCountedNeg_calls (ids [.blk p35 [.slice A3 rest.length c3, .bool wr] 54, .row A36 bs.length c37 5 1 (by8 bs)]) p35 A3 rest.length c3 wr A36 bs.length c37 bs (ss j) w204 (Hp.startL (A := [.blk p35 [.slice A3 rest.length c3, .bool wr] 54, .row A36 bs.length c37 5 1 (by8 bs)]) (B := [.blk p67 [.slice none 0 0, .bool true] 30, .row A62 bs.length c63 5 1 (by8 bs), .blk p115 [.int .i64 (kk j), .int .i64 (ss j), .int .u64 ((f j : Nat) : Int), .slice (BB j) ((bb j).length) (bc j)] 33]) H218) (by omega)) (by kernel_rfl) rfl (fun e_ w219 hR => ?_)
                      obtain ⟨A209, c210, A211, c212, rfl, H221, hC213, hL214⟩ := hR
                      simp only [o215, o216, o217] at H221 hC213 hL214 ⊢
                      have H220 : Hp w [] [.blk p35 [.slice A209 0 c210, .bool true] 54, .row A36 bs.length c37 5 1 (by8 bs), .row A211 0 c212 5 1 (by8 ([] : List UInt8)), .blk p67 [.slice none 0 0, .bool true] 30, .row A62 bs.length c63 5 1 (by8 bs), .blk p115 [.int .i64 (kk j), .int .i64 (ss j), .int .u64 ((f j : Nat) : Int), .slice (BB j) ((bb j).length) (bc j)] 33] w219 := Hp.callL (A := [.blk p35 [.slice A3 rest.length c3, .bool wr] 54, .row A36 bs.length c37 5 1 (by8 bs)]) (B := [.blk p67 [.slice none 0 0, .bool true] 30, .row A62 bs.length c63 5 1 (by8 bs), .blk p115 [.int .i64 (kk j), .int .i64 (ss j), .int .u64 ((f j : Nat) : Int), .slice (BB j) ((bb j).length) (bc j)] 33]) H218 H221
                      refine ⟨_, rfl, [6, 8, 12, 50, 51, 52, 125], [(6, pt p35 0), (8, pt p67 0), (12, .string ⟨#[]⟩), (50, .slice A n c0), (51, .int .i64 (n : Int)), (52, .int .i64 (j : Int)), (125, .slice A211 0 c212)], by kernel_rfl, ?_⟩
                      refine GL.sem (j := 5) (run_toStr (P := Try.prog) (src := 22) (dst := 9) (A := A211) (bs := ([] : List UInt8)) (n := 0) (c := c212) (by kernel_rfl) (by kernel_rfl) (H220.rdRow 2 rfl) (by first | rfl | omega | exact (cnt_length _).symm | (simp only [List.length_cons, List.length_nil, List.length_drop, List.length_take, List.length_append] <;> omega))) [6, 8, 12, 50, 51, 52, 126] [(6, pt p35 0), (8, pt p67 0), (12, .string ⟨#[]⟩), (50, .slice A n c0), (51, .int .i64 (n : Int)), (52, .int .i64 (j : Int)), (126, .string (strOf ([] : List UInt8)))] (by kernel_rfl) (by kernel_rfl) rfl ?_
                      refine GL.run (j := 6) 1 [6, 8, 50, 51, 52, 126, 127] [(6, pt p35 0), (8, pt p67 0), (50, .slice A n c0), (51, .int .i64 (n : Int)), (52, .int .i64 (j : Int)), (126, .string (strOf ([] : List UInt8))), (127, .string ⟨#[]⟩)] (by kernel_rfl) rfl ?_
                      refine GL.sem (j := 7) (run_str_neq (P := Try.prog) (t := 9) ([] : List UInt8) ([] : List UInt8) _) [6, 8, 50, 51, 52, 128] [(6, pt p35 0), (8, pt p67 0), (50, .slice A n c0), (51, .int .i64 (n : Int)), (52, .int .i64 (j : Int)), (128, .bool false)] (by kernel_rfl) (by kernel_rfl) rfl ?_
                      refine GL.k rfl hK208 (fun _ _ h => h) ?_
                      refine G.no rfl ?_
                      refine G.skipK hK124 (fun _ _ h => h) ?_
                      have H222 : Hp w [] [.blk p35 [.slice A209 0 c210, .bool true] 54, .row A36 bs.length c37 5 1 (by8 bs), .blk p67 [.slice none 0 0, .bool true] 30, .row A62 bs.length c63 5 1 (by8 bs)] w219 := H220.sub (List.Sublist.cons_cons _ (List.Sublist.cons_cons _ (List.Sublist.cons _ (List.Sublist.cons_cons _ (List.Sublist.cons_cons _ (List.Sublist.cons _ (List.Sublist.slnil)))))))
                      have H223 := (Hp.reorder (L' := [.blk p35 [.slice A209 0 c210, .bool true] 54, .row A36 bs.length c37 5 1 (by8 bs), .blk p67 [.slice none 0 0, .bool true] 30, .row A62 bs.length c63 5 1 (by8 bs)]) H222 (List.Perm.refl _))
                      have H224 : Hp w [] [.blk p35 [.slice A209 (([] : List UInt8).length) c210, .bool true] 54, .row A36 bs.length c37 5 1 (by8 bs), .blk p67 [.slice none (([] : List UInt8).length) 0, .bool true] 30, .row A62 bs.length c63 5 1 (by8 bs)] w219 := H223
                      refine G.fit [6, 8, 50, 51, 52] (M' := [(6, pt p35 0), (8, pt p67 0), (50, .slice A n c0), (51, .int .i64 (n : Int)), (52, .int .i64 (j : Int))]) (by kernel_rfl) ?_
                      exact J122 ⟨A209, c210, none, 0, true, ([] : List UInt8)⟩ _ ⟨⟨hC213, hL214, (Cut.nil _ _ _), (Nat.zero_le _), by simp, (fun _ => rfl)⟩, H224⟩
                · skip
                  have hb135f := eq_of_beq hb135
                  refine G.yes rfl ?_
                  refine G.seqK fun K225 hK226 => ?_
                  refine G.heldP (Hp w [] [.row A36 bs.length c37 5 1 (by8 bs), .row A62 bs.length c63 5 1 (by8 bs), .blk p115 [.int .i64 (kk j), .int .i64 (ss j), .int .u64 ((f j : Nat) : Int), .slice (BB j) ((bb j).length) (bc j)] 33]) (by kernel_rfl) (by kernel_rfl) (fun c_ a_ d_ v_ w_ h_ => hPan c_ a_ d_ v_ w_ h_) ?_
                  have H227 := H121.drew
                  generalize ({ w119 with drawn := w119.drawn + 1 } : World) = w228 at H227 ⊢
                  have hS229 : Hp w [] [.row A36 bs.length c37 5 1 (by8 bs), .row A62 bs.length c63 5 1 (by8 bs), .blk p115 [.int .i64 (kk j), .int .i64 (ss j), .int .u64 ((f j : Nat) : Int), .slice (BB j) ((bb j).length) (bc j)] 33] w228 := H227.sub (List.Sublist.cons _ (List.Sublist.cons_cons _ (List.Sublist.cons _ (List.Sublist.cons_cons _ (List.Sublist.cons_cons _ (List.Sublist.slnil))))))
                  refine GP.run [0, 1] [6, 8, 10, 50, 51, 52, 91, 92] [(6, pt p35 0), (8, pt p67 0), (10, pt p115 0), (50, .slice A n c0), (51, .int .i64 (n : Int)), (52, .int .i64 (j : Int)), (91, pt p35 0), (92, pt p115 1)] [0, 1] (by kernel_rfl) rfl hS229 ?_
                  refine GP.sem 2 (fun w_ H_ => H_.ld (o := 1) (ty := 3) (v := .int .i64 (ss j)) 2 rfl (by kernel_rfl) rfl) [6, 8, 10, 50, 51, 52, 91, 93] [(6, pt p35 0), (8, pt p67 0), (10, pt p115 0), (50, .slice A n c0), (51, .int .i64 (n : Int)), (52, .int .i64 (j : Int)), (91, pt p35 0), (93, .int .i64 (ss j))] (by kernel_rfl) (by kernel_rfl) (by kernel_rfl) hS229 ?_
                  refine GP.run [5, 6] [6, 8, 50, 51, 52, 91, 93, 96, 97] [(6, pt p35 0), (8, pt p67 0), (50, .slice A n c0), (51, .int .i64 (n : Int)), (52, .int .i64 (j : Int)), (91, pt p35 0), (93, .int .i64 (ss j)), (96, pt p67 0), (97, pt p115 1)] [0, 1, 2, 5, 6] (by kernel_rfl) rfl hS229 ?_
                  refine GP.sem 7 (fun w_ H_ => H_.ld (o := 1) (ty := 3) (v := .int .i64 (ss j)) 2 rfl (by kernel_rfl) rfl) [6, 8, 50, 51, 52, 91, 93, 96, 98] [(6, pt p35 0), (8, pt p67 0), (50, .slice A n c0), (51, .int .i64 (n : Int)), (52, .int .i64 (j : Int)), (91, pt p35 0), (93, .int .i64 (ss j)), (96, pt p67 0), (98, .int .i64 (ss j))] (by kernel_rfl) (by kernel_rfl) (by kernel_rfl) hS229 ?_
                  refine GP.call 3 (RawZ_calls (ids [.blk p35 [.slice A3 rest.length c3, .bool wr] 54, .row A36 bs.length c37 5 1 (by8 bs)]) p35 A3 rest.length c3 wr A36 bs.length c37 bs rest (ss j) w228 (Hp.startL (A := [.blk p35 [.slice A3 rest.length c3, .bool wr] 54, .row A36 bs.length c37 5 1 (by8 bs)]) (B := [.blk p67 [.slice A4 rest.length c4, .bool wr] 30, .row A62 bs.length c63 5 1 (by8 bs), .blk p115 [.int .i64 (kk j), .int .i64 (ss j), .int .u64 ((f j : Nat) : Int), .slice (BB j) ((bb j).length) (bc j)] 33]) H227) hcu1 (rfl) (hca1) ((Nat.le_trans hr1 (by decide)))) (by kernel_rfl) (by kernel_rfl) (fun e_ w236 hR => ?_)
                  obtain ⟨A230, c231, A232, c233, rfl, H238, hC234, hL235⟩ := hR
                  have H237 : Hp w [] [.blk p35 [.slice A230 ((zR wr rest (ss j)).length) c231, .bool (!(zOK wr rest (ss j)))] 54, .row A36 bs.length c37 5 1 (by8 bs), .row A232 ((zV wr rest (ss j)).length) c233 5 1 (by8 (zV wr rest (ss j))), .blk p67 [.slice A4 rest.length c4, .bool wr] 30, .row A62 bs.length c63 5 1 (by8 bs), .blk p115 [.int .i64 (kk j), .int .i64 (ss j), .int .u64 ((f j : Nat) : Int), .slice (BB j) ((bb j).length) (bc j)] 33] w236 := Hp.callL (A := [.blk p35 [.slice A3 rest.length c3, .bool wr] 54, .row A36 bs.length c37 5 1 (by8 bs)]) (B := [.blk p67 [.slice A4 rest.length c4, .bool wr] 30, .row A62 bs.length c63 5 1 (by8 bs), .blk p115 [.int .i64 (kk j), .int .i64 (ss j), .int .u64 ((f j : Nat) : Int), .slice (BB j) ((bb j).length) (bc j)] 33]) H227 H238
                  have hS239 : Hp w [] [.row A36 bs.length c37 5 1 (by8 bs), .row A62 bs.length c63 5 1 (by8 bs), .blk p115 [.int .i64 (kk j), .int .i64 (ss j), .int .u64 ((f j : Nat) : Int), .slice (BB j) ((bb j).length) (bc j)] 33] w236 := H237.sub (List.Sublist.cons _ (List.Sublist.cons_cons _ (List.Sublist.cons _ (List.Sublist.cons _ (List.Sublist.cons_cons _ (List.Sublist.cons_cons _ (List.Sublist.slnil)))))))
                  refine ⟨_, rfl, hS239, [6, 8, 50, 51, 52, 94, 96, 98], [(6, pt p35 0), (8, pt p67 0), (50, .slice A n c0), (51, .int .i64 (n : Int)), (52, .int .i64 (j : Int)), (94, .slice A232 ((zV wr rest (ss j)).length) c233), (96, pt p67 0), (98, .int .i64 (ss j))], by kernel_rfl, ?_⟩
                  refine GP.weak (Hp w [] [.row A36 bs.length c37 5 1 (by8 bs), .row A232 ((zV wr rest (ss j)).length) c233 5 1 (by8 (zV wr rest (ss j))), .row A62 bs.length c63 5 1 (by8 bs), .blk p115 [.int .i64 (kk j), .int .i64 (ss j), .int .u64 ((f j : Nat) : Int), .slice (BB j) ((bb j).length) (bc j)] 33]) (fun w_ h_ => h_.sub (List.Sublist.cons_cons _ (List.Sublist.cons _ (List.Sublist.cons_cons _ (List.Sublist.cons_cons _ (List.Sublist.slnil)))))) ?_
                  have hS240 : Hp w [] [.row A36 bs.length c37 5 1 (by8 bs), .row A232 ((zV wr rest (ss j)).length) c233 5 1 (by8 (zV wr rest (ss j))), .row A62 bs.length c63 5 1 (by8 bs), .blk p115 [.int .i64 (kk j), .int .i64 (ss j), .int .u64 ((f j : Nat) : Int), .slice (BB j) ((bb j).length) (bc j)] 33] w236 := H237.sub (List.Sublist.cons _ (List.Sublist.cons_cons _ (List.Sublist.cons_cons _ (List.Sublist.cons _ (List.Sublist.cons_cons _ (List.Sublist.cons_cons _ (List.Sublist.slnil)))))))
                  refine GP.sem 4 (fun w_ H_ => run_toStr (P := Try.prog) (src := 22) (dst := 9) (A := A232) (bs := (zV wr rest (ss j))) (n := (zV wr rest (ss j)).length) (c := c233) (by kernel_rfl) (by kernel_rfl) (H_.rdRow 1 rfl) (rfl)) [6, 8, 50, 51, 52, 95, 96, 98] [(6, pt p35 0), (8, pt p67 0), (50, .slice A n c0), (51, .int .i64 (n : Int)), (52, .int .i64 (j : Int)), (95, .string (strOf (zV wr rest (ss j)))), (96, pt p67 0), (98, .int .i64 (ss j))] (by kernel_rfl) (by kernel_rfl) (by kernel_rfl) hS240 ?_
                  have H245 := (Hp.reorder (L' := [.blk p67 [.slice A4 rest.length c4, .bool wr] 30, .row A62 bs.length c63 5 1 (by8 bs), .blk p35 [.slice A230 ((zR wr rest (ss j)).length) c231, .bool (!(zOK wr rest (ss j)))] 54, .row A36 bs.length c37 5 1 (by8 bs), .row A232 ((zV wr rest (ss j)).length) c233 5 1 (by8 (zV wr rest (ss j))), .blk p115 [.int .i64 (kk j), .int .i64 (ss j), .int .u64 ((f j : Nat) : Int), .slice (BB j) ((bb j).length) (bc j)] 33]) H237 (List.Perm.trans (List.Perm.cons _ (List.Perm.cons _ (List.Perm.swap _ _ _))) (List.Perm.trans (List.Perm.cons _ (List.Perm.swap _ _ _)) (List.Perm.trans (List.Perm.swap _ _ _) (List.Perm.cons _ (List.Perm.trans (List.Perm.cons _ (List.Perm.cons _ (List.Perm.swap _ _ _))) (List.Perm.trans (List.Perm.cons _ (List.Perm.swap _ _ _)) (List.Perm.trans (List.Perm.swap _ _ _) (List.Perm.refl _)))))))))
                  refine GP.call 8 (MRaw_calls (ids [.blk p67 [.slice A4 rest.length c4, .bool wr] 30, .row A62 bs.length c63 5 1 (by8 bs)]) p67 A4 rest.length c4 wr A62 bs.length c63 bs rest (ss j) w236 (Hp.startL (A := [.blk p67 [.slice A4 rest.length c4, .bool wr] 30, .row A62 bs.length c63 5 1 (by8 bs)]) (B := [.blk p35 [.slice A230 ((zR wr rest (ss j)).length) c231, .bool (!(zOK wr rest (ss j)))] 54, .row A36 bs.length c37 5 1 (by8 bs), .row A232 ((zV wr rest (ss j)).length) c233 5 1 (by8 (zV wr rest (ss j))), .blk p115 [.int .i64 (kk j), .int .i64 (ss j), .int .u64 ((f j : Nat) : Int), .slice (BB j) ((bb j).length) (bc j)] 33]) H245) hcu2 (rfl) (hca2) ((Nat.le_trans hr1 (by decide)))) (by kernel_rfl) (by kernel_rfl) (fun e_ w246 hR => ?_)
                  obtain ⟨A241, c242, rfl, H248, hC243, hL244⟩ := hR
                  have H247 : Hp w [] [.blk p67 [.slice A241 ((zR wr rest (ss j)).length) c242, .bool (!(zOK wr rest (ss j)))] 30, .row A62 bs.length c63 5 1 (by8 bs), .blk p35 [.slice A230 ((zR wr rest (ss j)).length) c231, .bool (!(zOK wr rest (ss j)))] 54, .row A36 bs.length c37 5 1 (by8 bs), .row A232 ((zV wr rest (ss j)).length) c233 5 1 (by8 (zV wr rest (ss j))), .blk p115 [.int .i64 (kk j), .int .i64 (ss j), .int .u64 ((f j : Nat) : Int), .slice (BB j) ((bb j).length) (bc j)] 33] w246 := Hp.callL (A := [.blk p67 [.slice A4 rest.length c4, .bool wr] 30, .row A62 bs.length c63 5 1 (by8 bs)]) (B := [.blk p35 [.slice A230 ((zR wr rest (ss j)).length) c231, .bool (!(zOK wr rest (ss j)))] 54, .row A36 bs.length c37 5 1 (by8 bs), .row A232 ((zV wr rest (ss j)).length) c233 5 1 (by8 (zV wr rest (ss j))), .blk p115 [.int .i64 (kk j), .int .i64 (ss j), .int .u64 ((f j : Nat) : Int), .slice (BB j) ((bb j).length) (bc j)] 33]) H245 H248
                  have H249 := (Hp.reorder (L' := [.blk p35 [.slice A230 ((zR wr rest (ss j)).length) c231, .bool (!(zOK wr rest (ss j)))] 54, .row A36 bs.length c37 5 1 (by8 bs), .row A232 ((zV wr rest (ss j)).length) c233 5 1 (by8 (zV wr rest (ss j))), .blk p67 [.slice A241 ((zR wr rest (ss j)).length) c242, .bool (!(zOK wr rest (ss j)))] 30, .row A62 bs.length c63 5 1 (by8 bs), .blk p115 [.int .i64 (kk j), .int .i64 (ss j), .int .u64 ((f j : Nat) : Int), .slice (BB j) ((bb j).length) (bc j)] 33]) H247 (List.Perm.trans (List.Perm.cons _ (List.Perm.swap _ _ _)) (List.Perm.trans (List.Perm.swap _ _ _) (List.Perm.cons _ (List.Perm.trans (List.Perm.cons _ (List.Perm.swap _ _ _)) (List.Perm.trans (List.Perm.swap _ _ _) (List.Perm.cons _ (List.Perm.trans (List.Perm.cons _ (List.Perm.swap _ _ _)) (List.Perm.trans (List.Perm.swap _ _ _) (List.Perm.refl _))))))))))
                  have hS250 : Hp w [] [.row A36 bs.length c37 5 1 (by8 bs), .row A232 ((zV wr rest (ss j)).length) c233 5 1 (by8 (zV wr rest (ss j))), .row A62 bs.length c63 5 1 (by8 bs), .blk p115 [.int .i64 (kk j), .int .i64 (ss j), .int .u64 ((f j : Nat) : Int), .slice (BB j) ((bb j).length) (bc j)] 33] w246 := H249.sub (List.Sublist.cons _ (List.Sublist.cons_cons _ (List.Sublist.cons_cons _ (List.Sublist.cons _ (List.Sublist.cons_cons _ (List.Sublist.cons_cons _ (List.Sublist.slnil)))))))
                  refine ⟨_, rfl, hS250, [6, 8, 50, 51, 52, 95, 99], [(6, pt p35 0), (8, pt p67 0), (50, .slice A n c0), (51, .int .i64 (n : Int)), (52, .int .i64 (j : Int)), (95, .string (strOf (zV wr rest (ss j)))), (99, .string (strOf (zV wr rest (ss j))))], by kernel_rfl, ?_⟩
                  refine GP.sem 9 (fun w_ H_ => run_str_neq (P := Try.prog) (t := 9) (zV wr rest (ss j)) (zV wr rest (ss j)) _) [6, 8, 50, 51, 52, 100] [(6, pt p35 0), (8, pt p67 0), (50, .slice A n c0), (51, .int .i64 (n : Int)), (52, .int .i64 (j : Int)), (100, .bool (!((zV wr rest (ss j)) == (zV wr rest (ss j)))))] (by kernel_rfl) (by kernel_rfl) (by kernel_rfl) hS250 ?_
                  refine GP.k (by kernel_rfl) hK226 (fun _ _ h => h) ?_
                  have hb251 : (!((zV wr rest (ss j)) == (zV wr rest (ss j)))) = false := by rw [show ((zV wr rest (ss j)) == (zV wr rest (ss j))) = true from beq_self_eq_true _]; rfl
                  rw [hb251]
                  refine G.no rfl ?_
                  refine G.skipK hK124 (fun _ _ h => h) ?_
                  have H252 : Hp w [] [.blk p35 [.slice A230 ((zR wr rest (ss j)).length) c231, .bool (!(zOK wr rest (ss j)))] 54, .row A36 bs.length c37 5 1 (by8 bs), .blk p67 [.slice A241 ((zR wr rest (ss j)).length) c242, .bool (!(zOK wr rest (ss j)))] 30, .row A62 bs.length c63 5 1 (by8 bs)] w246 := H249.sub (List.Sublist.cons_cons _ (List.Sublist.cons_cons _ (List.Sublist.cons _ (List.Sublist.cons_cons _ (List.Sublist.cons_cons _ (List.Sublist.cons _ (List.Sublist.slnil)))))))
                  have H253 := (Hp.reorder (L' := [.blk p35 [.slice A230 ((zR wr rest (ss j)).length) c231, .bool (!(zOK wr rest (ss j)))] 54, .row A36 bs.length c37 5 1 (by8 bs), .blk p67 [.slice A241 ((zR wr rest (ss j)).length) c242, .bool (!(zOK wr rest (ss j)))] 30, .row A62 bs.length c63 5 1 (by8 bs)]) H252 (List.Perm.refl _))
                  have H254 : Hp w [] [.blk p35 [.slice A230 ((zR wr rest (ss j)).length) c231, .bool (!(zOK wr rest (ss j)))] 54, .row A36 bs.length c37 5 1 (by8 bs), .blk p67 [.slice A241 ((zR wr rest (ss j)).length) c242, .bool (!(zOK wr rest (ss j)))] 30, .row A62 bs.length c63 5 1 (by8 bs)] w246 := H253
                  refine G.fit [6, 8, 50, 51, 52] (M' := [(6, pt p35 0), (8, pt p67 0), (50, .slice A n c0), (51, .int .i64 (n : Int)), (52, .int .i64 (j : Int))]) (by kernel_rfl) ?_
                  exact J122 ⟨A230, c231, A241, c242, (!(zOK wr rest (ss j))), (zR wr rest (ss j))⟩ _ ⟨⟨hC234, hL235, hC243, hL244, Nat.le_trans (zR_le _ _ _) hr1, zR_wrong⟩, H254⟩
              · skip
                have hb132f := eq_of_beq hb132
                refine G.yes rfl ?_
                refine G.seqK fun K255 hK256 => ?_
                refine G.heldP (Hp w [] [.row A36 bs.length c37 5 1 (by8 bs), .row A62 bs.length c63 5 1 (by8 bs), .blk p115 [.int .i64 (kk j), .int .i64 (ss j), .int .u64 ((f j : Nat) : Int), .slice (BB j) ((bb j).length) (bc j)] 33]) (by kernel_rfl) (by kernel_rfl) (fun c_ a_ d_ v_ w_ h_ => hPan c_ a_ d_ v_ w_ h_) ?_
                have H257 := H121.drew
                generalize ({ w119 with drawn := w119.drawn + 1 } : World) = w258 at H257 ⊢
                have hS259 : Hp w [] [.row A36 bs.length c37 5 1 (by8 bs), .row A62 bs.length c63 5 1 (by8 bs), .blk p115 [.int .i64 (kk j), .int .i64 (ss j), .int .u64 ((f j : Nat) : Int), .slice (BB j) ((bb j).length) (bc j)] 33] w258 := H257.sub (List.Sublist.cons _ (List.Sublist.cons_cons _ (List.Sublist.cons _ (List.Sublist.cons_cons _ (List.Sublist.cons_cons _ (List.Sublist.slnil))))))
                refine GP.run [0, 1] [6, 8, 10, 50, 51, 52, 80, 81] [(6, pt p35 0), (8, pt p67 0), (10, pt p115 0), (50, .slice A n c0), (51, .int .i64 (n : Int)), (52, .int .i64 (j : Int)), (80, pt p35 0), (81, pt p115 2)] [0, 1] (by kernel_rfl) rfl hS259 ?_
                refine GP.sem 2 (fun w_ H_ => H_.ld (o := 2) (ty := 31) (v := .int .u64 ((f j : Nat) : Int)) 2 rfl (by kernel_rfl) rfl) [6, 8, 10, 50, 51, 52, 80, 82] [(6, pt p35 0), (8, pt p67 0), (10, pt p115 0), (50, .slice A n c0), (51, .int .i64 (n : Int)), (52, .int .i64 (j : Int)), (80, pt p35 0), (82, .int .u64 ((f j : Nat) : Int))] (by kernel_rfl) (by kernel_rfl) (by kernel_rfl) hS259 ?_
                refine GP.run [4, 5] [6, 8, 50, 51, 52, 80, 82, 84, 85] [(6, pt p35 0), (8, pt p67 0), (50, .slice A n c0), (51, .int .i64 (n : Int)), (52, .int .i64 (j : Int)), (80, pt p35 0), (82, .int .u64 ((f j : Nat) : Int)), (84, pt p67 0), (85, pt p115 2)] [0, 1, 2, 4, 5] (by kernel_rfl) rfl hS259 ?_
                refine GP.sem 6 (fun w_ H_ => H_.ld (o := 2) (ty := 31) (v := .int .u64 ((f j : Nat) : Int)) 2 rfl (by kernel_rfl) rfl) [6, 8, 50, 51, 52, 80, 82, 84, 86] [(6, pt p35 0), (8, pt p67 0), (50, .slice A n c0), (51, .int .i64 (n : Int)), (52, .int .i64 (j : Int)), (80, pt p35 0), (82, .int .u64 ((f j : Nat) : Int)), (84, pt p67 0), (86, .int .u64 ((f j : Nat) : Int))] (by kernel_rfl) (by kernel_rfl) (by kernel_rfl) hS259 ?_
                refine GP.call 3 (RCount_calls (ids [.blk p35 [.slice A3 rest.length c3, .bool wr] 54, .row A36 bs.length c37 5 1 (by8 bs)]) p35 A3 rest.length c3 wr A36 bs.length c37 bs rest (f j) w258 (Hp.startL (A := [.blk p35 [.slice A3 rest.length c3, .bool wr] 54, .row A36 bs.length c37 5 1 (by8 bs)]) (B := [.blk p67 [.slice A4 rest.length c4, .bool wr] 30, .row A62 bs.length c63 5 1 (by8 bs), .blk p115 [.int .i64 (kk j), .int .i64 (ss j), .int .u64 ((f j : Nat) : Int), .slice (BB j) ((bb j).length) (bc j)] 33]) H257) hcu1 (rfl) (hca1) ((Nat.le_trans hr1 (by decide)))) (by kernel_rfl) (by kernel_rfl) (fun e_ w264 hR => ?_)
                obtain ⟨A260, c261, rfl, H266, hC262, hL263⟩ := hR
                have H265 : Hp w [] [.blk p35 [.slice A260 ((ctR wr rest (f j)).length) c261, .bool (!(ctOK wr rest (f j)))] 54, .row A36 bs.length c37 5 1 (by8 bs), .blk p67 [.slice A4 rest.length c4, .bool wr] 30, .row A62 bs.length c63 5 1 (by8 bs), .blk p115 [.int .i64 (kk j), .int .i64 (ss j), .int .u64 ((f j : Nat) : Int), .slice (BB j) ((bb j).length) (bc j)] 33] w264 := Hp.callL (A := [.blk p35 [.slice A3 rest.length c3, .bool wr] 54, .row A36 bs.length c37 5 1 (by8 bs)]) (B := [.blk p67 [.slice A4 rest.length c4, .bool wr] 30, .row A62 bs.length c63 5 1 (by8 bs), .blk p115 [.int .i64 (kk j), .int .i64 (ss j), .int .u64 ((f j : Nat) : Int), .slice (BB j) ((bb j).length) (bc j)] 33]) H257 H266
                have hS267 : Hp w [] [.row A36 bs.length c37 5 1 (by8 bs), .row A62 bs.length c63 5 1 (by8 bs), .blk p115 [.int .i64 (kk j), .int .i64 (ss j), .int .u64 ((f j : Nat) : Int), .slice (BB j) ((bb j).length) (bc j)] 33] w264 := H265.sub (List.Sublist.cons _ (List.Sublist.cons_cons _ (List.Sublist.cons _ (List.Sublist.cons_cons _ (List.Sublist.cons_cons _ (List.Sublist.slnil))))))
                refine ⟨_, rfl, hS267, [6, 8, 50, 51, 52, 83, 84, 86], [(6, pt p35 0), (8, pt p67 0), (50, .slice A n c0), (51, .int .i64 (n : Int)), (52, .int .i64 (j : Int)), (83, .int .u64 (((ctV wr rest (f j)) : Nat) : Int)), (84, pt p67 0), (86, .int .u64 ((f j : Nat) : Int))], by kernel_rfl, ?_⟩
                have H272 := (Hp.reorder (L' := [.blk p67 [.slice A4 rest.length c4, .bool wr] 30, .row A62 bs.length c63 5 1 (by8 bs), .blk p35 [.slice A260 ((ctR wr rest (f j)).length) c261, .bool (!(ctOK wr rest (f j)))] 54, .row A36 bs.length c37 5 1 (by8 bs), .blk p115 [.int .i64 (kk j), .int .i64 (ss j), .int .u64 ((f j : Nat) : Int), .slice (BB j) ((bb j).length) (bc j)] 33]) H265 (List.Perm.trans (List.Perm.cons _ (List.Perm.swap _ _ _)) (List.Perm.trans (List.Perm.swap _ _ _) (List.Perm.cons _ (List.Perm.trans (List.Perm.cons _ (List.Perm.swap _ _ _)) (List.Perm.trans (List.Perm.swap _ _ _) (List.Perm.refl _)))))))
                refine GP.call 7 (MCount_calls (ids [.blk p67 [.slice A4 rest.length c4, .bool wr] 30, .row A62 bs.length c63 5 1 (by8 bs)]) p67 A4 rest.length c4 wr A62 bs.length c63 bs rest (f j) w264 (Hp.startL (A := [.blk p67 [.slice A4 rest.length c4, .bool wr] 30, .row A62 bs.length c63 5 1 (by8 bs)]) (B := [.blk p35 [.slice A260 ((ctR wr rest (f j)).length) c261, .bool (!(ctOK wr rest (f j)))] 54, .row A36 bs.length c37 5 1 (by8 bs), .blk p115 [.int .i64 (kk j), .int .i64 (ss j), .int .u64 ((f j : Nat) : Int), .slice (BB j) ((bb j).length) (bc j)] 33]) H272) hcu2 (rfl) (hca2) ((Nat.le_trans hr1 (by decide)))) (by kernel_rfl) (by kernel_rfl) (fun e_ w273 hR => ?_)
                obtain ⟨A268, c269, rfl, H275, hC270, hL271⟩ := hR
                have H274 : Hp w [] [.blk p67 [.slice A268 ((ctR wr rest (f j)).length) c269, .bool (!(ctOK wr rest (f j)))] 30, .row A62 bs.length c63 5 1 (by8 bs), .blk p35 [.slice A260 ((ctR wr rest (f j)).length) c261, .bool (!(ctOK wr rest (f j)))] 54, .row A36 bs.length c37 5 1 (by8 bs), .blk p115 [.int .i64 (kk j), .int .i64 (ss j), .int .u64 ((f j : Nat) : Int), .slice (BB j) ((bb j).length) (bc j)] 33] w273 := Hp.callL (A := [.blk p67 [.slice A4 rest.length c4, .bool wr] 30, .row A62 bs.length c63 5 1 (by8 bs)]) (B := [.blk p35 [.slice A260 ((ctR wr rest (f j)).length) c261, .bool (!(ctOK wr rest (f j)))] 54, .row A36 bs.length c37 5 1 (by8 bs), .blk p115 [.int .i64 (kk j), .int .i64 (ss j), .int .u64 ((f j : Nat) : Int), .slice (BB j) ((bb j).length) (bc j)] 33]) H272 H275
                have H276 := (Hp.reorder (L' := [.blk p35 [.slice A260 ((ctR wr rest (f j)).length) c261, .bool (!(ctOK wr rest (f j)))] 54, .row A36 bs.length c37 5 1 (by8 bs), .blk p67 [.slice A268 ((ctR wr rest (f j)).length) c269, .bool (!(ctOK wr rest (f j)))] 30, .row A62 bs.length c63 5 1 (by8 bs), .blk p115 [.int .i64 (kk j), .int .i64 (ss j), .int .u64 ((f j : Nat) : Int), .slice (BB j) ((bb j).length) (bc j)] 33]) H274 (List.Perm.trans (List.Perm.cons _ (List.Perm.swap _ _ _)) (List.Perm.trans (List.Perm.swap _ _ _) (List.Perm.cons _ (List.Perm.trans (List.Perm.cons _ (List.Perm.swap _ _ _)) (List.Perm.trans (List.Perm.swap _ _ _) (List.Perm.refl _)))))))
                have hS277 : Hp w [] [.row A36 bs.length c37 5 1 (by8 bs), .row A62 bs.length c63 5 1 (by8 bs), .blk p115 [.int .i64 (kk j), .int .i64 (ss j), .int .u64 ((f j : Nat) : Int), .slice (BB j) ((bb j).length) (bc j)] 33] w273 := H276.sub (List.Sublist.cons _ (List.Sublist.cons_cons _ (List.Sublist.cons _ (List.Sublist.cons_cons _ (List.Sublist.cons_cons _ (List.Sublist.slnil))))))
                refine ⟨_, rfl, hS277, [6, 8, 50, 51, 52, 83, 87], [(6, pt p35 0), (8, pt p67 0), (50, .slice A n c0), (51, .int .i64 (n : Int)), (52, .int .i64 (j : Int)), (83, .int .u64 (((ctV wr rest (f j)) : Nat) : Int)), (87, .int .u64 (((ctV wr rest (f j)) : Nat) : Int))], by kernel_rfl, ?_⟩
                refine GP.run [8] [6, 8, 50, 51, 52, 88] [(6, pt p35 0), (8, pt p67 0), (50, .slice A n c0), (51, .int .i64 (n : Int)), (52, .int .i64 (j : Int)), (88, .bool ((((ctV wr rest (f j)) : Nat) : Int) != (((ctV wr rest (f j)) : Nat) : Int)))] [0, 1, 2, 4, 5, 6, 3, 7, 8] (by kernel_rfl) rfl hS277 ?_
                refine GP.k (by kernel_rfl) hK256 (fun _ _ h => h) ?_
                have hb278 : ((((ctV wr rest (f j)) : Nat) : Int) != (((ctV wr rest (f j)) : Nat) : Int)) = false := bne_self_eq_false _
                rw [hb278]
                refine G.no rfl ?_
                refine G.skipK hK124 (fun _ _ h => h) ?_
                have H279 : Hp w [] [.blk p35 [.slice A260 ((ctR wr rest (f j)).length) c261, .bool (!(ctOK wr rest (f j)))] 54, .row A36 bs.length c37 5 1 (by8 bs), .blk p67 [.slice A268 ((ctR wr rest (f j)).length) c269, .bool (!(ctOK wr rest (f j)))] 30, .row A62 bs.length c63 5 1 (by8 bs)] w273 := H276.sub (List.Sublist.cons_cons _ (List.Sublist.cons_cons _ (List.Sublist.cons_cons _ (List.Sublist.cons_cons _ (List.Sublist.cons _ (List.Sublist.slnil))))))
                have H280 := (Hp.reorder (L' := [.blk p35 [.slice A260 ((ctR wr rest (f j)).length) c261, .bool (!(ctOK wr rest (f j)))] 54, .row A36 bs.length c37 5 1 (by8 bs), .blk p67 [.slice A268 ((ctR wr rest (f j)).length) c269, .bool (!(ctOK wr rest (f j)))] 30, .row A62 bs.length c63 5 1 (by8 bs)]) H279 (List.Perm.refl _))
                have H281 : Hp w [] [.blk p35 [.slice A260 ((ctR wr rest (f j)).length) c261, .bool (!(ctOK wr rest (f j)))] 54, .row A36 bs.length c37 5 1 (by8 bs), .blk p67 [.slice A268 ((ctR wr rest (f j)).length) c269, .bool (!(ctOK wr rest (f j)))] 30, .row A62 bs.length c63 5 1 (by8 bs)] w273 := H280
                refine G.fit [6, 8, 50, 51, 52] (M' := [(6, pt p35 0), (8, pt p67 0), (50, .slice A n c0), (51, .int .i64 (n : Int)), (52, .int .i64 (j : Int))]) (by kernel_rfl) ?_
                exact J122 ⟨A260, c261, A268, c269, (!(ctOK wr rest (f j))), (ctR wr rest (f j))⟩ _ ⟨⟨hC262, hL263, hC270, hL271, Nat.le_trans (ctR_le _ _ _) hr1, ctR_wrong⟩, H281⟩
            · skip
              have hb129f := eq_of_beq hb129
              refine G.yes rfl ?_
              refine G.seqK fun K282 hK283 => ?_
              refine G.region ?_
              refine GL.run (j := 1) 1 [6, 8, 10, 11, 50, 51, 52] [(6, pt p35 0), (8, pt p67 0), (10, pt p115 0), (11, .int .u64 0), (50, .slice A n c0), (51, .int .i64 (n : Int)), (52, .int .i64 (j : Int))] (by kernel_rfl) rfl ?_
              refine GL.k rfl hK283 (fun _ _ h => h) ?_
              refine G.seqK fun K284 hK285 => ?_
              refine G.seqK fun K286 hK287 => ?_
              refine G.region ?_
              refine GL.run (j := 1) 1 [6, 8, 10, 11, 50, 51, 52, 60] [(6, pt p35 0), (8, pt p67 0), (10, pt p115 0), (11, .int .u64 0), (50, .slice A n c0), (51, .int .i64 (n : Int)), (52, .int .i64 (j : Int)), (60, pt p115 1)] (by kernel_rfl) rfl ?_
              refine GL.sem (j := 2) (H121.ld (o := 1) (ty := 3) (v := .int .i64 (ss j)) 4 rfl (by kernel_rfl) rfl) [6, 8, 10, 11, 50, 51, 52, 61] [(6, pt p35 0), (8, pt p67 0), (10, pt p115 0), (11, .int .u64 0), (50, .slice A n c0), (51, .int .i64 (n : Int)), (52, .int .i64 (j : Int)), (61, .int .i64 (ss j))] (by kernel_rfl) (by kernel_rfl) rfl ?_
              refine GL.call (j := 3) (right_calls (ss j) w119) (by kernel_rfl) rfl (fun e_ w288 hR => ?_)
              obtain ⟨rfl, H290⟩ := hR
              have H289 : Hp w [] [.blk p35 [.slice A3 rest.length c3, .bool wr] 54, .row A36 bs.length c37 5 1 (by8 bs), .blk p67 [.slice A4 rest.length c4, .bool wr] 30, .row A62 bs.length c63 5 1 (by8 bs), .blk p115 [.int .i64 (kk j), .int .i64 (ss j), .int .u64 ((f j : Nat) : Int), .slice (BB j) ((bb j).length) (bc j)] 33] w288 := H121.callNil H290
              refine ⟨_, rfl, [6, 8, 10, 11, 50, 51, 52, 62], [(6, pt p35 0), (8, pt p67 0), (10, pt p115 0), (11, .int .u64 0), (50, .slice A n c0), (51, .int .i64 (n : Int)), (52, .int .i64 (j : Int)), (62, .bool (decide ((ss j) = 1 ∨ (ss j) = 2 ∨ (ss j) = 4 ∨ (ss j) = 8)))], by kernel_rfl, ?_⟩
              refine GL.run (j := 4) 1 [6, 8, 10, 11, 50, 51, 52, 63] [(6, pt p35 0), (8, pt p67 0), (10, pt p115 0), (11, .int .u64 0), (50, .slice A n c0), (51, .int .i64 (n : Int)), (52, .int .i64 (j : Int)), (63, .bool (!(decide ((ss j) = 1 ∨ (ss j) = 2 ∨ (ss j) = 4 ∨ (ss j) = 8))))] (by kernel_rfl) rfl ?_
              refine GL.k rfl hK287 (fun _ _ h => h) ?_
              cases hb291 : (decide ((ss j) = 1 ∨ (ss j) = 2 ∨ (ss j) = 4 ∨ (ss j) = 8))
              · skip
                have hb291f := of_decide_eq_false hb291
                refine G.yes rfl ?_
                refine G.region ?_
                refine GL.run (j := 1) 1 [6, 8, 10, 11, 50, 51, 52, 64] [(6, pt p35 0), (8, pt p67 0), (10, pt p115 0), (11, .int .u64 0), (50, .slice A n c0), (51, .int .i64 (n : Int)), (52, .int .i64 (j : Int)), (64, pt p67 0)] (by kernel_rfl) rfl ?_
                have H292 := (Hp.reorder (L' := [.blk p67 [.slice A4 rest.length c4, .bool wr] 30, .row A62 bs.length c63 5 1 (by8 bs), .blk p35 [.slice A3 rest.length c3, .bool wr] 54, .row A36 bs.length c37 5 1 (by8 bs), .blk p115 [.int .i64 (kk j), .int .i64 (ss j), .int .u64 ((f j : Nat) : Int), .slice (BB j) ((bb j).length) (bc j)] 33]) H289 (List.Perm.trans (List.Perm.cons _ (List.Perm.swap _ _ _)) (List.Perm.trans (List.Perm.swap _ _ _) (List.Perm.cons _ (List.Perm.trans (List.Perm.cons _ (List.Perm.swap _ _ _)) (List.Perm.trans (List.Perm.swap _ _ _) (List.Perm.refl _)))))))
                refine GL.call (j := 2) (MFail_calls (ids [.blk p67 [.slice A4 rest.length c4, .bool wr] 30, .row A62 bs.length c63 5 1 (by8 bs)]) p67 A4 rest.length c4 wr A62 bs.length c63 bs w288 (Hp.startL (A := [.blk p67 [.slice A4 rest.length c4, .bool wr] 30, .row A62 bs.length c63 5 1 (by8 bs)]) (B := [.blk p35 [.slice A3 rest.length c3, .bool wr] 54, .row A36 bs.length c37 5 1 (by8 bs), .blk p115 [.int .i64 (kk j), .int .i64 (ss j), .int .u64 ((f j : Nat) : Int), .slice (BB j) ((bb j).length) (bc j)] 33]) H292)) (by kernel_rfl) rfl (fun e_ w293 hR => ?_)
                obtain ⟨rfl, H295⟩ := hR
                have H294 : Hp w [] [.blk p67 [.slice none 0 0, .bool true] 30, .row A62 bs.length c63 5 1 (by8 bs), .blk p35 [.slice A3 rest.length c3, .bool wr] 54, .row A36 bs.length c37 5 1 (by8 bs), .blk p115 [.int .i64 (kk j), .int .i64 (ss j), .int .u64 ((f j : Nat) : Int), .slice (BB j) ((bb j).length) (bc j)] 33] w293 := Hp.callL (A := [.blk p67 [.slice A4 rest.length c4, .bool wr] 30, .row A62 bs.length c63 5 1 (by8 bs)]) (B := [.blk p35 [.slice A3 rest.length c3, .bool wr] 54, .row A36 bs.length c37 5 1 (by8 bs), .blk p115 [.int .i64 (kk j), .int .i64 (ss j), .int .u64 ((f j : Nat) : Int), .slice (BB j) ((bb j).length) (bc j)] 33]) H292 H295
                refine ⟨_, rfl, [6, 8, 10, 11, 50, 51, 52], [(6, pt p35 0), (8, pt p67 0), (10, pt p115 0), (11, .int .u64 0), (50, .slice A n c0), (51, .int .i64 (n : Int)), (52, .int .i64 (j : Int))], by kernel_rfl, ?_⟩
                refine GL.k rfl hK285 (fun _ _ h => h) ?_
                refine G.seqK fun K296 hK297 => ?_
                refine G.region ?_
                refine GL.run (j := 2) 2 [6, 8, 11, 50, 51, 52, 72, 73] [(6, pt p35 0), (8, pt p67 0), (11, .int .u64 0), (50, .slice A n c0), (51, .int .i64 (n : Int)), (52, .int .i64 (j : Int)), (72, pt p35 0), (73, pt p115 1)] (by kernel_rfl) rfl ?_
                refine GL.sem (j := 3) (H294.ld (o := 1) (ty := 3) (v := .int .i64 (ss j)) 4 rfl (by kernel_rfl) rfl) [6, 8, 11, 50, 51, 52, 72, 74] [(6, pt p35 0), (8, pt p67 0), (11, .int .u64 0), (50, .slice A n c0), (51, .int .i64 (n : Int)), (52, .int .i64 (j : Int)), (72, pt p35 0), (74, .int .i64 (ss j))] (by kernel_rfl) (by kernel_rfl) rfl ?_
                have H298 := (Hp.reorder (L' := [.blk p35 [.slice A3 rest.length c3, .bool wr] 54, .row A36 bs.length c37 5 1 (by8 bs), .blk p67 [.slice none 0 0, .bool true] 30, .row A62 bs.length c63 5 1 (by8 bs), .blk p115 [.int .i64 (kk j), .int .i64 (ss j), .int .u64 ((f j : Nat) : Int), .slice (BB j) ((bb j).length) (bc j)] 33]) H294 (List.Perm.trans (List.Perm.cons _ (List.Perm.swap _ _ _)) (List.Perm.trans (List.Perm.swap _ _ _) (List.Perm.cons _ (List.Perm.trans (List.Perm.cons _ (List.Perm.swap _ _ _)) (List.Perm.trans (List.Perm.swap _ _ _) (List.Perm.refl _)))))))
                refine GL.call (j := 4) (GetBad_calls (ids [.blk p35 [.slice A3 rest.length c3, .bool wr] 54, .row A36 bs.length c37 5 1 (by8 bs)]) p35 A3 rest.length c3 wr A36 bs.length c37 bs (ss j) w293 (Hp.startL (A := [.blk p35 [.slice A3 rest.length c3, .bool wr] 54, .row A36 bs.length c37 5 1 (by8 bs)]) (B := [.blk p67 [.slice none 0 0, .bool true] 30, .row A62 bs.length c63 5 1 (by8 bs), .blk p115 [.int .i64 (kk j), .int .i64 (ss j), .int .u64 ((f j : Nat) : Int), .slice (BB j) ((bb j).length) (bc j)] 33]) H298) (by omega)) (by kernel_rfl) rfl (fun e_ w299 hR => ?_)
                obtain ⟨rfl, H301⟩ := hR
                have H300 : Hp w [] [.blk p35 [.slice none 0 0, .bool true] 54, .row A36 bs.length c37 5 1 (by8 bs), .blk p67 [.slice none 0 0, .bool true] 30, .row A62 bs.length c63 5 1 (by8 bs), .blk p115 [.int .i64 (kk j), .int .i64 (ss j), .int .u64 ((f j : Nat) : Int), .slice (BB j) ((bb j).length) (bc j)] 33] w299 := Hp.callL (A := [.blk p35 [.slice A3 rest.length c3, .bool wr] 54, .row A36 bs.length c37 5 1 (by8 bs)]) (B := [.blk p67 [.slice none 0 0, .bool true] 30, .row A62 bs.length c63 5 1 (by8 bs), .blk p115 [.int .i64 (kk j), .int .i64 (ss j), .int .u64 ((f j : Nat) : Int), .slice (BB j) ((bb j).length) (bc j)] 33]) H298 H301
                refine ⟨_, rfl, [6, 8, 11, 50, 51, 52, 75], [(6, pt p35 0), (8, pt p67 0), (11, .int .u64 0), (50, .slice A n c0), (51, .int .i64 (n : Int)), (52, .int .i64 (j : Int)), (75, .int .u64 0)], by kernel_rfl, ?_⟩
                refine GL.run (j := 6) 2 [6, 8, 50, 51, 52, 77] [(6, pt p35 0), (8, pt p67 0), (50, .slice A n c0), (51, .int .i64 (n : Int)), (52, .int .i64 (j : Int)), (77, .bool false)] (by kernel_rfl) rfl ?_
                refine GL.k rfl hK297 (fun _ _ h => h) ?_
                refine G.no rfl ?_
                refine G.skipK hK124 (fun _ _ h => h) ?_
                have H302 : Hp w [] [.blk p35 [.slice none 0 0, .bool true] 54, .row A36 bs.length c37 5 1 (by8 bs), .blk p67 [.slice none 0 0, .bool true] 30, .row A62 bs.length c63 5 1 (by8 bs)] w299 := H300.sub (List.Sublist.cons_cons _ (List.Sublist.cons_cons _ (List.Sublist.cons_cons _ (List.Sublist.cons_cons _ (List.Sublist.cons _ (List.Sublist.slnil))))))
                have H303 := (Hp.reorder (L' := [.blk p35 [.slice none 0 0, .bool true] 54, .row A36 bs.length c37 5 1 (by8 bs), .blk p67 [.slice none 0 0, .bool true] 30, .row A62 bs.length c63 5 1 (by8 bs)]) H302 (List.Perm.refl _))
                have H304 : Hp w [] [.blk p35 [.slice none (([] : List UInt8).length) 0, .bool true] 54, .row A36 bs.length c37 5 1 (by8 bs), .blk p67 [.slice none (([] : List UInt8).length) 0, .bool true] 30, .row A62 bs.length c63 5 1 (by8 bs)] w299 := H303
                refine G.fit [6, 8, 50, 51, 52] (M' := [(6, pt p35 0), (8, pt p67 0), (50, .slice A n c0), (51, .int .i64 (n : Int)), (52, .int .i64 (j : Int))]) (by kernel_rfl) ?_
                exact J122 ⟨none, 0, none, 0, true, ([] : List UInt8)⟩ _ ⟨⟨(Cut.nil _ _ _), (Nat.zero_le _), (Cut.nil _ _ _), (Nat.zero_le _), by simp, (fun _ => rfl)⟩, H304⟩
              · skip
                have hb291f := of_decide_eq_true hb291
                refine G.no rfl ?_
                refine G.region ?_
                refine GL.run (j := 2) 2 [6, 8, 10, 50, 51, 52, 66, 67] [(6, pt p35 0), (8, pt p67 0), (10, pt p115 0), (50, .slice A n c0), (51, .int .i64 (n : Int)), (52, .int .i64 (j : Int)), (66, pt p67 0), (67, pt p115 1)] (by kernel_rfl) rfl ?_
                refine GL.sem (j := 3) (H289.ld (o := 1) (ty := 3) (v := .int .i64 (ss j)) 4 rfl (by kernel_rfl) rfl) [6, 8, 10, 50, 51, 52, 66, 68] [(6, pt p35 0), (8, pt p67 0), (10, pt p115 0), (50, .slice A n c0), (51, .int .i64 (n : Int)), (52, .int .i64 (j : Int)), (66, pt p67 0), (68, .int .i64 (ss j))] (by kernel_rfl) (by kernel_rfl) rfl ?_
                have H309 := (Hp.reorder (L' := [.blk p67 [.slice A4 rest.length c4, .bool wr] 30, .row A62 bs.length c63 5 1 (by8 bs), .blk p35 [.slice A3 rest.length c3, .bool wr] 54, .row A36 bs.length c37 5 1 (by8 bs), .blk p115 [.int .i64 (kk j), .int .i64 (ss j), .int .u64 ((f j : Nat) : Int), .slice (BB j) ((bb j).length) (bc j)] 33]) H289 (List.Perm.trans (List.Perm.cons _ (List.Perm.swap _ _ _)) (List.Perm.trans (List.Perm.swap _ _ _) (List.Perm.cons _ (List.Perm.trans (List.Perm.cons _ (List.Perm.swap _ _ _)) (List.Perm.trans (List.Perm.swap _ _ _) (List.Perm.refl _)))))))
                refine GL.call (j := 4) (MRaw_calls (ids [.blk p67 [.slice A4 rest.length c4, .bool wr] 30, .row A62 bs.length c63 5 1 (by8 bs)]) p67 A4 rest.length c4 wr A62 bs.length c63 bs rest (ss j) w288 (Hp.startL (A := [.blk p67 [.slice A4 rest.length c4, .bool wr] 30, .row A62 bs.length c63 5 1 (by8 bs)]) (B := [.blk p35 [.slice A3 rest.length c3, .bool wr] 54, .row A36 bs.length c37 5 1 (by8 bs), .blk p115 [.int .i64 (kk j), .int .i64 (ss j), .int .u64 ((f j : Nat) : Int), .slice (BB j) ((bb j).length) (bc j)] 33]) H309) hcu2 (rfl) (hca2) ((Nat.le_trans hr1 (by decide)))) (by kernel_rfl) rfl (fun e_ w310 hR => ?_)
                obtain ⟨A305, c306, rfl, H312, hC307, hL308⟩ := hR
                have H311 : Hp w [] [.blk p67 [.slice A305 ((zR wr rest (ss j)).length) c306, .bool (!(zOK wr rest (ss j)))] 30, .row A62 bs.length c63 5 1 (by8 bs), .blk p35 [.slice A3 rest.length c3, .bool wr] 54, .row A36 bs.length c37 5 1 (by8 bs), .blk p115 [.int .i64 (kk j), .int .i64 (ss j), .int .u64 ((f j : Nat) : Int), .slice (BB j) ((bb j).length) (bc j)] 33] w310 := Hp.callL (A := [.blk p67 [.slice A4 rest.length c4, .bool wr] 30, .row A62 bs.length c63 5 1 (by8 bs)]) (B := [.blk p35 [.slice A3 rest.length c3, .bool wr] 54, .row A36 bs.length c37 5 1 (by8 bs), .blk p115 [.int .i64 (kk j), .int .i64 (ss j), .int .u64 ((f j : Nat) : Int), .slice (BB j) ((bb j).length) (bc j)] 33]) H309 H312
                refine ⟨_, rfl, [6, 8, 10, 50, 51, 52, 69], [(6, pt p35 0), (8, pt p67 0), (10, pt p115 0), (50, .slice A n c0), (51, .int .i64 (n : Int)), (52, .int .i64 (j : Int)), (69, .string (strOf (zV wr rest (ss j))))], by kernel_rfl, ?_⟩
                obtain ⟨p313, c314, k315, w316, r317, H318⟩ := H311.ofStr (P := Try.prog) (src := 9) (dst := 22) (e := 5) (by kernel_rfl) Try.underlying22 Try.underlying5 (zV wr rest (ss j))
                have H318 : Hp w [] [.blk p67 [.slice A305 ((zR wr rest (ss j)).length) c306, .bool (!(zOK wr rest (ss j)))] 30, .row A62 bs.length c63 5 1 (by8 bs), .blk p35 [.slice A3 rest.length c3, .bool wr] 54, .row A36 bs.length c37 5 1 (by8 bs), .blk p115 [.int .i64 (kk j), .int .i64 (ss j), .int .u64 ((f j : Nat) : Int), .slice (BB j) ((bb j).length) (bc j)] 33, .blk p313 (by8 (zV wr rest (ss j)) ++ List.replicate k315 (Value.int .u8 0)) 5] w316 := H318
                refine GL.sem (j := 5) (r317) [6, 8, 10, 50, 51, 52, 70] [(6, pt p35 0), (8, pt p67 0), (10, pt p115 0), (50, .slice A n c0), (51, .int .i64 (n : Int)), (52, .int .i64 (j : Int)), (70, .slice (some ⟨p313, 0, none⟩) ((zV wr rest (ss j)).length) c314)] (by kernel_rfl) (by kernel_rfl) rfl ?_
                refine GL.call (j := 6) (RGet_calls (zV wr rest (ss j)) (some ⟨p313, 0, none⟩) ((zV wr rest (ss j)).length) c314 w316 (H318.rdBlk (o := 0) 5 (zV wr rest (ss j)).length rfl (take_by8 _ _)) (rfl) (zV_le (by omega))) (by kernel_rfl) rfl (fun e_ w319 hR => ?_)
                obtain ⟨rfl, H321⟩ := hR
                have H320 : Hp w [] [.blk p67 [.slice A305 ((zR wr rest (ss j)).length) c306, .bool (!(zOK wr rest (ss j)))] 30, .row A62 bs.length c63 5 1 (by8 bs), .blk p35 [.slice A3 rest.length c3, .bool wr] 54, .row A36 bs.length c37 5 1 (by8 bs), .blk p115 [.int .i64 (kk j), .int .i64 (ss j), .int .u64 ((f j : Nat) : Int), .slice (BB j) ((bb j).length) (bc j)] 33, .blk p313 (by8 (zV wr rest (ss j)) ++ List.replicate k315 (Value.int .u8 0)) 5] w319 := H318.callNil H321
                refine ⟨_, rfl, [6, 8, 10, 50, 51, 52, 71], [(6, pt p35 0), (8, pt p67 0), (10, pt p115 0), (50, .slice A n c0), (51, .int .i64 (n : Int)), (52, .int .i64 (j : Int)), (71, .int .u64 (((getB (zV wr rest (ss j))) : Nat) : Int))], by kernel_rfl, ?_⟩
                refine GL.run (j := 7) 1 [6, 8, 10, 11, 50, 51, 52] [(6, pt p35 0), (8, pt p67 0), (10, pt p115 0), (11, .int .u64 (((getB (zV wr rest (ss j))) : Nat) : Int)), (50, .slice A n c0), (51, .int .i64 (n : Int)), (52, .int .i64 (j : Int))] (by kernel_rfl) rfl ?_
                refine GL.k rfl hK285 (fun _ _ h => h) ?_
                refine G.seqK fun K322 hK323 => ?_
                refine G.region ?_
                refine GL.run (j := 2) 2 [6, 8, 11, 50, 51, 52, 72, 73] [(6, pt p35 0), (8, pt p67 0), (11, .int .u64 (((getB (zV wr rest (ss j))) : Nat) : Int)), (50, .slice A n c0), (51, .int .i64 (n : Int)), (52, .int .i64 (j : Int)), (72, pt p35 0), (73, pt p115 1)] (by kernel_rfl) rfl ?_
                refine GL.sem (j := 3) (H320.ld (o := 1) (ty := 3) (v := .int .i64 (ss j)) 4 rfl (by kernel_rfl) rfl) [6, 8, 11, 50, 51, 52, 72, 74] [(6, pt p35 0), (8, pt p67 0), (11, .int .u64 (((getB (zV wr rest (ss j))) : Nat) : Int)), (50, .slice A n c0), (51, .int .i64 (n : Int)), (52, .int .i64 (j : Int)), (72, pt p35 0), (74, .int .i64 (ss j))] (by kernel_rfl) (by kernel_rfl) rfl ?_
                have H330 := (Hp.reorder (L' := [.blk p35 [.slice A3 rest.length c3, .bool wr] 54, .row A36 bs.length c37 5 1 (by8 bs), .blk p67 [.slice A305 ((zR wr rest (ss j)).length) c306, .bool (!(zOK wr rest (ss j)))] 30, .row A62 bs.length c63 5 1 (by8 bs), .blk p115 [.int .i64 (kk j), .int .i64 (ss j), .int .u64 ((f j : Nat) : Int), .slice (BB j) ((bb j).length) (bc j)] 33, .blk p313 (by8 (zV wr rest (ss j)) ++ List.replicate k315 (Value.int .u8 0)) 5]) H320 (List.Perm.trans (List.Perm.cons _ (List.Perm.swap _ _ _)) (List.Perm.trans (List.Perm.swap _ _ _) (List.Perm.cons _ (List.Perm.trans (List.Perm.cons _ (List.Perm.swap _ _ _)) (List.Perm.trans (List.Perm.swap _ _ _) (List.Perm.refl _)))))))
                refine GL.call (j := 4) (GetZ_calls (ids [.blk p35 [.slice A3 rest.length c3, .bool wr] 54, .row A36 bs.length c37 5 1 (by8 bs)]) p35 A3 rest.length c3 wr A36 bs.length c37 bs rest (ss j) w319 (Hp.startL (A := [.blk p35 [.slice A3 rest.length c3, .bool wr] 54, .row A36 bs.length c37 5 1 (by8 bs)]) (B := [.blk p67 [.slice A305 ((zR wr rest (ss j)).length) c306, .bool (!(zOK wr rest (ss j)))] 30, .row A62 bs.length c63 5 1 (by8 bs), .blk p115 [.int .i64 (kk j), .int .i64 (ss j), .int .u64 ((f j : Nat) : Int), .slice (BB j) ((bb j).length) (bc j)] 33, .blk p313 (by8 (zV wr rest (ss j)) ++ List.replicate k315 (Value.int .u8 0)) 5]) H330) hcu1 (rfl) (hca1) ((Nat.le_trans hr1 (by decide))) (by omega)) (by kernel_rfl) rfl (fun e_ w331 hR => ?_)
                obtain ⟨A324, c325, rfl, H333, hC328, hL329⟩ := hR
                have H332 : Hp w [] [.blk p35 [.slice A324 ((zR wr rest (ss j)).length) c325, .bool (!(zOK wr rest (ss j)))] 54, .row A36 bs.length c37 5 1 (by8 bs), .blk p67 [.slice A305 ((zR wr rest (ss j)).length) c306, .bool (!(zOK wr rest (ss j)))] 30, .row A62 bs.length c63 5 1 (by8 bs), .blk p115 [.int .i64 (kk j), .int .i64 (ss j), .int .u64 ((f j : Nat) : Int), .slice (BB j) ((bb j).length) (bc j)] 33, .blk p313 (by8 (zV wr rest (ss j)) ++ List.replicate k315 (Value.int .u8 0)) 5] w331 := Hp.callL (A := [.blk p35 [.slice A3 rest.length c3, .bool wr] 54, .row A36 bs.length c37 5 1 (by8 bs)]) (B := [.blk p67 [.slice A305 ((zR wr rest (ss j)).length) c306, .bool (!(zOK wr rest (ss j)))] 30, .row A62 bs.length c63 5 1 (by8 bs), .blk p115 [.int .i64 (kk j), .int .i64 (ss j), .int .u64 ((f j : Nat) : Int), .slice (BB j) ((bb j).length) (bc j)] 33, .blk p313 (by8 (zV wr rest (ss j)) ++ List.replicate k315 (Value.int .u8 0)) 5]) H330 H333
                refine ⟨_, rfl, [6, 8, 11, 50, 51, 52, 75], [(6, pt p35 0), (8, pt p67 0), (11, .int .u64 (((getB (zV wr rest (ss j))) : Nat) : Int)), (50, .slice A n c0), (51, .int .i64 (n : Int)), (52, .int .i64 (j : Int)), (75, .int .u64 (((getB (zV wr rest (ss j))) : Nat) : Int))], by kernel_rfl, ?_⟩
                refine GL.run (j := 6) 2 [6, 8, 50, 51, 52, 77] [(6, pt p35 0), (8, pt p67 0), (50, .slice A n c0), (51, .int .i64 (n : Int)), (52, .int .i64 (j : Int)), (77, .bool ((((getB (zV wr rest (ss j))) : Nat) : Int) != (((getB (zV wr rest (ss j))) : Nat) : Int)))] (by kernel_rfl) rfl ?_
                refine GL.k rfl hK323 (fun _ _ h => h) ?_
                have hb334 : ((((getB (zV wr rest (ss j))) : Nat) : Int) != (((getB (zV wr rest (ss j))) : Nat) : Int)) = false := bne_self_eq_false _
                rw [hb334]
                refine G.no rfl ?_
                refine G.skipK hK124 (fun _ _ h => h) ?_
                have H335 : Hp w [] [.blk p35 [.slice A324 ((zR wr rest (ss j)).length) c325, .bool (!(zOK wr rest (ss j)))] 54, .row A36 bs.length c37 5 1 (by8 bs), .blk p67 [.slice A305 ((zR wr rest (ss j)).length) c306, .bool (!(zOK wr rest (ss j)))] 30, .row A62 bs.length c63 5 1 (by8 bs)] w331 := H332.sub (List.Sublist.cons_cons _ (List.Sublist.cons_cons _ (List.Sublist.cons_cons _ (List.Sublist.cons_cons _ (List.Sublist.cons _ (List.Sublist.cons _ (List.Sublist.slnil)))))))
                have H336 := (Hp.reorder (L' := [.blk p35 [.slice A324 ((zR wr rest (ss j)).length) c325, .bool (!(zOK wr rest (ss j)))] 54, .row A36 bs.length c37 5 1 (by8 bs), .blk p67 [.slice A305 ((zR wr rest (ss j)).length) c306, .bool (!(zOK wr rest (ss j)))] 30, .row A62 bs.length c63 5 1 (by8 bs)]) H335 (List.Perm.refl _))
                have H337 : Hp w [] [.blk p35 [.slice A324 ((zR wr rest (ss j)).length) c325, .bool (!(zOK wr rest (ss j)))] 54, .row A36 bs.length c37 5 1 (by8 bs), .blk p67 [.slice A305 ((zR wr rest (ss j)).length) c306, .bool (!(zOK wr rest (ss j)))] 30, .row A62 bs.length c63 5 1 (by8 bs)] w331 := H336
                refine G.fit [6, 8, 50, 51, 52] (M' := [(6, pt p35 0), (8, pt p67 0), (50, .slice A n c0), (51, .int .i64 (n : Int)), (52, .int .i64 (j : Int))]) (by kernel_rfl) ?_
                exact J122 ⟨A324, c325, A305, c306, (!(zOK wr rest (ss j))), (zR wr rest (ss j))⟩ _ ⟨⟨hC328, hL329, hC307, hL308, Nat.le_trans (zR_le _ _ _) hr1, zR_wrong⟩, H337⟩
          · skip
            rintro ⟨A5, c5, A6, c6, wr2, rest2⟩ w338 ⟨hi339, H340⟩
            refine G.eq (M' := [(6, pt p35 0), (8, pt p67 0), (50, .slice A n c0), (51, .int .i64 (n : Int)), (52, .int .i64 (j : Int))]) rfl ?_
            have H340 : Hp w [] [.blk p35 [.slice A5 rest2.length c5, .bool wr2] 54, .row A36 bs.length c37 5 1 (by8 bs), .blk p67 [.slice A6 rest2.length c6, .bool wr2] 30, .row A62 bs.length c63 5 1 (by8 bs)] w338 := H340
            obtain ⟨hcu1, hca1, hcu2, hca2, hr1, hwr0⟩ := hi339
            refine G.seqK fun K341 hK342 => ?_
            refine G.heldP (Hp w [] [.blk p35 [.slice A5 rest2.length c5, .bool wr2] 54, .row A36 bs.length c37 5 1 (by8 bs), .blk p67 [.slice A6 rest2.length c6, .bool wr2] 30, .row A62 bs.length c63 5 1 (by8 bs)]) (by kernel_rfl) (by kernel_rfl) (fun c_ a_ d_ v_ w_ h_ => hPan c_ a_ d_ v_ w_ h_) ?_
            have H343 := H340.drew
            generalize ({ w338 with drawn := w338.drawn + 1 } : World) = w344 at H343 ⊢
            have hS345 : Hp w [] [.blk p35 [.slice A5 rest2.length c5, .bool wr2] 54, .row A36 bs.length c37 5 1 (by8 bs), .blk p67 [.slice A6 rest2.length c6, .bool wr2] 30, .row A62 bs.length c63 5 1 (by8 bs)] w344 := H343.sub (List.Sublist.cons_cons _ (List.Sublist.cons_cons _ (List.Sublist.cons_cons _ (List.Sublist.cons_cons _ (List.Sublist.slnil)))))
            refine GP.run [0, 2, 3, 4] [6, 8, 50, 51, 52, 129, 133] [(6, pt p35 0), (8, pt p67 0), (50, .slice A n c0), (51, .int .i64 (n : Int)), (52, .int .i64 (j : Int)), (129, pt p35 0), (133, pt p67 1)] [0, 2, 3, 4] (by kernel_rfl) rfl hS345 ?_
            refine GP.sem 5 (fun w_ H_ => H_.ld (o := 1) (ty := 4) (v := .bool wr2) 2 rfl (by kernel_rfl) rfl) [6, 8, 50, 51, 52, 129, 134] [(6, pt p35 0), (8, pt p67 0), (50, .slice A n c0), (51, .int .i64 (n : Int)), (52, .int .i64 (j : Int)), (129, pt p35 0), (134, .bool wr2)] (by kernel_rfl) (by kernel_rfl) (by kernel_rfl) hS345 ?_
            refine GP.call 1 (Wrong_calls (ids [.blk p35 [.slice A5 rest2.length c5, .bool wr2] 54, .row A36 bs.length c37 5 1 (by8 bs)]) p35 A5 rest2.length c5 wr2 A36 bs.length c37 bs w344 (Hp.startL (A := [.blk p35 [.slice A5 rest2.length c5, .bool wr2] 54, .row A36 bs.length c37 5 1 (by8 bs)]) (B := [.blk p67 [.slice A6 rest2.length c6, .bool wr2] 30, .row A62 bs.length c63 5 1 (by8 bs)]) H343)) (by kernel_rfl) (by kernel_rfl) (fun e_ w346 hR => ?_)
            obtain ⟨rfl, H348⟩ := hR
            have H347 : Hp w [] [.blk p35 [.slice A5 rest2.length c5, .bool wr2] 54, .row A36 bs.length c37 5 1 (by8 bs), .blk p67 [.slice A6 rest2.length c6, .bool wr2] 30, .row A62 bs.length c63 5 1 (by8 bs)] w346 := Hp.callL (A := [.blk p35 [.slice A5 rest2.length c5, .bool wr2] 54, .row A36 bs.length c37 5 1 (by8 bs)]) (B := [.blk p67 [.slice A6 rest2.length c6, .bool wr2] 30, .row A62 bs.length c63 5 1 (by8 bs)]) H343 H348
            have hS349 : Hp w [] [.blk p35 [.slice A5 rest2.length c5, .bool wr2] 54, .row A36 bs.length c37 5 1 (by8 bs), .blk p67 [.slice A6 rest2.length c6, .bool wr2] 30, .row A62 bs.length c63 5 1 (by8 bs)] w346 := H347.sub (List.Sublist.cons_cons _ (List.Sublist.cons_cons _ (List.Sublist.cons_cons _ (List.Sublist.cons_cons _ (List.Sublist.slnil)))))
            refine ⟨_, rfl, hS349, [6, 8, 50, 51, 52, 130, 134], [(6, pt p35 0), (8, pt p67 0), (50, .slice A n c0), (51, .int .i64 (n : Int)), (52, .int .i64 (j : Int)), (130, .bool wr2), (134, .bool wr2)], by kernel_rfl, ?_⟩
            rcases (Bool.eq_false_or_eq_true wr2).symm with hb350 | hb350
            · skip
              refine GP.eq (M' := [(6, pt p35 0), (8, pt p67 0), (50, .slice A n c0), (51, .int .i64 (n : Int)), (52, .int .i64 (j : Int)), (130, .bool false), (134, .bool false)]) (by first | (rw [hb350]; done) | (rw [hb350]; rfl)) ?_
              refine GP.run [6, 7, 8, 10, 11, 12] [6, 8, 50, 51, 52, 136, 137, 141] [(6, pt p35 0), (8, pt p67 0), (50, .slice A n c0), (51, .int .i64 (n : Int)), (52, .int .i64 (j : Int)), (136, .bool false), (137, pt p35 0), (141, pt p67 0)] [0, 2, 3, 4, 5, 1, 6, 7, 8, 10, 11, 12] (by kernel_rfl) rfl hS349 ?_
              refine GP.sem 13 (fun w_ H_ => H_.ld (o := 0) (ty := 22) (v := .slice A6 rest2.length c6) 2 rfl (by kernel_rfl) rfl) [6, 8, 50, 51, 52, 136, 137, 142] [(6, pt p35 0), (8, pt p67 0), (50, .slice A n c0), (51, .int .i64 (n : Int)), (52, .int .i64 (j : Int)), (136, .bool false), (137, pt p35 0), (142, .slice A6 rest2.length c6)] (by kernel_rfl) (by kernel_rfl) (by kernel_rfl) hS349 ?_
              refine GP.run [14] [6, 8, 50, 51, 52, 136, 137, 143] [(6, pt p35 0), (8, pt p67 0), (50, .slice A n c0), (51, .int .i64 (n : Int)), (52, .int .i64 (j : Int)), (136, .bool false), (137, pt p35 0), (143, .int .i64 (rest2.length : Int))] [0, 2, 3, 4, 5, 1, 6, 7, 8, 10, 11, 12, 13, 14] (by kernel_rfl) rfl hS349 ?_
              refine GP.call 9 (RLeft_calls (ids [.blk p35 [.slice A5 rest2.length c5, .bool wr2] 54, .row A36 bs.length c37 5 1 (by8 bs)]) p35 A5 rest2.length c5 wr2 A36 bs.length c37 bs rest2 w346 (Hp.startL (A := [.blk p35 [.slice A5 rest2.length c5, .bool wr2] 54, .row A36 bs.length c37 5 1 (by8 bs)]) (B := [.blk p67 [.slice A6 rest2.length c6, .bool wr2] 30, .row A62 bs.length c63 5 1 (by8 bs)]) H347) (rfl)) (by kernel_rfl) (by kernel_rfl) (fun e_ w351 hR => ?_)
              obtain ⟨rfl, H353⟩ := hR
              have H352 : Hp w [] [.blk p35 [.slice A5 rest2.length c5, .bool wr2] 54, .row A36 bs.length c37 5 1 (by8 bs), .blk p67 [.slice A6 rest2.length c6, .bool wr2] 30, .row A62 bs.length c63 5 1 (by8 bs)] w351 := Hp.callL (A := [.blk p35 [.slice A5 rest2.length c5, .bool wr2] 54, .row A36 bs.length c37 5 1 (by8 bs)]) (B := [.blk p67 [.slice A6 rest2.length c6, .bool wr2] 30, .row A62 bs.length c63 5 1 (by8 bs)]) H347 H353
              have hS354 : Hp w [] [.blk p35 [.slice A5 rest2.length c5, .bool wr2] 54, .row A36 bs.length c37 5 1 (by8 bs), .blk p67 [.slice A6 rest2.length c6, .bool wr2] 30, .row A62 bs.length c63 5 1 (by8 bs)] w351 := H352.sub (List.Sublist.cons_cons _ (List.Sublist.cons_cons _ (List.Sublist.cons_cons _ (List.Sublist.cons_cons _ (List.Sublist.slnil)))))
              refine ⟨_, rfl, hS354, [6, 8, 50, 51, 52, 136, 138, 143], [(6, pt p35 0), (8, pt p67 0), (50, .slice A n c0), (51, .int .i64 (n : Int)), (52, .int .i64 (j : Int)), (136, .bool false), (138, .int .i64 (((if wr2 then 0 else rest2.length) : Nat) : Int)), (143, .int .i64 (rest2.length : Int))], by kernel_rfl, ?_⟩
              refine GP.run [15, 16, 17] [6, 8, 50, 51, 52, 146] [(6, pt p35 0), (8, pt p67 0), (50, .slice A n c0), (51, .int .i64 (n : Int)), (52, .int .i64 (j : Int)), (146, .bool ((((if wr2 then 0 else rest2.length) : Nat) : Int) != (rest2.length : Int)))] [0, 2, 3, 4, 5, 1, 6, 7, 8, 10, 11, 12, 13, 14, 9, 15, 16, 17] (by kernel_rfl) rfl hS354 ?_
              have hb355 : ((((if wr2 then 0 else rest2.length) : Nat) : Int) != (rest2.length : Int)) = false := by rw [(by assumption : wr2 = false)]; exact bne_self_eq_false _
              rw [hb355]
              refine GP.run [18, 20, 21, 22] [6, 8, 50, 51, 52, 146, 147, 151] [(6, pt p35 0), (8, pt p67 0), (50, .slice A n c0), (51, .int .i64 (n : Int)), (52, .int .i64 (j : Int)), (146, .bool false), (147, pt p35 0), (151, pt p67 1)] [0, 2, 3, 4, 5, 1, 6, 7, 8, 10, 11, 12, 13, 14, 9, 15, 16, 17, 18, 20, 21, 22] (by kernel_rfl) rfl hS354 ?_
              refine GP.sem 23 (fun w_ H_ => H_.ld (o := 1) (ty := 4) (v := .bool wr2) 2 rfl (by kernel_rfl) rfl) [6, 8, 50, 51, 52, 146, 147, 152] [(6, pt p35 0), (8, pt p67 0), (50, .slice A n c0), (51, .int .i64 (n : Int)), (52, .int .i64 (j : Int)), (146, .bool false), (147, pt p35 0), (152, .bool wr2)] (by kernel_rfl) (by kernel_rfl) (by kernel_rfl) hS354 ?_
              refine GP.run [24] [6, 8, 50, 51, 52, 146, 147, 153] [(6, pt p35 0), (8, pt p67 0), (50, .slice A n c0), (51, .int .i64 (n : Int)), (52, .int .i64 (j : Int)), (146, .bool false), (147, pt p35 0), (153, .bool (!wr2))] [0, 2, 3, 4, 5, 1, 6, 7, 8, 10, 11, 12, 13, 14, 9, 15, 16, 17, 18, 20, 21, 22, 23, 24] (by kernel_rfl) rfl hS354 ?_
              refine GP.call 19 (End_calls (ids [.blk p35 [.slice A5 rest2.length c5, .bool wr2] 54, .row A36 bs.length c37 5 1 (by8 bs)]) p35 A5 rest2.length c5 wr2 A36 bs.length c37 bs rest2 w351 (Hp.startL (A := [.blk p35 [.slice A5 rest2.length c5, .bool wr2] 54, .row A36 bs.length c37 5 1 (by8 bs)]) (B := [.blk p67 [.slice A6 rest2.length c6, .bool wr2] 30, .row A62 bs.length c63 5 1 (by8 bs)]) H352) (rfl)) (by kernel_rfl) (by kernel_rfl) (fun e_ w356 hR => ?_)
              obtain ⟨rfl, H358⟩ := hR
              have H357 : Hp w [] [.blk p35 [.slice A5 rest2.length c5, .bool wr2] 54, .row A36 bs.length c37 5 1 (by8 bs), .blk p67 [.slice A6 rest2.length c6, .bool wr2] 30, .row A62 bs.length c63 5 1 (by8 bs)] w356 := Hp.callL (A := [.blk p35 [.slice A5 rest2.length c5, .bool wr2] 54, .row A36 bs.length c37 5 1 (by8 bs)]) (B := [.blk p67 [.slice A6 rest2.length c6, .bool wr2] 30, .row A62 bs.length c63 5 1 (by8 bs)]) H352 H358
              have hS359 : Hp w [] [.blk p35 [.slice A5 rest2.length c5, .bool wr2] 54, .row A36 bs.length c37 5 1 (by8 bs), .blk p67 [.slice A6 rest2.length c6, .bool wr2] 30, .row A62 bs.length c63 5 1 (by8 bs)] w356 := H357.sub (List.Sublist.cons_cons _ (List.Sublist.cons_cons _ (List.Sublist.cons_cons _ (List.Sublist.cons_cons _ (List.Sublist.slnil)))))
              refine ⟨_, rfl, hS359, [6, 8, 50, 51, 52, 146, 148, 153], [(6, pt p35 0), (8, pt p67 0), (50, .slice A n c0), (51, .int .i64 (n : Int)), (52, .int .i64 (j : Int)), (146, .bool false), (148, .bool ((!wr2) && (rest2.length == 0))), (153, .bool (!wr2))], by kernel_rfl, ?_⟩
              refine GP.run [25] [6, 8, 50, 51, 52, 146, 148, 154] [(6, pt p35 0), (8, pt p67 0), (50, .slice A n c0), (51, .int .i64 (n : Int)), (52, .int .i64 (j : Int)), (146, .bool false), (148, .bool ((!wr2) && (rest2.length == 0))), (154, .bool (!wr2))] [0, 2, 3, 4, 5, 1, 6, 7, 8, 10, 11, 12, 13, 14, 9, 15, 16, 17, 18, 20, 21, 22, 23, 24, 19, 25] (by kernel_rfl) rfl hS359 ?_
              have hb360 : (!wr2) = true := by rw [show wr2 = false from by assumption]; rfl
              rw [hb360]
              refine GP.run [26, 27, 28] [6, 8, 50, 51, 52, 146, 148, 154, 157] [(6, pt p35 0), (8, pt p67 0), (50, .slice A n c0), (51, .int .i64 (n : Int)), (52, .int .i64 (j : Int)), (146, .bool false), (148, .bool (rest2.length == 0)), (154, .bool true), (157, pt p67 0)] [0, 2, 3, 4, 5, 1, 6, 7, 8, 10, 11, 12, 13, 14, 9, 15, 16, 17, 18, 20, 21, 22, 23, 24, 19, 25, 26, 27, 28] (by kernel_rfl) rfl hS359 ?_
              refine GP.sem 29 (fun w_ H_ => H_.ld (o := 0) (ty := 22) (v := .slice A6 rest2.length c6) 2 rfl (by kernel_rfl) rfl) [6, 8, 50, 51, 52, 146, 148, 154, 158] [(6, pt p35 0), (8, pt p67 0), (50, .slice A n c0), (51, .int .i64 (n : Int)), (52, .int .i64 (j : Int)), (146, .bool false), (148, .bool (rest2.length == 0)), (154, .bool true), (158, .slice A6 rest2.length c6)] (by kernel_rfl) (by kernel_rfl) (by kernel_rfl) hS359 ?_
              refine GP.run [30, 31, 32] [6, 8, 50, 51, 52, 146, 148, 161] [(6, pt p35 0), (8, pt p67 0), (50, .slice A n c0), (51, .int .i64 (n : Int)), (52, .int .i64 (j : Int)), (146, .bool false), (148, .bool (rest2.length == 0)), (161, .bool ((rest2.length : Int) == 0))] [0, 2, 3, 4, 5, 1, 6, 7, 8, 10, 11, 12, 13, 14, 9, 15, 16, 17, 18, 20, 21, 22, 23, 24, 19, 25, 26, 27, 28, 29, 30, 31, 32] (by kernel_rfl) rfl hS359 ?_
              cases hb361 : (rest2.length == 0)
              · skip
                have hb361f := ne_of_beq_false hb361
                have hb362 : ((rest2.length : Int) == 0) = false := beq_eq_false_iff_ne.2 (by omega)
                rw [hb362]
                refine GP.run [33, 34] [6, 8, 50, 51, 52, 163] [(6, pt p35 0), (8, pt p67 0), (50, .slice A n c0), (51, .int .i64 (n : Int)), (52, .int .i64 (j : Int)), (163, .bool false)] [0, 2, 3, 4, 5, 1, 6, 7, 8, 10, 11, 12, 13, 14, 9, 15, 16, 17, 18, 20, 21, 22, 23, 24, 19, 25, 26, 27, 28, 29, 30, 31, 32, 33, 34] (by kernel_rfl) rfl hS359 ?_
                refine GP.k (by kernel_rfl) hK342 (fun _ _ h => h) ?_
                refine G.no rfl ?_
                refine G.skipK hK112 (fun _ _ h => h) ?_
                refine G.region ?_
                refine GL.run (j := 2) 2 [6, 8, 50, 51, 52] [(6, pt p35 0), (8, pt p67 0), (50, .slice A n c0), (51, .int .i64 (n : Int)), (52, .int .i64 (IntKind.i64.wrap ((j : Int) + 1)))] (by kernel_rfl) rfl ?_
                have e363 : (IntKind.i64.wrap ((j : Int) + 1)) = ((j + 1 : Nat) : Int) := by rw [in_i64 (by omega)]; omega
                refine GL.eq (M' := [(6, pt p35 0), (8, pt p67 0), (50, .slice A n c0), (51, .int .i64 (n : Int)), (52, .int .i64 ((j + 1 : Nat) : Int))]) (by rw [e363]) ?_
                clear e363
                have H364 := (Hp.reorder (L' := [.blk p35 [.slice A5 rest2.length c5, .bool wr2] 54, .row A36 bs.length c37 5 1 (by8 bs), .blk p67 [.slice A6 rest2.length c6, .bool wr2] 30, .row A62 bs.length c63 5 1 (by8 bs)]) H357 (List.Perm.refl _))
                refine GL.fit (ts := [6, 8, 50, 51, 52]) (M' := [(6, pt p35 0), (8, pt p67 0), (50, .slice A n c0), (51, .int .i64 (n : Int)), (52, .int .i64 ((j + 1 : Nat) : Int))]) (by kernel_rfl) ?_
                refine GL.eq (M' := [(6, pt p35 0), (8, pt p67 0), (50, .slice A n c0), (51, .int .i64 (n : Int)), (52, .int .i64 (((j + 1) : Nat) : Int))]) (by rfl) ?_
                exact GL.again ⟨(j + 1), A5, c5, A6, c6, wr2, rest2⟩ [6, 8, 50, 51, 52] rfl (by kernel_rfl) (by show n - (j + 1) < n - j; omega) ⟨⟨by omega, hcu1, hca1, hcu2, hca2, hr1, hwr0⟩, H364⟩
              · skip
                have hb361f := eq_of_beq hb361
                have hb365 : ((rest2.length : Int) == 0) = true := beq_iff_eq.2 (by omega)
                rw [hb365]
                refine GP.run [33, 34] [6, 8, 50, 51, 52, 163] [(6, pt p35 0), (8, pt p67 0), (50, .slice A n c0), (51, .int .i64 (n : Int)), (52, .int .i64 (j : Int)), (163, .bool false)] [0, 2, 3, 4, 5, 1, 6, 7, 8, 10, 11, 12, 13, 14, 9, 15, 16, 17, 18, 20, 21, 22, 23, 24, 19, 25, 26, 27, 28, 29, 30, 31, 32, 33, 34] (by kernel_rfl) rfl hS359 ?_
                refine GP.k (by kernel_rfl) hK342 (fun _ _ h => h) ?_
                refine G.no rfl ?_
                refine G.skipK hK112 (fun _ _ h => h) ?_
                refine G.region ?_
                refine GL.run (j := 2) 2 [6, 8, 50, 51, 52] [(6, pt p35 0), (8, pt p67 0), (50, .slice A n c0), (51, .int .i64 (n : Int)), (52, .int .i64 (IntKind.i64.wrap ((j : Int) + 1)))] (by kernel_rfl) rfl ?_
                have e366 : (IntKind.i64.wrap ((j : Int) + 1)) = ((j + 1 : Nat) : Int) := by rw [in_i64 (by omega)]; omega
                refine GL.eq (M' := [(6, pt p35 0), (8, pt p67 0), (50, .slice A n c0), (51, .int .i64 (n : Int)), (52, .int .i64 ((j + 1 : Nat) : Int))]) (by rw [e366]) ?_
                clear e366
                have H367 := (Hp.reorder (L' := [.blk p35 [.slice A5 rest2.length c5, .bool wr2] 54, .row A36 bs.length c37 5 1 (by8 bs), .blk p67 [.slice A6 rest2.length c6, .bool wr2] 30, .row A62 bs.length c63 5 1 (by8 bs)]) H357 (List.Perm.refl _))
                refine GL.fit (ts := [6, 8, 50, 51, 52]) (M' := [(6, pt p35 0), (8, pt p67 0), (50, .slice A n c0), (51, .int .i64 (n : Int)), (52, .int .i64 ((j + 1 : Nat) : Int))]) (by kernel_rfl) ?_
                refine GL.eq (M' := [(6, pt p35 0), (8, pt p67 0), (50, .slice A n c0), (51, .int .i64 (n : Int)), (52, .int .i64 (((j + 1) : Nat) : Int))]) (by rfl) ?_
                exact GL.again ⟨(j + 1), A5, c5, A6, c6, wr2, rest2⟩ [6, 8, 50, 51, 52] rfl (by kernel_rfl) (by show n - (j + 1) < n - j; omega) ⟨⟨by omega, hcu1, hca1, hcu2, hca2, hr1, hwr0⟩, H367⟩
            · skip
              refine GP.eq (M' := [(6, pt p35 0), (8, pt p67 0), (50, .slice A n c0), (51, .int .i64 (n : Int)), (52, .int .i64 (j : Int)), (130, .bool true), (134, .bool true)]) (by first | (rw [hb350]; done) | (rw [hb350]; rfl)) ?_
              refine GP.run [6, 7, 8, 10, 11, 12] [6, 8, 50, 51, 52, 136, 137, 141] [(6, pt p35 0), (8, pt p67 0), (50, .slice A n c0), (51, .int .i64 (n : Int)), (52, .int .i64 (j : Int)), (136, .bool false), (137, pt p35 0), (141, pt p67 0)] [0, 2, 3, 4, 5, 1, 6, 7, 8, 10, 11, 12] (by kernel_rfl) rfl hS349 ?_
              refine GP.sem 13 (fun w_ H_ => H_.ld (o := 0) (ty := 22) (v := .slice A6 rest2.length c6) 2 rfl (by kernel_rfl) rfl) [6, 8, 50, 51, 52, 136, 137, 142] [(6, pt p35 0), (8, pt p67 0), (50, .slice A n c0), (51, .int .i64 (n : Int)), (52, .int .i64 (j : Int)), (136, .bool false), (137, pt p35 0), (142, .slice A6 rest2.length c6)] (by kernel_rfl) (by kernel_rfl) (by kernel_rfl) hS349 ?_
              refine GP.run [14] [6, 8, 50, 51, 52, 136, 137, 143] [(6, pt p35 0), (8, pt p67 0), (50, .slice A n c0), (51, .int .i64 (n : Int)), (52, .int .i64 (j : Int)), (136, .bool false), (137, pt p35 0), (143, .int .i64 (rest2.length : Int))] [0, 2, 3, 4, 5, 1, 6, 7, 8, 10, 11, 12, 13, 14] (by kernel_rfl) rfl hS349 ?_
              refine GP.call 9 (RLeft_calls (ids [.blk p35 [.slice A5 rest2.length c5, .bool wr2] 54, .row A36 bs.length c37 5 1 (by8 bs)]) p35 A5 rest2.length c5 wr2 A36 bs.length c37 bs rest2 w346 (Hp.startL (A := [.blk p35 [.slice A5 rest2.length c5, .bool wr2] 54, .row A36 bs.length c37 5 1 (by8 bs)]) (B := [.blk p67 [.slice A6 rest2.length c6, .bool wr2] 30, .row A62 bs.length c63 5 1 (by8 bs)]) H347) (rfl)) (by kernel_rfl) (by kernel_rfl) (fun e_ w368 hR => ?_)
              obtain ⟨rfl, H370⟩ := hR
              have H369 : Hp w [] [.blk p35 [.slice A5 rest2.length c5, .bool wr2] 54, .row A36 bs.length c37 5 1 (by8 bs), .blk p67 [.slice A6 rest2.length c6, .bool wr2] 30, .row A62 bs.length c63 5 1 (by8 bs)] w368 := Hp.callL (A := [.blk p35 [.slice A5 rest2.length c5, .bool wr2] 54, .row A36 bs.length c37 5 1 (by8 bs)]) (B := [.blk p67 [.slice A6 rest2.length c6, .bool wr2] 30, .row A62 bs.length c63 5 1 (by8 bs)]) H347 H370
              have hS371 : Hp w [] [.blk p35 [.slice A5 rest2.length c5, .bool wr2] 54, .row A36 bs.length c37 5 1 (by8 bs), .blk p67 [.slice A6 rest2.length c6, .bool wr2] 30, .row A62 bs.length c63 5 1 (by8 bs)] w368 := H369.sub (List.Sublist.cons_cons _ (List.Sublist.cons_cons _ (List.Sublist.cons_cons _ (List.Sublist.cons_cons _ (List.Sublist.slnil)))))
              refine ⟨_, rfl, hS371, [6, 8, 50, 51, 52, 136, 138, 143], [(6, pt p35 0), (8, pt p67 0), (50, .slice A n c0), (51, .int .i64 (n : Int)), (52, .int .i64 (j : Int)), (136, .bool false), (138, .int .i64 (((if wr2 then 0 else rest2.length) : Nat) : Int)), (143, .int .i64 (rest2.length : Int))], by kernel_rfl, ?_⟩
              refine GP.run [15, 16, 17] [6, 8, 50, 51, 52, 146] [(6, pt p35 0), (8, pt p67 0), (50, .slice A n c0), (51, .int .i64 (n : Int)), (52, .int .i64 (j : Int)), (146, .bool ((((if wr2 then 0 else rest2.length) : Nat) : Int) != (rest2.length : Int)))] [0, 2, 3, 4, 5, 1, 6, 7, 8, 10, 11, 12, 13, 14, 9, 15, 16, 17] (by kernel_rfl) rfl hS371 ?_
              have hb372 : ((((if wr2 then 0 else rest2.length) : Nat) : Int) != (rest2.length : Int)) = false := by rw [(by assumption : wr2 = true), hwr0 (by assumption)]; rfl
              rw [hb372]
              refine GP.run [18, 20, 21, 22] [6, 8, 50, 51, 52, 146, 147, 151] [(6, pt p35 0), (8, pt p67 0), (50, .slice A n c0), (51, .int .i64 (n : Int)), (52, .int .i64 (j : Int)), (146, .bool false), (147, pt p35 0), (151, pt p67 1)] [0, 2, 3, 4, 5, 1, 6, 7, 8, 10, 11, 12, 13, 14, 9, 15, 16, 17, 18, 20, 21, 22] (by kernel_rfl) rfl hS371 ?_
              refine GP.sem 23 (fun w_ H_ => H_.ld (o := 1) (ty := 4) (v := .bool wr2) 2 rfl (by kernel_rfl) rfl) [6, 8, 50, 51, 52, 146, 147, 152] [(6, pt p35 0), (8, pt p67 0), (50, .slice A n c0), (51, .int .i64 (n : Int)), (52, .int .i64 (j : Int)), (146, .bool false), (147, pt p35 0), (152, .bool wr2)] (by kernel_rfl) (by kernel_rfl) (by kernel_rfl) hS371 ?_
              refine GP.run [24] [6, 8, 50, 51, 52, 146, 147, 153] [(6, pt p35 0), (8, pt p67 0), (50, .slice A n c0), (51, .int .i64 (n : Int)), (52, .int .i64 (j : Int)), (146, .bool false), (147, pt p35 0), (153, .bool (!wr2))] [0, 2, 3, 4, 5, 1, 6, 7, 8, 10, 11, 12, 13, 14, 9, 15, 16, 17, 18, 20, 21, 22, 23, 24] (by kernel_rfl) rfl hS371 ?_
              refine GP.call 19 (End_calls (ids [.blk p35 [.slice A5 rest2.length c5, .bool wr2] 54, .row A36 bs.length c37 5 1 (by8 bs)]) p35 A5 rest2.length c5 wr2 A36 bs.length c37 bs rest2 w368 (Hp.startL (A := [.blk p35 [.slice A5 rest2.length c5, .bool wr2] 54, .row A36 bs.length c37 5 1 (by8 bs)]) (B := [.blk p67 [.slice A6 rest2.length c6, .bool wr2] 30, .row A62 bs.length c63 5 1 (by8 bs)]) H369) (rfl)) (by kernel_rfl) (by kernel_rfl) (fun e_ w373 hR => ?_)
              obtain ⟨rfl, H375⟩ := hR
              have H374 : Hp w [] [.blk p35 [.slice A5 rest2.length c5, .bool wr2] 54, .row A36 bs.length c37 5 1 (by8 bs), .blk p67 [.slice A6 rest2.length c6, .bool wr2] 30, .row A62 bs.length c63 5 1 (by8 bs)] w373 := Hp.callL (A := [.blk p35 [.slice A5 rest2.length c5, .bool wr2] 54, .row A36 bs.length c37 5 1 (by8 bs)]) (B := [.blk p67 [.slice A6 rest2.length c6, .bool wr2] 30, .row A62 bs.length c63 5 1 (by8 bs)]) H369 H375
              have hS376 : Hp w [] [.blk p35 [.slice A5 rest2.length c5, .bool wr2] 54, .row A36 bs.length c37 5 1 (by8 bs), .blk p67 [.slice A6 rest2.length c6, .bool wr2] 30, .row A62 bs.length c63 5 1 (by8 bs)] w373 := H374.sub (List.Sublist.cons_cons _ (List.Sublist.cons_cons _ (List.Sublist.cons_cons _ (List.Sublist.cons_cons _ (List.Sublist.slnil)))))
              refine ⟨_, rfl, hS376, [6, 8, 50, 51, 52, 146, 148, 153], [(6, pt p35 0), (8, pt p67 0), (50, .slice A n c0), (51, .int .i64 (n : Int)), (52, .int .i64 (j : Int)), (146, .bool false), (148, .bool ((!wr2) && (rest2.length == 0))), (153, .bool (!wr2))], by kernel_rfl, ?_⟩
              refine GP.run [25] [6, 8, 50, 51, 52, 146, 148, 154] [(6, pt p35 0), (8, pt p67 0), (50, .slice A n c0), (51, .int .i64 (n : Int)), (52, .int .i64 (j : Int)), (146, .bool false), (148, .bool ((!wr2) && (rest2.length == 0))), (154, .bool (!wr2))] [0, 2, 3, 4, 5, 1, 6, 7, 8, 10, 11, 12, 13, 14, 9, 15, 16, 17, 18, 20, 21, 22, 23, 24, 19, 25] (by kernel_rfl) rfl hS376 ?_
              have hb377 : (!wr2) = false := by rw [show wr2 = true from by assumption]; rfl
              rw [hb377]
              refine GP.run [26, 27, 28, 29, 30, 31, 32, 33, 34] [6, 8, 50, 51, 52, 163] [(6, pt p35 0), (8, pt p67 0), (50, .slice A n c0), (51, .int .i64 (n : Int)), (52, .int .i64 (j : Int)), (163, .bool false)] [0, 2, 3, 4, 5, 1, 6, 7, 8, 10, 11, 12, 13, 14, 9, 15, 16, 17, 18, 20, 21, 22, 23, 24, 19, 25, 26, 27, 28, 29, 30, 31, 32, 33, 34] (by kernel_rfl) rfl hS376 ?_
              refine GP.k (by kernel_rfl) hK342 (fun _ _ h => h) ?_
              refine G.no rfl ?_
              refine G.skipK hK112 (fun _ _ h => h) ?_
              refine G.region ?_
              refine GL.run (j := 2) 2 [6, 8, 50, 51, 52] [(6, pt p35 0), (8, pt p67 0), (50, .slice A n c0), (51, .int .i64 (n : Int)), (52, .int .i64 (IntKind.i64.wrap ((j : Int) + 1)))] (by kernel_rfl) rfl ?_
              have e378 : (IntKind.i64.wrap ((j : Int) + 1)) = ((j + 1 : Nat) : Int) := by rw [in_i64 (by omega)]; omega
              refine GL.eq (M' := [(6, pt p35 0), (8, pt p67 0), (50, .slice A n c0), (51, .int .i64 (n : Int)), (52, .int .i64 ((j + 1 : Nat) : Int))]) (by rw [e378]) ?_
              clear e378
              have H379 := (Hp.reorder (L' := [.blk p35 [.slice A5 rest2.length c5, .bool wr2] 54, .row A36 bs.length c37 5 1 (by8 bs), .blk p67 [.slice A6 rest2.length c6, .bool wr2] 30, .row A62 bs.length c63 5 1 (by8 bs)]) H374 (List.Perm.refl _))
              refine GL.fit (ts := [6, 8, 50, 51, 52]) (M' := [(6, pt p35 0), (8, pt p67 0), (50, .slice A n c0), (51, .int .i64 (n : Int)), (52, .int .i64 ((j + 1 : Nat) : Int))]) (by kernel_rfl) ?_
              refine GL.eq (M' := [(6, pt p35 0), (8, pt p67 0), (50, .slice A n c0), (51, .int .i64 (n : Int)), (52, .int .i64 (((j + 1) : Nat) : Int))]) (by rfl) ?_
              exact GL.again ⟨(j + 1), A5, c5, A6, c6, wr2, rest2⟩ [6, 8, 50, 51, 52] rfl (by kernel_rfl) (by show n - (j + 1) < n - j; omega) ⟨⟨by omega, hcu1, hca1, hcu2, hca2, hr1, hwr0⟩, H379⟩
      · skip
        have hb55f := of_decide_eq_true hb55
        refine G.yes rfl ?_
        refine G.skipK hK54 (fun _ _ h => h) ?_
        refine G.seqK fun K380 hK381 => ?_
        refine G.block ?_
        refine G.seqK fun K382 hK383 => ?_
        refine G.region ?_
        refine GL.run (j := 2) 2 [0, 1, 5, 6, 7, 34, 35] [(0, .slice Ab bs.length cb), (1, .slice A n c0), (5, .slice A28 bs.length c29), (6, pt p35 0), (7, .int .i64 (i : Int)), (34, .int .i64 (bs.length : Int)), (35, .int .i64 (i : Int))] (by kernel_rfl) rfl ?_
        refine GL.k rfl hK383 (fun _ _ h => h) ?_
        refine G.region ?_
        refine GL.run (j := 2) 2 [0, 1, 5, 6, 34, 35, 38, 39] [(0, .slice Ab bs.length cb), (1, .slice A n c0), (5, .slice A28 bs.length c29), (6, pt p35 0), (34, .int .i64 (bs.length : Int)), (35, .int .i64 (i : Int)), (38, .slice A28 bs.length c29), (39, .int .i64 (i : Int))] (by kernel_rfl) rfl ?_
        refine GL.sem (j := 3) (run_idxRd (P := Try.prog) (k := .i64) (t := 22) (A := A28) (len := bs.length) (cap := c29) (j := i) (by kernel_rfl) rfl (H50.rdRow 0 rfl) (by rw [by8_length]; first | rfl | omega | exact (cnt_length _).symm | (simp only [List.length_cons, List.length_nil, List.length_drop, List.length_take, List.length_append] <;> omega)) (by first | rfl | omega | exact (cnt_length _).symm | (simp only [List.length_cons, List.length_nil, List.length_drop, List.length_take, List.length_append] <;> omega))) [0, 1, 5, 6, 34, 35, 38, 39, 40] [(0, .slice Ab bs.length cb), (1, .slice A n c0), (5, .slice A28 bs.length c29), (6, pt p35 0), (34, .int .i64 (bs.length : Int)), (35, .int .i64 (i : Int)), (38, .slice A28 bs.length c29), (39, .int .i64 (i : Int)), (40, .pointer (Option.map (fun x => Addr.add x i) A28))] (by kernel_rfl) (by kernel_rfl) rfl ?_
        refine GL.sem (j := 4) (run_ldRd (P := Try.prog) (ty := 5) (A := A28) (j := i) (v := .int .u8 ((ys.getD i 0).toNat : Int)) (by kernel_rfl) (H50.rdRow 0 rfl) (by8_at (getD8 (by omega)))) [0, 1, 5, 6, 34, 35, 38, 39, 41] [(0, .slice Ab bs.length cb), (1, .slice A n c0), (5, .slice A28 bs.length c29), (6, pt p35 0), (34, .int .i64 (bs.length : Int)), (35, .int .i64 (i : Int)), (38, .slice A28 bs.length c29), (39, .int .i64 (i : Int)), (41, .int .u8 ((ys.getD i 0).toNat : Int))] (by kernel_rfl) (by kernel_rfl) rfl ?_
        refine GL.run (j := 5) 1 [0, 1, 5, 6, 34, 35, 38, 39, 42] [(0, .slice Ab bs.length cb), (1, .slice A n c0), (5, .slice A28 bs.length c29), (6, pt p35 0), (34, .int .i64 (bs.length : Int)), (35, .int .i64 (i : Int)), (38, .slice A28 bs.length c29), (39, .int .i64 (i : Int)), (42, .int .u8 (Go.bits .xor .u8 ((ys.getD i 0).toNat : Int) 255))] (by kernel_rfl) rfl ?_
        have e384 : (Go.bits .xor .u8 ((ys.getD i 0).toNat : Int) 255) = (((ys.getD i 0) ^^^ 255).toNat : Int) := n_xor255 _
        refine GL.eq (M' := [(0, .slice Ab bs.length cb), (1, .slice A n c0), (5, .slice A28 bs.length c29), (6, pt p35 0), (34, .int .i64 (bs.length : Int)), (35, .int .i64 (i : Int)), (38, .slice A28 bs.length c29), (39, .int .i64 (i : Int)), (42, .int .u8 (((ys.getD i 0) ^^^ 255).toNat : Int))]) (by rw [e384]) ?_
        clear e384
        refine GL.sem (j := 6) (run_idxRd (P := Try.prog) (k := .i64) (t := 22) (A := A28) (len := bs.length) (cap := c29) (j := i) (by kernel_rfl) rfl (H50.rdRow 0 rfl) (by rw [by8_length]; first | rfl | omega | exact (cnt_length _).symm | (simp only [List.length_cons, List.length_nil, List.length_drop, List.length_take, List.length_append] <;> omega)) (by first | rfl | omega | exact (cnt_length _).symm | (simp only [List.length_cons, List.length_nil, List.length_drop, List.length_take, List.length_append] <;> omega))) [0, 1, 5, 6, 34, 35, 42, 43] [(0, .slice Ab bs.length cb), (1, .slice A n c0), (5, .slice A28 bs.length c29), (6, pt p35 0), (34, .int .i64 (bs.length : Int)), (35, .int .i64 (i : Int)), (42, .int .u8 (((ys.getD i 0) ^^^ 255).toNat : Int)), (43, .pointer (Option.map (fun x => Addr.add x i) A28))] (by kernel_rfl) (by kernel_rfl) rfl ?_
        obtain ⟨w385, r386, H387⟩ := H50.stRow (P := Try.prog) (q := i) (ty := 5) (v := .int .u8 (((ys.getD i 0) ^^^ 255).toNat : Int)) 0 rfl (by kernel_rfl) (by rw [by8_length]; omega) rfl
        rw [by8_set] at H387
        have H387 : Hp w [] [.row A28 bs.length c29 5 1 (by8 (List.set ys i ((ys.getD i 0) ^^^ 255))), .row A36 bs.length c37 5 1 (by8 bs), .blk p35 [.slice A36 bs.length c37, .bool false] 54] w385 := H387
        refine GL.semU (j := 7) r386 [0, 1, 5, 6, 34, 35] [(0, .slice Ab bs.length cb), (1, .slice A n c0), (5, .slice A28 bs.length c29), (6, pt p35 0), (34, .int .i64 (bs.length : Int)), (35, .int .i64 (i : Int))] (by kernel_rfl) rfl rfl rfl ?_
        refine GL.k rfl hK381 (fun _ _ h => h) ?_
        refine G.region ?_
        refine GL.run (j := 2) 2 [0, 1, 5, 6, 34, 35] [(0, .slice Ab bs.length cb), (1, .slice A n c0), (5, .slice A28 bs.length c29), (6, pt p35 0), (34, .int .i64 (bs.length : Int)), (35, .int .i64 (IntKind.i64.wrap ((i : Int) + 1)))] (by kernel_rfl) rfl ?_
        have e388 : (IntKind.i64.wrap ((i : Int) + 1)) = ((i + 1 : Nat) : Int) := by rw [in_i64 (by omega)]; omega
        refine GL.eq (M' := [(0, .slice Ab bs.length cb), (1, .slice A n c0), (5, .slice A28 bs.length c29), (6, pt p35 0), (34, .int .i64 (bs.length : Int)), (35, .int .i64 ((i + 1 : Nat) : Int))]) (by rw [e388]) ?_
        clear e388
        refine GL.fit (ts := [0, 1, 5, 6, 34, 35]) (M' := [(0, .slice Ab bs.length cb), (1, .slice A n c0), (5, .slice A28 bs.length c29), (6, pt p35 0), (34, .int .i64 (bs.length : Int)), (35, .int .i64 ((i + 1 : Nat) : Int))]) (by kernel_rfl) ?_
        refine GL.eq (M' := [(0, .slice Ab bs.length cb), (1, .slice A n c0), (5, .slice A28 bs.length c29), (6, pt p35 0), (34, .int .i64 (bs.length : Int)), (35, .int .i64 (((i + 1) : Nat) : Int))]) (by rfl) ?_
        exact GL.again ⟨(i + 1), (List.set ys i ((ys.getD i 0) ^^^ 255))⟩ [0, 1, 5, 6, 34, 35] rfl (by kernel_rfl) (by show bs.length - (i + 1) < bs.length - i; omega) ⟨⟨by omega, by rw [List.length_set]; exact hyl⟩, H387⟩
    · skip
      have hb21f := of_decide_eq_true hb21
      refine G.yes rfl ?_
      refine G.seqK fun K389 hK390 => ?_
      refine G.region ?_
      refine GL.call (j := 1) (lives_calls w14) (by kernel_rfl) rfl (fun e_ w391 hR => ?_)
      obtain ⟨rfl, H393⟩ := hR
      have H392 : Hp w [] [] w391 := H12.callNil H393
      refine ⟨_, rfl, [27], [(27, .bool true)], by kernel_rfl, ?_⟩
      refine GL.run (j := 2) 1 [4] [(4, .bool true)] (by kernel_rfl) rfl ?_
      refine GL.k rfl hK390 (fun _ _ h => h) ?_
      refine G.ret ?_
      intro F_ hF_ hM_
      refine hRet _ _ (bodyPost_1 rfl (RV.tmp rfl) ?_ F_ hF_ hM_)
      exact ⟨rfl, H392.sub (List.nil_sublist _)⟩
end Go.Proofs.Ytobgpfljdooopaa
