/- Whatever is put is written, and read again: the walk. -/
import Derived.Test.YtobgpfljdooopaaLawB
namespace Go.Proofs.Ytobgpfljdooopaa
open Go.RowKit
theorem rs_le {kk ss : Nat → Int} {f : Nat → Nat} {bb : Nat → List UInt8} (i n : Nat) : (rsE kk ss f bb i (n - i)).length ≤ (accE kk ss f bb n).length := by
  by_cases h : i ≤ n
  · have := acc_rs (kk := kk) (ss := ss) (f := f) (bb := bb) (n - i) i
    rw [show i + (n - i) = n by omega] at this
    rw [this, List.length_append]
    omega
  · rw [show n - i = 0 by omega]
    simp [rsE]
set_option maxHeartbeats 4000000 in
theorem OctetWrites_calls (A : Option Addr) (n c0 : Nat) (xs : List Value) (kk ss : Nat → Int) (f : Nat → Nat) (BB : Nat → Option Addr) (bb : Nat → List UInt8) (bc : Nat → Nat) (w : World) (hr : RdS w A xs) (hx : xs.length = n * 4) (hn : n ≤ 9223372036854775807) (hf : ∀ i, f i < 2 ^ 64) (hs : ∀ i, -9223372036854775808 ≤ ss i ∧ ss i ≤ 9223372036854775807) (hB : ∀ i, RdS w (BB i) (by8 (bb i)) ∧ (bb i).length ≤ bc i ∧ bc i ≤ maxLen) (hel : ∀ i, i < n → (xs.drop (i * 4)).take 4 = [.int .i64 (kk i), .int .i64 (ss i), .int .u64 ((f i : Nat) : Int), .slice (BB i) (bb i).length (bc i)]) : Calls Try.prog 4 #[.slice A n c0] w fun e w' => e = .returned (.bool true) ∧ Hp w [] [] w' := by
  have hMX : MX = 4611686018427387904 := rfl
  have hK0 : K = 18446744073709551616 := rfl
  have hK40 : K4 = 115792089237316195423570985008687907853269984665640564039457584007913129639936 := rfl
  refine calls_G (args := [.slice A n c0]) Try.func4 rfl Try.ntmps4 rfl ?_
  intro Q0 hRet hNor hPan
  have H := Hp.start w
  have H : Hp w [] [] w := H
  refine G.seqK fun K1 hK2 => ?_
  refine G.region ?_
  refine GL.run (j := 1) 1 [0] [(0, .slice A n c0)] (by kernel_rfl) rfl ?_
  refine GL.k rfl hK2 (fun _ _ h => h) ?_
  refine G.seqK fun K3 hK4 => ?_
  refine G.seqK fun K5 hK6 => ?_
  refine G.region ?_
  refine GL.call (j := 1) (lives_calls w) (by kernel_rfl) rfl (fun e_ w7 hR => ?_)
  obtain ⟨rfl, H9⟩ := hR
  have H8 : Hp w [] [] w7 := H.callNil H9
  refine ⟨_, rfl, [0, 11], [(0, .slice A n c0), (11, .bool true)], by kernel_rfl, ?_⟩
  refine GL.run (j := 4) 3 [0, 13, 14] [(0, .slice A n c0), (13, .bool false), (14, .slice A n c0)] (by kernel_rfl) rfl ?_
  refine GL.call (j := 5) (few_calls A n c0 xs kk ss f BB bb bc w7 (hr.hp H8) hx hn hf hs (fun i => ⟨(hB i).1.hp H8, (hB i).2⟩) hel) (by kernel_rfl) rfl (fun e_ w14 hR => ?_)
  obtain ⟨fb10, rfl, hfb11, H13⟩ := hR
  have H12 : Hp w [] [] w14 := H8.callNil H13
  refine ⟨_, rfl, [0, 13, 15], [(0, .slice A n c0), (13, .bool false), (15, .bool fb10)], by kernel_rfl, ?_⟩
  refine GL.run (j := 7) 2 [0, 17] [(0, .slice A n c0), (17, .bool (!fb10))] (by kernel_rfl) rfl ?_
  refine GL.k rfl hK6 (fun _ _ h => h) ?_
  cases hb15 : fb10
  · skip
    refine G.yes rfl ?_
    refine G.seqK fun K16 hK17 => ?_
    refine G.region ?_
    refine GL.call (j := 1) (lives_calls w14) (by kernel_rfl) rfl (fun e_ w18 hR => ?_)
    obtain ⟨rfl, H20⟩ := hR
    have H19 : Hp w [] [] w18 := H12.callNil H20
    refine ⟨_, rfl, [18], [(18, .bool true)], by kernel_rfl, ?_⟩
    refine GL.run (j := 2) 1 [2] [(2, .bool true)] (by kernel_rfl) rfl ?_
    refine GL.k rfl hK17 (fun _ _ h => h) ?_
    refine G.ret ?_
    intro F_ hF_ hM_
    refine hRet _ _ (bodyPost_1 rfl (RV.tmp rfl) ?_ F_ hF_ hM_)
    exact ⟨rfl, H19.sub (List.nil_sublist _)⟩
  · skip
    have hfw := hfb11.1 hb15
    refine G.no rfl ?_
    refine G.skipK hK4 (fun _ _ h => h) ?_
    refine G.seqK fun K21 hK22 => ?_
    refine G.region ?_
    refine GL.run (j := 1) 1 [0, 19] [(0, .slice A n c0), (19, .agg #[.slice none 0 0])] (by kernel_rfl) rfl ?_
    obtain ⟨p23, w24, r25, H26⟩ := H12.box (P := Try.prog) 44 [.slice none 0 0] (.agg #[.slice none 0 0]) rfl
    have H26 : Hp w [] [.blk p23 [.slice none 0 0] 44] w24 := H26
    refine GL.sem (j := 2) (r25) [0, 20] [(0, .slice A n c0), (20, pt p23 0)] (by kernel_rfl) (by kernel_rfl) rfl ?_
    refine GL.run (j := 3) 1 [0, 3] [(0, .slice A n c0), (3, pt p23 0)] (by kernel_rfl) rfl ?_
    refine GL.k rfl hK22 (fun _ _ h => h) ?_
    refine G.seqK fun K27 hK28 => ?_
    refine G.region ?_
    refine GL.run (j := 1) 1 [0, 3, 4] [(0, .slice A n c0), (3, pt p23 0), (4, .pointer none)] (by kernel_rfl) rfl ?_
    refine GL.k rfl hK28 (fun _ _ h => h) ?_
    refine G.seqK fun K29 hK30 => ?_
    refine G.region ?_
    refine GL.run (j := 1) 1 [0, 3, 4, 5] [(0, .slice A n c0), (3, pt p23 0), (4, .pointer none), (5, .string ⟨#[]⟩)] (by kernel_rfl) rfl ?_
    refine GL.k rfl hK30 (fun _ _ h => h) ?_
    refine G.seqK fun K31 hK32 => ?_
    refine G.seqK fun K33 hK34 => ?_
    refine G.region ?_
    refine GL.run (j := 3) 3 [0, 3, 4, 5, 21, 22, 23] [(0, .slice A n c0), (3, pt p23 0), (4, .pointer none), (5, .string ⟨#[]⟩), (21, .slice A n c0), (22, .int .i64 (n : Int)), (23, .int .i64 0)] (by kernel_rfl) rfl ?_
    refine GL.k rfl hK34 (fun _ _ h => h) ?_
    refine G.block ?_
    have H35 := H26.rowNil 5 1
    have H35 : Hp w [] [.blk p23 [.slice none 0 0] 44, .row none 0 0 5 1 (by8 ([] : List UInt8))] w24 := H35
    refine G.fit [0, 3, 4, 5, 21, 22, 23] (M' := [(0, .slice A n c0), (3, pt p23 0), (4, .pointer none), (5, .string ⟨#[]⟩), (21, .slice A n c0), (22, .int .i64 (n : Int)), (23, .int .i64 0)]) (by kernel_rfl) ?_
    refine G.eq (M' := [(0, .slice A n c0), (3, pt p23 0), (4, .pointer none), (5, .string (strOf (accE kk ss f bb 0))), (21, .slice A n c0), (22, .int .i64 (n : Int)), (23, .int .i64 0)]) (by rfl) ?_
    refine G.loop (X := Nat × Option Addr × Nat × Nat) (fun ⟨j, A2, c2, m⟩ => [(0, .slice A n c0), (3, pt p23 0), (4, .pointer none), (5, .string (strOf (accE kk ss f bb j))), (21, .slice A n c0), (22, .int .i64 (n : Int)), (23, .int .i64 (j : Int))]) (fun ⟨j, A2, c2, m⟩ w_ => (j ≤ n ∧ m = (accE kk ss f bb j).length) ∧ Hp w [] [.blk p23 [.slice A2 m c2] 44, .row A2 m c2 5 1 (by8 (accE kk ss f bb j))] w_) (fun ⟨j, A2, c2, m⟩ => n - j) ⟨0, none, 0, 0⟩ [0, 3, 4, 5, 21, 22, 23] (by kernel_rfl) ⟨⟨Nat.zero_le _, rfl⟩, H35⟩ ?_
    rintro ⟨j, A2, c2, m⟩ w36 ⟨hi37, H38⟩
    refine G.eq (M' := [(0, .slice A n c0), (3, pt p23 0), (4, .pointer none), (5, .string (strOf (accE kk ss f bb j))), (21, .slice A n c0), (22, .int .i64 (n : Int)), (23, .int .i64 (j : Int))]) rfl ?_
    have H38 : Hp w [] [.blk p23 [.slice A2 m c2] 44, .row A2 m c2 5 1 (by8 (accE kk ss f bb j))] w36 := H38
    obtain ⟨hjn, hm⟩ := hi37
    have hal := acc_len (kk := kk) (ss := ss) (f := f) (bb := bb) (j := j) (fun i hi => hfw.1 i (by omega))
    have hfj := hf j
    refine G.seqK fun K39 hK40 => ?_
    refine G.region ?_
    refine GL.run (j := 1) 1 [0, 3, 4, 5, 21, 22, 23, 24] [(0, .slice A n c0), (3, pt p23 0), (4, .pointer none), (5, .string (strOf (accE kk ss f bb j))), (21, .slice A n c0), (22, .int .i64 (n : Int)), (23, .int .i64 (j : Int)), (24, .bool (decide ((j : Int) < (n : Int))))] (by kernel_rfl) rfl ?_
    refine GL.k rfl hK40 (fun _ _ h => h) ?_
    refine G.seqK fun K41 hK42 => ?_
    cases hb43 : (decide ((j : Int) < (n : Int)))
    · skip
      have hb43f := of_decide_eq_false hb43
      refine G.no rfl ?_
      refine G.exitK hK32 (fun _ _ h => h) ?_
      refine G.seqK fun K44 hK45 => ?_
      refine G.seqK fun K46 hK47 => ?_
      refine G.region ?_
      refine GL.run (j := 1) 1 [0, 3, 4, 5, 108] [(0, .slice A n c0), (3, pt p23 0), (4, .pointer none), (5, .string (strOf (accE kk ss f bb j))), (108, pt p23 0)] (by kernel_rfl) rfl ?_
      refine GL.call (j := 2) (WBytes_calls (ids [.blk p23 [.slice A2 m c2] 44, .row A2 m c2 5 1 (by8 (accE kk ss f bb j))]) p23 A2 m c2 (accE kk ss f bb j) w36 (Hp.startL (A := [.blk p23 [.slice A2 m c2] 44, .row A2 m c2 5 1 (by8 (accE kk ss f bb j))]) (B := []) H38) (by omega)) (by kernel_rfl) rfl (fun e_ w50 hR => ?_)
      obtain ⟨A48, c49, rfl, H52⟩ := hR
      have H51 : Hp w [] [.blk p23 [.slice A2 m c2] 44, .row A2 m c2 5 1 (by8 (accE kk ss f bb j)), .row A48 m c49 5 1 (by8 (accE kk ss f bb j))] w50 := Hp.callL (A := [.blk p23 [.slice A2 m c2] 44, .row A2 m c2 5 1 (by8 (accE kk ss f bb j))]) (B := []) H38 H52
      refine ⟨_, rfl, [0, 3, 4, 5, 109], [(0, .slice A n c0), (3, pt p23 0), (4, .pointer none), (5, .string (strOf (accE kk ss f bb j))), (109, .slice A48 m c49)], by kernel_rfl, ?_⟩
      refine GL.sem (j := 3) (run_toStr (P := Try.prog) (src := 22) (dst := 9) (A := A48) (bs := (accE kk ss f bb j)) (n := m) (c := c49) (by kernel_rfl) (by kernel_rfl) (H51.rdRow 2 rfl) (by first | rfl | omega | exact (cnt_length _).symm | (simp only [List.length_cons, List.length_nil, List.length_drop, List.length_take, List.length_append] <;> omega))) [0, 3, 4, 5, 110] [(0, .slice A n c0), (3, pt p23 0), (4, .pointer none), (5, .string (strOf (accE kk ss f bb j))), (110, .string (strOf (accE kk ss f bb j)))] (by kernel_rfl) (by kernel_rfl) rfl ?_
      refine GL.run (j := 4) 1 [0, 3, 4, 110, 111] [(0, .slice A n c0), (3, pt p23 0), (4, .pointer none), (110, .string (strOf (accE kk ss f bb j))), (111, .string (strOf (accE kk ss f bb j)))] (by kernel_rfl) rfl ?_
      refine GL.sem (j := 5) (run_str_neq (P := Try.prog) (t := 9) (accE kk ss f bb j) (accE kk ss f bb j) _) [0, 3, 4, 112] [(0, .slice A n c0), (3, pt p23 0), (4, .pointer none), (112, .bool (!((accE kk ss f bb j) == (accE kk ss f bb j))))] (by kernel_rfl) (by kernel_rfl) rfl ?_
      refine GL.run (j := 6) 1 [0, 3, 4, 113] [(0, .slice A n c0), (3, pt p23 0), (4, .pointer none), (113, .bool (!((accE kk ss f bb j) == (accE kk ss f bb j))))] (by kernel_rfl) rfl ?_
      have hb53 : (!((accE kk ss f bb j) == (accE kk ss f bb j))) = false := by rw [show ((accE kk ss f bb j) == (accE kk ss f bb j)) = true from beq_self_eq_true _]; rfl
      rw [hb53]
      refine GL.run (j := 7) 1 [0, 3, 113, 114] [(0, .slice A n c0), (3, pt p23 0), (113, .bool false), (114, .pointer none)] (by kernel_rfl) rfl ?_
      refine GL.call (j := 8) (WBytes_nil w50) (by kernel_rfl) rfl (fun e_ w54 hR => ?_)
      obtain ⟨rfl, H56⟩ := hR
      have H55 : Hp w [] [.blk p23 [.slice A2 m c2] 44, .row A2 m c2 5 1 (by8 (accE kk ss f bb j)), .row A48 m c49 5 1 (by8 (accE kk ss f bb j))] w54 := H51.callNil H56
      refine ⟨_, rfl, [0, 3, 113, 115], [(0, .slice A n c0), (3, pt p23 0), (113, .bool false), (115, .slice none 0 0)], by kernel_rfl, ?_⟩
      refine GL.run (j := 11) 3 [0, 3, 118] [(0, .slice A n c0), (3, pt p23 0), (118, .bool false)] (by kernel_rfl) rfl ?_
      refine GL.k rfl hK47 (fun _ _ h => h) ?_
      refine G.no rfl ?_
      refine G.skipK hK45 (fun _ _ h => h) ?_
      refine G.seqK fun K57 hK58 => ?_
      refine G.region ?_
      refine GL.run (j := 1) 1 [0, 119] [(0, .slice A n c0), (119, pt p23 0)] (by kernel_rfl) rfl ?_
      refine GL.call (j := 2) (WBytes_calls (ids [.blk p23 [.slice A2 m c2] 44, .row A2 m c2 5 1 (by8 (accE kk ss f bb j))]) p23 A2 m c2 (accE kk ss f bb j) w54 (Hp.startL (A := [.blk p23 [.slice A2 m c2] 44, .row A2 m c2 5 1 (by8 (accE kk ss f bb j))]) (B := [.row A48 m c49 5 1 (by8 (accE kk ss f bb j))]) H55) (by omega)) (by kernel_rfl) rfl (fun e_ w61 hR => ?_)
      obtain ⟨A59, c60, rfl, H63⟩ := hR
      have H62 : Hp w [] [.blk p23 [.slice A2 m c2] 44, .row A2 m c2 5 1 (by8 (accE kk ss f bb j)), .row A59 m c60 5 1 (by8 (accE kk ss f bb j)), .row A48 m c49 5 1 (by8 (accE kk ss f bb j))] w61 := Hp.callL (A := [.blk p23 [.slice A2 m c2] 44, .row A2 m c2 5 1 (by8 (accE kk ss f bb j))]) (B := [.row A48 m c49 5 1 (by8 (accE kk ss f bb j))]) H55 H63
      refine ⟨_, rfl, [0, 120], [(0, .slice A n c0), (120, .slice A59 m c60)], by kernel_rfl, ?_⟩
      have hl70 := (H62.rowLe 2 rfl).2.1
      rw [by8_length, Nat.mul_one] at hl70
      refine GL.call (j := 3) (Read_calls (accE kk ss f bb j) A59 m c60 w61 (H62.rdRow 2 rfl) (by omega) (by omega)) (by kernel_rfl) rfl (fun e_ w69 hR => ?_)
      obtain ⟨p64, A65, c66, rfl, H68⟩ := hR
      have H67 : Hp w [] [.blk p23 [.slice A2 m c2] 44, .row A2 m c2 5 1 (by8 (accE kk ss f bb j)), .row A59 m c60 5 1 (by8 (accE kk ss f bb j)), .row A48 m c49 5 1 (by8 (accE kk ss f bb j)), .row A65 m c66 5 1 (by8 (accE kk ss f bb j)), .blk p64 [.slice A65 m c66, .bool false] 54] w69 := H62.callNew H68
      have hk71 : m = (accE kk ss f bb j).length := by omega
      have hc72 := (H67.rowLe 4 rfl).1
      refine ⟨_, rfl, [0, 121], [(0, .slice A n c0), (121, pt p64 0)], by kernel_rfl, ?_⟩
      refine GL.run (j := 4) 1 [0, 8] [(0, .slice A n c0), (8, pt p64 0)] (by kernel_rfl) rfl ?_
      refine GL.k rfl hK58 (fun _ _ h => h) ?_
      refine G.seqK fun K73 hK74 => ?_
      refine G.seqK fun K75 hK76 => ?_
      refine G.region ?_
      refine GL.run (j := 3) 3 [8, 122, 123, 124] [(8, pt p64 0), (122, .slice A n c0), (123, .int .i64 (n : Int)), (124, .int .i64 0)] (by kernel_rfl) rfl ?_
      refine GL.k rfl hK76 (fun _ _ h => h) ?_
      refine G.block ?_
      have H77 : Hp w [] [.row A65 m c66 5 1 (by8 (accE kk ss f bb j)), .blk p64 [.slice A65 m c66, .bool false] 54] w69 := H67.sub (List.Sublist.cons _ (List.Sublist.cons _ (List.Sublist.cons _ (List.Sublist.cons _ (List.Sublist.cons_cons _ (List.Sublist.cons_cons _ (List.Sublist.slnil)))))))
      have HO := (Hp.reorder (L' := [.blk p64 [.slice A65 m c66, .bool false] 54, .row A65 m c66 5 1 (by8 (accE kk ss f bb j))]) H77 (List.Perm.trans (List.Perm.swap _ _ _) (List.Perm.refl _)))
      have hj0 : j = n := by omega
      have ew : (accE kk ss f bb j) = (rsE kk ss f bb 0 (n - 0)) := by rw [hj0]; exact acc_all n
      have H78 : Hp w [] [.blk p64 [.slice A65 ((rsE kk ss f bb 0 (n - 0)).length) c66, .bool false] 54, .row A65 m c66 5 1 (by8 (accE kk ss f bb j))] w69 := by rw [← ew, ← hm]; exact HO
      refine G.fit [8, 122, 123, 124] (M' := [(8, pt p64 0), (122, .slice A n c0), (123, .int .i64 (n : Int)), (124, .int .i64 0)]) (by kernel_rfl) ?_
      refine G.loop (X := Nat × Option Addr × Nat) (fun ⟨i, A3, c3⟩ => [(8, pt p64 0), (122, .slice A n c0), (123, .int .i64 (n : Int)), (124, .int .i64 (i : Int))]) (fun ⟨i, A3, c3⟩ w_ => (i ≤ n ∧ Cut A65 (accE kk ss f bb j) A3 (rsE kk ss f bb i (n - i)) ∧ (rsE kk ss f bb i (n - i)).length ≤ c3) ∧ Hp w [] [.blk p64 [.slice A3 ((rsE kk ss f bb i (n - i)).length) c3, .bool false] 54, .row A65 m c66 5 1 (by8 (accE kk ss f bb j))] w_) (fun ⟨i, A3, c3⟩ => n - i) ⟨0, A65, c66⟩ [8, 122, 123, 124] (by kernel_rfl) ⟨⟨Nat.zero_le _, by rw [← ew]; exact Cut.refl _ _, by rw [← ew, ← hm]; exact hc72⟩, H78⟩ ?_
      rintro ⟨i, A3, c3⟩ w79 ⟨hi80, H81⟩
      refine G.eq (M' := [(8, pt p64 0), (122, .slice A n c0), (123, .int .i64 (n : Int)), (124, .int .i64 (i : Int))]) rfl ?_
      have H81 : Hp w [] [.blk p64 [.slice A3 ((rsE kk ss f bb i (n - i)).length) c3, .bool false] 54, .row A65 m c66 5 1 (by8 (accE kk ss f bb j))] w79 := H81
      obtain ⟨hin, hcut, hcp⟩ := hi80
      have hfi := hf i
      refine G.seqK fun K82 hK83 => ?_
      refine G.region ?_
      refine GL.run (j := 1) 1 [8, 122, 123, 124, 125] [(8, pt p64 0), (122, .slice A n c0), (123, .int .i64 (n : Int)), (124, .int .i64 (i : Int)), (125, .bool (decide ((i : Int) < (n : Int))))] (by kernel_rfl) rfl ?_
      refine GL.k rfl hK83 (fun _ _ h => h) ?_
      refine G.seqK fun K84 hK85 => ?_
      cases hb86 : (decide ((i : Int) < (n : Int)))
      · skip
        have hb86f := of_decide_eq_false hb86
        refine G.no rfl ?_
        refine G.exitK hK74 (fun _ _ h => h) ?_
        refine G.seqK fun K87 hK88 => ?_
        refine G.region ?_
        refine GL.run (j := 1) 1 [8, 182] [(8, pt p64 0), (182, pt p64 0)] (by kernel_rfl) rfl ?_
        refine GL.call (j := 2) (End_calls (ids [.blk p64 [.slice A3 ((rsE kk ss f bb i (n - i)).length) c3, .bool false] 54, .row A65 m c66 5 1 (by8 (accE kk ss f bb j))]) p64 A3 ((rsE kk ss f bb i (n - i)).length) c3 false A65 m c66 (accE kk ss f bb j) (rsE kk ss f bb i (n - i)) w79 (Hp.startL (A := [.blk p64 [.slice A3 ((rsE kk ss f bb i (n - i)).length) c3, .bool false] 54, .row A65 m c66 5 1 (by8 (accE kk ss f bb j))]) (B := []) H81) (rfl)) (by kernel_rfl) rfl (fun e_ w89 hR => ?_)
        obtain ⟨rfl, H91⟩ := hR
        have H90 : Hp w [] [.blk p64 [.slice A3 ((rsE kk ss f bb i (n - i)).length) c3, .bool false] 54, .row A65 m c66 5 1 (by8 (accE kk ss f bb j))] w89 := Hp.callL (A := [.blk p64 [.slice A3 ((rsE kk ss f bb i (n - i)).length) c3, .bool false] 54, .row A65 m c66 5 1 (by8 (accE kk ss f bb j))]) (B := []) H81 H91
        refine ⟨_, rfl, [8, 183], [(8, pt p64 0), (183, .bool ((rsE kk ss f bb i (n - i)).length == 0))], by kernel_rfl, ?_⟩
        refine GL.run (j := 3) 1 [8, 184] [(8, pt p64 0), (184, .bool ((rsE kk ss f bb i (n - i)).length == 0))] (by kernel_rfl) rfl ?_
        have hb92 : ((rsE kk ss f bb i (n - i)).length == 0) = true := by rw [show n - i = 0 by omega]; rfl
        rw [hb92]
        refine GL.run (j := 4) 1 [8, 184, 185] [(8, pt p64 0), (184, .bool true), (185, pt p64 0)] (by kernel_rfl) rfl ?_
        refine GL.call (j := 5) (Wrong_calls (ids [.blk p64 [.slice A3 ((rsE kk ss f bb i (n - i)).length) c3, .bool false] 54, .row A65 m c66 5 1 (by8 (accE kk ss f bb j))]) p64 A3 ((rsE kk ss f bb i (n - i)).length) c3 false A65 m c66 (accE kk ss f bb j) w89 (Hp.startL (A := [.blk p64 [.slice A3 ((rsE kk ss f bb i (n - i)).length) c3, .bool false] 54, .row A65 m c66 5 1 (by8 (accE kk ss f bb j))]) (B := []) H90)) (by kernel_rfl) rfl (fun e_ w93 hR => ?_)
        obtain ⟨rfl, H95⟩ := hR
        have H94 : Hp w [] [.blk p64 [.slice A3 ((rsE kk ss f bb i (n - i)).length) c3, .bool false] 54, .row A65 m c66 5 1 (by8 (accE kk ss f bb j))] w93 := Hp.callL (A := [.blk p64 [.slice A3 ((rsE kk ss f bb i (n - i)).length) c3, .bool false] 54, .row A65 m c66 5 1 (by8 (accE kk ss f bb j))]) (B := []) H90 H95
        refine ⟨_, rfl, [8, 184, 186], [(8, pt p64 0), (184, .bool true), (186, .bool false)], by kernel_rfl, ?_⟩
        refine GL.run (j := 9) 4 [189, 190] [(189, .bool true), (190, pt p64 0)] (by kernel_rfl) rfl ?_
        refine GL.call (j := 10) (RLeft_calls (ids [.blk p64 [.slice A3 ((rsE kk ss f bb i (n - i)).length) c3, .bool false] 54, .row A65 m c66 5 1 (by8 (accE kk ss f bb j))]) p64 A3 ((rsE kk ss f bb i (n - i)).length) c3 false A65 m c66 (accE kk ss f bb j) (rsE kk ss f bb i (n - i)) w93 (Hp.startL (A := [.blk p64 [.slice A3 ((rsE kk ss f bb i (n - i)).length) c3, .bool false] 54, .row A65 m c66 5 1 (by8 (accE kk ss f bb j))]) (B := []) H94) (rfl)) (by kernel_rfl) rfl (fun e_ w96 hR => ?_)
        obtain ⟨rfl, H98⟩ := hR
        have H97 : Hp w [] [.blk p64 [.slice A3 ((rsE kk ss f bb i (n - i)).length) c3, .bool false] 54, .row A65 m c66 5 1 (by8 (accE kk ss f bb j))] w96 := Hp.callL (A := [.blk p64 [.slice A3 ((rsE kk ss f bb i (n - i)).length) c3, .bool false] 54, .row A65 m c66 5 1 (by8 (accE kk ss f bb j))]) (B := []) H94 H98
        refine ⟨_, rfl, [189, 191], [(189, .bool true), (191, .int .i64 (((rsE kk ss f bb i (n - i)).length : Nat) : Int))], by kernel_rfl, ?_⟩
        refine GL.run (j := 13) 3 [2] [(2, .bool ((((rsE kk ss f bb i (n - i)).length : Nat) : Int) == 0))] (by kernel_rfl) rfl ?_
        refine GL.k rfl hK88 (fun _ _ h => h) ?_
        refine G.ret ?_
        intro F_ hF_ hM_
        refine hRet _ _ (bodyPost_1 rfl (RV.tmp rfl) ?_ F_ hF_ hM_)
        have hb99 : ((((rsE kk ss f bb i (n - i)).length : Nat) : Int) == 0) = true := by rw [show n - i = 0 by omega]; rfl
        rw [hb99]
        exact ⟨rfl, H97.sub (List.nil_sublist _)⟩
      · skip
        have hb86f := of_decide_eq_true hb86
        have hbi := hfw.1 i (by omega)
        refine G.yes rfl ?_
        refine G.skipK hK85 (fun _ _ h => h) ?_
        refine G.seqK fun K100 hK101 => ?_
        refine G.block ?_
        refine G.seqK fun K102 hK103 => ?_
        refine G.region ?_
        refine GL.sem (j := 1) (run_idxRdN (P := Try.prog) (k := .i64) (t := 23) (sz := 4) (A := A) (len := n) (cap := c0) (j := i) (by kernel_rfl) rfl (hr.hp H81) hx (by decide) (by omega)) [8, 122, 123, 124, 126] [(8, pt p64 0), (122, .slice A n c0), (123, .int .i64 (n : Int)), (124, .int .i64 (i : Int)), (126, .pointer (Option.map (fun x => Addr.add x (i * 4)) A))] (by kernel_rfl) (by kernel_rfl) rfl ?_
        refine GL.sem (j := 2) (run_ldRdA (P := Try.prog) (ty := 33) (A := A) (o := (i * 4)) (m := 4) (sub := [.int .i64 (kk i), .int .i64 (ss i), .int .u64 ((f i : Nat) : Int), .slice (BB i) ((bb i).length) (bc i)]) (by kernel_rfl) (hr.hp H81) (hel i (by omega)) rfl (by decide)) [8, 122, 123, 124, 127] [(8, pt p64 0), (122, .slice A n c0), (123, .int .i64 (n : Int)), (124, .int .i64 (i : Int)), (127, .agg #[.int .i64 (kk i), .int .i64 (ss i), .int .u64 ((f i : Nat) : Int), .slice (BB i) ((bb i).length) (bc i)])] (by kernel_rfl) (by kernel_rfl) rfl ?_
        obtain ⟨p104, w105, r106, H107⟩ := H81.alloc (P := Try.prog) 33 [.int .i64 0, .int .i64 0, .int .u64 0, .slice none 0 0] (by kernel_rfl)
        have H107 : Hp w [] [.blk p64 [.slice A3 ((rsE kk ss f bb i (n - i)).length) c3, .bool false] 54, .row A65 m c66 5 1 (by8 (accE kk ss f bb j)), .blk p104 [.int .i64 0, .int .i64 0, .int .u64 0, .slice none 0 0] 33] w105 := H107
        refine GL.sem (j := 3) (r106) [8, 10, 122, 123, 124, 127] [(8, pt p64 0), (10, pt p104 0), (122, .slice A n c0), (123, .int .i64 (n : Int)), (124, .int .i64 (i : Int)), (127, .agg #[.int .i64 (kk i), .int .i64 (ss i), .int .u64 ((f i : Nat) : Int), .slice (BB i) ((bb i).length) (bc i)])] (by kernel_rfl) (by kernel_rfl) rfl ?_
        obtain ⟨w108, r109, H110⟩ := H107.stA (P := Try.prog) (o := 0) (vs := [.int .i64 (kk i), .int .i64 (ss i), .int .u64 ((f i : Nat) : Int), .slice (BB i) ((bb i).length) (bc i)]) (ty := 33) (m := 4) 2 rfl (by kernel_rfl) rfl (by simp) (by simp [Value.oneCell'])
        have H110 : Hp w [] [.blk p64 [.slice A3 ((rsE kk ss f bb i (n - i)).length) c3, .bool false] 54, .row A65 m c66 5 1 (by8 (accE kk ss f bb j)), .blk p104 [.int .i64 (kk i), .int .i64 (ss i), .int .u64 ((f i : Nat) : Int), .slice (BB i) ((bb i).length) (bc i)] 33] w108 := H110
        refine GL.semU (j := 4) r109 [8, 10, 122, 123, 124] [(8, pt p64 0), (10, pt p104 0), (122, .slice A n c0), (123, .int .i64 (n : Int)), (124, .int .i64 (i : Int))] (by kernel_rfl) rfl rfl rfl ?_
        refine GL.k rfl hK103 (fun _ _ h => h) ?_
        refine G.seqK fun K111 hK112 => ?_
        refine G.region ?_
        refine GL.run (j := 1) 1 [8, 10, 122, 123, 124, 128] [(8, pt p64 0), (10, pt p104 0), (122, .slice A n c0), (123, .int .i64 (n : Int)), (124, .int .i64 (i : Int)), (128, pt p104 0)] (by kernel_rfl) rfl ?_
        refine GL.sem (j := 2) (H110.ld (o := 0) (ty := 3) (v := .int .i64 (kk i)) 2 rfl (by kernel_rfl) rfl) [8, 10, 122, 123, 124, 129] [(8, pt p64 0), (10, pt p104 0), (122, .slice A n c0), (123, .int .i64 (n : Int)), (124, .int .i64 (i : Int)), (129, .int .i64 (kk i))] (by kernel_rfl) (by kernel_rfl) rfl ?_
        refine GL.k rfl hK112 (fun _ _ h => h) ?_
        refine G.block ?_
        refine G.seqK fun K113 hK114 => ?_
        refine G.region ?_
        refine GL.run (j := 2) 2 [8, 10, 122, 123, 124, 129, 130] [(8, pt p64 0), (10, pt p104 0), (122, .slice A n c0), (123, .int .i64 (n : Int)), (124, .int .i64 (i : Int)), (129, .int .i64 (kk i)), (130, .bool ((kk i) == 0))] (by kernel_rfl) rfl ?_
        refine GL.k rfl hK114 (fun _ _ h => h) ?_
        cases hb115 : ((kk i) == 0)
        · skip
          have hb115f := ne_of_beq_false hb115
          refine G.no rfl ?_
          refine G.seqK fun K116 hK117 => ?_
          refine G.region ?_
          refine GL.run (j := 2) 2 [8, 10, 122, 123, 124, 129, 148] [(8, pt p64 0), (10, pt p104 0), (122, .slice A n c0), (123, .int .i64 (n : Int)), (124, .int .i64 (i : Int)), (129, .int .i64 (kk i)), (148, .bool ((kk i) == 1))] (by kernel_rfl) rfl ?_
          refine GL.k rfl hK117 (fun _ _ h => h) ?_
          cases hb118 : ((kk i) == 1)
          · skip
            have hb118f := ne_of_beq_false hb118
            refine G.no rfl ?_
            refine G.seqK fun K119 hK120 => ?_
            refine G.region ?_
            refine GL.run (j := 2) 2 [8, 10, 122, 123, 124, 129, 157] [(8, pt p64 0), (10, pt p104 0), (122, .slice A n c0), (123, .int .i64 (n : Int)), (124, .int .i64 (i : Int)), (129, .int .i64 (kk i)), (157, .bool ((kk i) == 2))] (by kernel_rfl) rfl ?_
            refine GL.k rfl hK120 (fun _ _ h => h) ?_
            cases hb121 : ((kk i) == 2)
            · skip
              have hb121f := ne_of_beq_false hb121
              refine G.no rfl ?_
              refine G.seqK fun K122 hK123 => ?_
              refine G.region ?_
              refine GL.run (j := 2) 2 [8, 10, 122, 123, 124, 169] [(8, pt p64 0), (10, pt p104 0), (122, .slice A n c0), (123, .int .i64 (n : Int)), (124, .int .i64 (i : Int)), (169, .bool ((kk i) == 3))] (by kernel_rfl) rfl ?_
              refine GL.k rfl hK123 (fun _ _ h => h) ?_
              cases hb124 : ((kk i) == 3)
              · skip
                have hb124f := ne_of_beq_false hb124
                refine G.no rfl ?_
                refine G.skipK hK101 (fun _ _ h => h) ?_
                refine G.region ?_
                refine GL.run (j := 2) 2 [8, 122, 123, 124] [(8, pt p64 0), (122, .slice A n c0), (123, .int .i64 (n : Int)), (124, .int .i64 (IntKind.i64.wrap ((i : Int) + 1)))] (by kernel_rfl) rfl ?_
                have e125 : (IntKind.i64.wrap ((i : Int) + 1)) = ((i + 1 : Nat) : Int) := by rw [in_i64 (by omega)]; omega
                refine GL.eq (M' := [(8, pt p64 0), (122, .slice A n c0), (123, .int .i64 (n : Int)), (124, .int .i64 ((i + 1 : Nat) : Int))]) (by rw [e125]) ?_
                clear e125
                have H126 : Hp w [] [.blk p64 [.slice A3 ((rsE kk ss f bb i (n - i)).length) c3, .bool false] 54, .row A65 m c66 5 1 (by8 (accE kk ss f bb j))] w108 := H110.sub (List.Sublist.cons_cons _ (List.Sublist.cons_cons _ (List.Sublist.cons _ (List.Sublist.slnil))))
                have eT : (rsE kk ss f bb i (n - i)) = (rsE kk ss f bb (i + 1) (n - (i + 1))) := by rw [rs_step (by omega)]; unfold itE; rw [if_neg (by omega)]; rw [if_neg (by omega)]; rw [if_neg (by omega)]; rw [if_neg (by omega)]; rw [List.nil_append]
                have H127 : Hp w [] [.blk p64 [.slice A3 ((rsE kk ss f bb (i + 1) (n - (i + 1))).length) c3, .bool false] 54, .row A65 m c66 5 1 (by8 (accE kk ss f bb j))] w108 := by rw [← eT]; exact H126
                refine GL.fit (ts := [8, 122, 123, 124]) (M' := [(8, pt p64 0), (122, .slice A n c0), (123, .int .i64 (n : Int)), (124, .int .i64 ((i + 1 : Nat) : Int))]) (by kernel_rfl) ?_
                refine GL.eq (M' := [(8, pt p64 0), (122, .slice A n c0), (123, .int .i64 (n : Int)), (124, .int .i64 (((i + 1) : Nat) : Int))]) (by rfl) ?_
                exact GL.again ⟨(i + 1), A3, c3⟩ [8, 122, 123, 124] rfl (by kernel_rfl) (by show n - (i + 1) < n - i; omega) ⟨⟨by omega, by rw [← eT]; exact hcut, by rw [← eT]; exact hcp⟩, H127⟩
              · skip
                have hb124f := eq_of_beq hb124
                refine G.yes rfl ?_
                refine G.seqK fun K128 hK129 => ?_
                refine G.heldP (Hp w [] [.row A65 m c66 5 1 (by8 (accE kk ss f bb j)), .blk p104 [.int .i64 (kk i), .int .i64 (ss i), .int .u64 ((f i : Nat) : Int), .slice (BB i) ((bb i).length) (bc i)] 33]) (by kernel_rfl) (by kernel_rfl) (fun c_ a_ d_ v_ w_ h_ => hPan c_ a_ d_ v_ w_ h_) ?_
                have H130 := H110.drew
                generalize ({ w108 with drawn := w108.drawn + 1 } : World) = w131 at H130 ⊢
                have hS132 : Hp w [] [.row A65 m c66 5 1 (by8 (accE kk ss f bb j)), .blk p104 [.int .i64 (kk i), .int .i64 (ss i), .int .u64 ((f i : Nat) : Int), .slice (BB i) ((bb i).length) (bc i)] 33] w131 := H130.sub (List.Sublist.cons _ (List.Sublist.cons_cons _ (List.Sublist.cons_cons _ (List.Sublist.slnil))))
                refine GP.run [0, 1] [8, 10, 122, 123, 124, 171, 172] [(8, pt p64 0), (10, pt p104 0), (122, .slice A n c0), (123, .int .i64 (n : Int)), (124, .int .i64 (i : Int)), (171, pt p64 0), (172, pt p104 3)] [0, 1] (by kernel_rfl) rfl hS132 ?_
                refine GP.sem 2 (fun w_ H_ => H_.ld (o := 3) (ty := 22) (v := .slice (BB i) ((bb i).length) (bc i)) 1 rfl (by kernel_rfl) rfl) [8, 10, 122, 123, 124, 171, 173] [(8, pt p64 0), (10, pt p104 0), (122, .slice A n c0), (123, .int .i64 (n : Int)), (124, .int .i64 (i : Int)), (171, pt p64 0), (173, .slice (BB i) ((bb i).length) (bc i))] (by kernel_rfl) (by kernel_rfl) (by kernel_rfl) hS132 ?_
                refine GP.run [3, 6] [8, 122, 123, 124, 171, 174, 177] [(8, pt p64 0), (122, .slice A n c0), (123, .int .i64 (n : Int)), (124, .int .i64 (i : Int)), (171, pt p64 0), (174, .int .i64 (((bb i).length : Nat) : Int)), (177, pt p104 3)] [0, 1, 2, 3, 6] (by kernel_rfl) rfl hS132 ?_
                refine GP.sem 7 (fun w_ H_ => H_.ld (o := 3) (ty := 22) (v := .slice (BB i) ((bb i).length) (bc i)) 1 rfl (by kernel_rfl) rfl) [8, 122, 123, 124, 171, 174, 178] [(8, pt p64 0), (122, .slice A n c0), (123, .int .i64 (n : Int)), (124, .int .i64 (i : Int)), (171, pt p64 0), (174, .int .i64 (((bb i).length : Nat) : Int)), (178, .slice (BB i) ((bb i).length) (bc i))] (by kernel_rfl) (by kernel_rfl) (by kernel_rfl) hS132 ?_
                refine GP.sem 8 (fun w_ H_ => run_toStr (P := Try.prog) (src := 22) (dst := 9) (A := (BB i)) (bs := (bb i)) (n := (bb i).length) (c := (bc i)) (by kernel_rfl) (by kernel_rfl) ((hB i).1.hp H_) (rfl)) [8, 122, 123, 124, 171, 174, 179] [(8, pt p64 0), (122, .slice A n c0), (123, .int .i64 (n : Int)), (124, .int .i64 (i : Int)), (171, pt p64 0), (174, .int .i64 (((bb i).length : Nat) : Int)), (179, .string (strOf (bb i)))] (by kernel_rfl) (by kernel_rfl) (by kernel_rfl) hS132 ?_
                have er : rsE kk ss f bb i (n - i) = cnt (bb i).length ++ bb i ++ rsE kk ss f bb (i + 1) (n - (i + 1)) := by rw [rs_step (by omega)]; unfold itE; rw [if_neg (by omega)]; rw [if_neg (by omega)]; rw [if_neg (by omega)]; rw [if_pos (by omega)]
                obtain ⟨T, hT⟩ : ∃ T : List UInt8, T = rsE kk ss f bb (i + 1) (n - (i + 1)) := ⟨_, rfl⟩
                rw [← hT] at er
                have hbi := hfw.1 i (by omega)
                have H133 : Hp w [] [.blk p64 [.slice A3 ((cnt (bb i).length ++ bb i ++ T).length) c3, .bool false] 54, .row A65 m c66 5 1 (by8 (accE kk ss f bb j)), .blk p104 [.int .i64 (kk i), .int .i64 (ss i), .int .u64 ((f i : Nat) : Int), .slice (BB i) ((bb i).length) (bc i)] 33] w131 := by rw [← er]; exact H130
                have hcutX := hcut
                rw [er] at hcutX
                have hcpX := hcp
                rw [er] at hcpX
                have h6X : (cnt (bb i).length ++ bb i ++ T).length ≤ 1000000 := by rw [← er]; exact Nat.le_trans (rs_le _ _) (by have := acc_len (kk := kk) (ss := ss) (f := f) (bb := bb) (j := n) (fun i hi => hfw.1 i (by omega)); omega)
                have hT6 : T.length ≤ 1000000 := by rw [List.length_append] at h6X; omega
                obtain ⟨o140, o141, o142⟩ := back_counted (b := bb i) (by omega) T
                refine GP.call 4 (RCounted_calls (ids [.blk p64 [.slice A3 ((cnt (bb i).length ++ bb i ++ T).length) c3, .bool false] 54, .row A65 m c66 5 1 (by8 (accE kk ss f bb j))]) p64 A3 ((cnt (bb i).length ++ bb i ++ T).length) c3 false A65 m c66 (accE kk ss f bb j) (cnt (bb i).length ++ bb i ++ T) ((bb i).length) w131 (Hp.startL (A := [.blk p64 [.slice A3 ((cnt (bb i).length ++ bb i ++ T).length) c3, .bool false] 54, .row A65 m c66 5 1 (by8 (accE kk ss f bb j))]) (B := [.blk p104 [.int .i64 (kk i), .int .i64 (ss i), .int .u64 ((f i : Nat) : Int), .slice (BB i) ((bb i).length) (bc i)] 33]) H133) hcutX (rfl) (hcpX) (h6X) (by omega)) (by kernel_rfl) (by kernel_rfl) (fun e_ w143 hR => ?_)
                obtain ⟨A134, c135, A136, c137, rfl, H145, hC138, hL139⟩ := hR
                simp only [o140, o141, o142] at H145 hC138 hL139 ⊢
                have H144 : Hp w [] [.blk p64 [.slice A134 T.length c135, .bool false] 54, .row A65 m c66 5 1 (by8 (accE kk ss f bb j)), .row A136 ((bb i).length) c137 5 1 (by8 (bb i)), .blk p104 [.int .i64 (kk i), .int .i64 (ss i), .int .u64 ((f i : Nat) : Int), .slice (BB i) ((bb i).length) (bc i)] 33] w143 := Hp.callL (A := [.blk p64 [.slice A3 ((cnt (bb i).length ++ bb i ++ T).length) c3, .bool false] 54, .row A65 m c66 5 1 (by8 (accE kk ss f bb j))]) (B := [.blk p104 [.int .i64 (kk i), .int .i64 (ss i), .int .u64 ((f i : Nat) : Int), .slice (BB i) ((bb i).length) (bc i)] 33]) H133 H145
                have hS146 : Hp w [] [.row A65 m c66 5 1 (by8 (accE kk ss f bb j)), .blk p104 [.int .i64 (kk i), .int .i64 (ss i), .int .u64 ((f i : Nat) : Int), .slice (BB i) ((bb i).length) (bc i)] 33] w143 := H144.sub (List.Sublist.cons _ (List.Sublist.cons_cons _ (List.Sublist.cons _ (List.Sublist.cons_cons _ (List.Sublist.slnil)))))
                refine ⟨_, rfl, hS146, [8, 122, 123, 124, 175, 179], [(8, pt p64 0), (122, .slice A n c0), (123, .int .i64 (n : Int)), (124, .int .i64 (i : Int)), (175, .slice A136 ((bb i).length) c137), (179, .string (strOf (bb i)))], by kernel_rfl, ?_⟩
                refine GP.weak (Hp w [] [.row A65 m c66 5 1 (by8 (accE kk ss f bb j)), .row A136 ((bb i).length) c137 5 1 (by8 (bb i)), .blk p104 [.int .i64 (kk i), .int .i64 (ss i), .int .u64 ((f i : Nat) : Int), .slice (BB i) ((bb i).length) (bc i)] 33]) (fun w_ h_ => h_.sub (List.Sublist.cons_cons _ (List.Sublist.cons _ (List.Sublist.cons_cons _ (List.Sublist.slnil))))) ?_
                have hS147 : Hp w [] [.row A65 m c66 5 1 (by8 (accE kk ss f bb j)), .row A136 ((bb i).length) c137 5 1 (by8 (bb i)), .blk p104 [.int .i64 (kk i), .int .i64 (ss i), .int .u64 ((f i : Nat) : Int), .slice (BB i) ((bb i).length) (bc i)] 33] w143 := H144.sub (List.Sublist.cons _ (List.Sublist.cons_cons _ (List.Sublist.cons_cons _ (List.Sublist.cons_cons _ (List.Sublist.slnil)))))
                refine GP.sem 5 (fun w_ H_ => run_toStr (P := Try.prog) (src := 22) (dst := 9) (A := A136) (bs := (bb i)) (n := (bb i).length) (c := c137) (by kernel_rfl) (by kernel_rfl) (H_.rdRow 1 rfl) (rfl)) [8, 122, 123, 124, 176, 179] [(8, pt p64 0), (122, .slice A n c0), (123, .int .i64 (n : Int)), (124, .int .i64 (i : Int)), (176, .string (strOf (bb i))), (179, .string (strOf (bb i)))] (by kernel_rfl) (by kernel_rfl) (by kernel_rfl) hS147 ?_
                refine GP.sem 9 (fun w_ H_ => run_str_neq (P := Try.prog) (t := 9) (bb i) (bb i) _) [8, 122, 123, 124, 180] [(8, pt p64 0), (122, .slice A n c0), (123, .int .i64 (n : Int)), (124, .int .i64 (i : Int)), (180, .bool (!((bb i) == (bb i))))] (by kernel_rfl) (by kernel_rfl) (by kernel_rfl) hS147 ?_
                refine GP.k (by kernel_rfl) hK129 (fun _ _ h => h) ?_
                have hb148 : (!((bb i) == (bb i))) = false := by rw [show ((bb i) == (bb i)) = true from beq_self_eq_true _]; rfl
                rw [hb148]
                refine G.no rfl ?_
                refine G.skipK hK101 (fun _ _ h => h) ?_
                refine G.region ?_
                refine GL.run (j := 2) 2 [8, 122, 123, 124] [(8, pt p64 0), (122, .slice A n c0), (123, .int .i64 (n : Int)), (124, .int .i64 (IntKind.i64.wrap ((i : Int) + 1)))] (by kernel_rfl) rfl ?_
                have e149 : (IntKind.i64.wrap ((i : Int) + 1)) = ((i + 1 : Nat) : Int) := by rw [in_i64 (by omega)]; omega
                refine GL.eq (M' := [(8, pt p64 0), (122, .slice A n c0), (123, .int .i64 (n : Int)), (124, .int .i64 ((i + 1 : Nat) : Int))]) (by rw [e149]) ?_
                clear e149
                have H150 : Hp w [] [.blk p64 [.slice A134 T.length c135, .bool false] 54, .row A65 m c66 5 1 (by8 (accE kk ss f bb j))] w143 := H144.sub (List.Sublist.cons_cons _ (List.Sublist.cons_cons _ (List.Sublist.cons _ (List.Sublist.cons _ (List.Sublist.slnil)))))
                have H151 : Hp w [] [.blk p64 [.slice A134 ((rsE kk ss f bb (i + 1) (n - (i + 1))).length) c135, .bool false] 54, .row A65 m c66 5 1 (by8 (accE kk ss f bb j))] w143 := by rw [← hT]; exact H150
                refine GL.fit (ts := [8, 122, 123, 124]) (M' := [(8, pt p64 0), (122, .slice A n c0), (123, .int .i64 (n : Int)), (124, .int .i64 ((i + 1 : Nat) : Int))]) (by kernel_rfl) ?_
                refine GL.eq (M' := [(8, pt p64 0), (122, .slice A n c0), (123, .int .i64 (n : Int)), (124, .int .i64 (((i + 1) : Nat) : Int))]) (by rfl) ?_
                exact GL.again ⟨(i + 1), A134, c135⟩ [8, 122, 123, 124] rfl (by kernel_rfl) (by show n - (i + 1) < n - i; omega) ⟨⟨by omega, by rw [← hT]; exact hC138, by rw [← hT]; exact hL139⟩, H151⟩
            · skip
              have hb121f := eq_of_beq hb121
              refine G.yes rfl ?_
              refine G.seqK fun K152 hK153 => ?_
              refine G.heldP (Hp w [] [.row A65 m c66 5 1 (by8 (accE kk ss f bb j)), .blk p104 [.int .i64 (kk i), .int .i64 (ss i), .int .u64 ((f i : Nat) : Int), .slice (BB i) ((bb i).length) (bc i)] 33]) (by kernel_rfl) (by kernel_rfl) (fun c_ a_ d_ v_ w_ h_ => hPan c_ a_ d_ v_ w_ h_) ?_
              have H154 := H110.drew
              generalize ({ w108 with drawn := w108.drawn + 1 } : World) = w155 at H154 ⊢
              have hS156 : Hp w [] [.row A65 m c66 5 1 (by8 (accE kk ss f bb j)), .blk p104 [.int .i64 (kk i), .int .i64 (ss i), .int .u64 ((f i : Nat) : Int), .slice (BB i) ((bb i).length) (bc i)] 33] w155 := H154.sub (List.Sublist.cons _ (List.Sublist.cons_cons _ (List.Sublist.cons_cons _ (List.Sublist.slnil))))
              refine GP.run [0, 1] [8, 10, 122, 123, 124, 159, 160] [(8, pt p64 0), (10, pt p104 0), (122, .slice A n c0), (123, .int .i64 (n : Int)), (124, .int .i64 (i : Int)), (159, pt p64 0), (160, pt p104 3)] [0, 1] (by kernel_rfl) rfl hS156 ?_
              refine GP.sem 2 (fun w_ H_ => H_.ld (o := 3) (ty := 22) (v := .slice (BB i) ((bb i).length) (bc i)) 1 rfl (by kernel_rfl) rfl) [8, 10, 122, 123, 124, 159, 161] [(8, pt p64 0), (10, pt p104 0), (122, .slice A n c0), (123, .int .i64 (n : Int)), (124, .int .i64 (i : Int)), (159, pt p64 0), (161, .slice (BB i) ((bb i).length) (bc i))] (by kernel_rfl) (by kernel_rfl) (by kernel_rfl) hS156 ?_
              refine GP.run [3, 6] [8, 122, 123, 124, 159, 162, 165] [(8, pt p64 0), (122, .slice A n c0), (123, .int .i64 (n : Int)), (124, .int .i64 (i : Int)), (159, pt p64 0), (162, .int .i64 (((bb i).length : Nat) : Int)), (165, pt p104 3)] [0, 1, 2, 3, 6] (by kernel_rfl) rfl hS156 ?_
              refine GP.sem 7 (fun w_ H_ => H_.ld (o := 3) (ty := 22) (v := .slice (BB i) ((bb i).length) (bc i)) 1 rfl (by kernel_rfl) rfl) [8, 122, 123, 124, 159, 162, 166] [(8, pt p64 0), (122, .slice A n c0), (123, .int .i64 (n : Int)), (124, .int .i64 (i : Int)), (159, pt p64 0), (162, .int .i64 (((bb i).length : Nat) : Int)), (166, .slice (BB i) ((bb i).length) (bc i))] (by kernel_rfl) (by kernel_rfl) (by kernel_rfl) hS156 ?_
              refine GP.sem 8 (fun w_ H_ => run_toStr (P := Try.prog) (src := 22) (dst := 9) (A := (BB i)) (bs := (bb i)) (n := (bb i).length) (c := (bc i)) (by kernel_rfl) (by kernel_rfl) ((hB i).1.hp H_) (rfl)) [8, 122, 123, 124, 159, 162, 167] [(8, pt p64 0), (122, .slice A n c0), (123, .int .i64 (n : Int)), (124, .int .i64 (i : Int)), (159, pt p64 0), (162, .int .i64 (((bb i).length : Nat) : Int)), (167, .string (strOf (bb i)))] (by kernel_rfl) (by kernel_rfl) (by kernel_rfl) hS156 ?_
              have er : rsE kk ss f bb i (n - i) = bb i ++ rsE kk ss f bb (i + 1) (n - (i + 1)) := by rw [rs_step (by omega)]; unfold itE; rw [if_neg (by omega)]; rw [if_neg (by omega)]; rw [if_pos (by omega)]
              obtain ⟨T, hT⟩ : ∃ T : List UInt8, T = rsE kk ss f bb (i + 1) (n - (i + 1)) := ⟨_, rfl⟩
              rw [← hT] at er
              have hbi := hfw.1 i (by omega)
              have H157 : Hp w [] [.blk p64 [.slice A3 ((bb i ++ T).length) c3, .bool false] 54, .row A65 m c66 5 1 (by8 (accE kk ss f bb j)), .blk p104 [.int .i64 (kk i), .int .i64 (ss i), .int .u64 ((f i : Nat) : Int), .slice (BB i) ((bb i).length) (bc i)] 33] w155 := by rw [← er]; exact H154
              have hcutX := hcut
              rw [er] at hcutX
              have hcpX := hcp
              rw [er] at hcpX
              have h6X : (bb i ++ T).length ≤ 1000000 := by rw [← er]; exact Nat.le_trans (rs_le _ _) (by have := acc_len (kk := kk) (ss := ss) (f := f) (bb := bb) (j := n) (fun i hi => hfw.1 i (by omega)); omega)
              have hT6 : T.length ≤ 1000000 := by rw [List.length_append] at h6X; omega
              obtain ⟨o164, o165, o166⟩ := back_raw (bb i) T
              refine GP.call 4 (Raw_calls (ids [.blk p64 [.slice A3 ((bb i ++ T).length) c3, .bool false] 54, .row A65 m c66 5 1 (by8 (accE kk ss f bb j))]) p64 A3 ((bb i ++ T).length) c3 false A65 m c66 (accE kk ss f bb j) (bb i ++ T) ((bb i).length) w155 (Hp.startL (A := [.blk p64 [.slice A3 ((bb i ++ T).length) c3, .bool false] 54, .row A65 m c66 5 1 (by8 (accE kk ss f bb j))]) (B := [.blk p104 [.int .i64 (kk i), .int .i64 (ss i), .int .u64 ((f i : Nat) : Int), .slice (BB i) ((bb i).length) (bc i)] 33]) H157) hcutX (rfl) (hcpX) (h6X)) (by kernel_rfl) (by kernel_rfl) (fun e_ w167 hR => ?_)
              obtain ⟨A158, c159, A160, c161, rfl, H169, hC162, hL163⟩ := hR
              simp only [o164, o165, o166] at H169 hC162 hL163 ⊢
              have H168 : Hp w [] [.blk p64 [.slice A158 T.length c159, .bool false] 54, .row A65 m c66 5 1 (by8 (accE kk ss f bb j)), .row A160 ((bb i).length) c161 5 1 (by8 (bb i)), .blk p104 [.int .i64 (kk i), .int .i64 (ss i), .int .u64 ((f i : Nat) : Int), .slice (BB i) ((bb i).length) (bc i)] 33] w167 := Hp.callL (A := [.blk p64 [.slice A3 ((bb i ++ T).length) c3, .bool false] 54, .row A65 m c66 5 1 (by8 (accE kk ss f bb j))]) (B := [.blk p104 [.int .i64 (kk i), .int .i64 (ss i), .int .u64 ((f i : Nat) : Int), .slice (BB i) ((bb i).length) (bc i)] 33]) H157 H169
              have hS170 : Hp w [] [.row A65 m c66 5 1 (by8 (accE kk ss f bb j)), .blk p104 [.int .i64 (kk i), .int .i64 (ss i), .int .u64 ((f i : Nat) : Int), .slice (BB i) ((bb i).length) (bc i)] 33] w167 := H168.sub (List.Sublist.cons _ (List.Sublist.cons_cons _ (List.Sublist.cons _ (List.Sublist.cons_cons _ (List.Sublist.slnil)))))
              refine ⟨_, rfl, hS170, [8, 122, 123, 124, 163, 167], [(8, pt p64 0), (122, .slice A n c0), (123, .int .i64 (n : Int)), (124, .int .i64 (i : Int)), (163, .slice A160 ((bb i).length) c161), (167, .string (strOf (bb i)))], by kernel_rfl, ?_⟩
              refine GP.weak (Hp w [] [.row A65 m c66 5 1 (by8 (accE kk ss f bb j)), .row A160 ((bb i).length) c161 5 1 (by8 (bb i)), .blk p104 [.int .i64 (kk i), .int .i64 (ss i), .int .u64 ((f i : Nat) : Int), .slice (BB i) ((bb i).length) (bc i)] 33]) (fun w_ h_ => h_.sub (List.Sublist.cons_cons _ (List.Sublist.cons _ (List.Sublist.cons_cons _ (List.Sublist.slnil))))) ?_
              have hS171 : Hp w [] [.row A65 m c66 5 1 (by8 (accE kk ss f bb j)), .row A160 ((bb i).length) c161 5 1 (by8 (bb i)), .blk p104 [.int .i64 (kk i), .int .i64 (ss i), .int .u64 ((f i : Nat) : Int), .slice (BB i) ((bb i).length) (bc i)] 33] w167 := H168.sub (List.Sublist.cons _ (List.Sublist.cons_cons _ (List.Sublist.cons_cons _ (List.Sublist.cons_cons _ (List.Sublist.slnil)))))
              refine GP.sem 5 (fun w_ H_ => run_toStr (P := Try.prog) (src := 22) (dst := 9) (A := A160) (bs := (bb i)) (n := (bb i).length) (c := c161) (by kernel_rfl) (by kernel_rfl) (H_.rdRow 1 rfl) (rfl)) [8, 122, 123, 124, 164, 167] [(8, pt p64 0), (122, .slice A n c0), (123, .int .i64 (n : Int)), (124, .int .i64 (i : Int)), (164, .string (strOf (bb i))), (167, .string (strOf (bb i)))] (by kernel_rfl) (by kernel_rfl) (by kernel_rfl) hS171 ?_
              refine GP.sem 9 (fun w_ H_ => run_str_neq (P := Try.prog) (t := 9) (bb i) (bb i) _) [8, 122, 123, 124, 168] [(8, pt p64 0), (122, .slice A n c0), (123, .int .i64 (n : Int)), (124, .int .i64 (i : Int)), (168, .bool (!((bb i) == (bb i))))] (by kernel_rfl) (by kernel_rfl) (by kernel_rfl) hS171 ?_
              refine GP.k (by kernel_rfl) hK153 (fun _ _ h => h) ?_
              have hb172 : (!((bb i) == (bb i))) = false := by rw [show ((bb i) == (bb i)) = true from beq_self_eq_true _]; rfl
              rw [hb172]
              refine G.no rfl ?_
              refine G.skipK hK101 (fun _ _ h => h) ?_
              refine G.region ?_
              refine GL.run (j := 2) 2 [8, 122, 123, 124] [(8, pt p64 0), (122, .slice A n c0), (123, .int .i64 (n : Int)), (124, .int .i64 (IntKind.i64.wrap ((i : Int) + 1)))] (by kernel_rfl) rfl ?_
              have e173 : (IntKind.i64.wrap ((i : Int) + 1)) = ((i + 1 : Nat) : Int) := by rw [in_i64 (by omega)]; omega
              refine GL.eq (M' := [(8, pt p64 0), (122, .slice A n c0), (123, .int .i64 (n : Int)), (124, .int .i64 ((i + 1 : Nat) : Int))]) (by rw [e173]) ?_
              clear e173
              have H174 : Hp w [] [.blk p64 [.slice A158 T.length c159, .bool false] 54, .row A65 m c66 5 1 (by8 (accE kk ss f bb j))] w167 := H168.sub (List.Sublist.cons_cons _ (List.Sublist.cons_cons _ (List.Sublist.cons _ (List.Sublist.cons _ (List.Sublist.slnil)))))
              have H175 : Hp w [] [.blk p64 [.slice A158 ((rsE kk ss f bb (i + 1) (n - (i + 1))).length) c159, .bool false] 54, .row A65 m c66 5 1 (by8 (accE kk ss f bb j))] w167 := by rw [← hT]; exact H174
              refine GL.fit (ts := [8, 122, 123, 124]) (M' := [(8, pt p64 0), (122, .slice A n c0), (123, .int .i64 (n : Int)), (124, .int .i64 ((i + 1 : Nat) : Int))]) (by kernel_rfl) ?_
              refine GL.eq (M' := [(8, pt p64 0), (122, .slice A n c0), (123, .int .i64 (n : Int)), (124, .int .i64 (((i + 1) : Nat) : Int))]) (by rfl) ?_
              exact GL.again ⟨(i + 1), A158, c159⟩ [8, 122, 123, 124] rfl (by kernel_rfl) (by show n - (i + 1) < n - i; omega) ⟨⟨by omega, by rw [← hT]; exact hC162, by rw [← hT]; exact hL163⟩, H175⟩
          · skip
            have hb118f := eq_of_beq hb118
            refine G.yes rfl ?_
            refine G.seqK fun K176 hK177 => ?_
            refine G.heldP (Hp w [] [.row A65 m c66 5 1 (by8 (accE kk ss f bb j)), .blk p104 [.int .i64 (kk i), .int .i64 (ss i), .int .u64 ((f i : Nat) : Int), .slice (BB i) ((bb i).length) (bc i)] 33]) (by kernel_rfl) (by kernel_rfl) (fun c_ a_ d_ v_ w_ h_ => hPan c_ a_ d_ v_ w_ h_) ?_
            have H178 := H110.drew
            generalize ({ w108 with drawn := w108.drawn + 1 } : World) = w179 at H178 ⊢
            have hS180 : Hp w [] [.row A65 m c66 5 1 (by8 (accE kk ss f bb j)), .blk p104 [.int .i64 (kk i), .int .i64 (ss i), .int .u64 ((f i : Nat) : Int), .slice (BB i) ((bb i).length) (bc i)] 33] w179 := H178.sub (List.Sublist.cons _ (List.Sublist.cons_cons _ (List.Sublist.cons_cons _ (List.Sublist.slnil))))
            refine GP.run [0, 1] [8, 10, 122, 123, 124, 150, 151] [(8, pt p64 0), (10, pt p104 0), (122, .slice A n c0), (123, .int .i64 (n : Int)), (124, .int .i64 (i : Int)), (150, pt p64 0), (151, pt p104 2)] [0, 1] (by kernel_rfl) rfl hS180 ?_
            refine GP.sem 2 (fun w_ H_ => H_.ld (o := 2) (ty := 31) (v := .int .u64 ((f i : Nat) : Int)) 1 rfl (by kernel_rfl) rfl) [8, 10, 122, 123, 124, 150, 152] [(8, pt p64 0), (10, pt p104 0), (122, .slice A n c0), (123, .int .i64 (n : Int)), (124, .int .i64 (i : Int)), (150, pt p64 0), (152, .int .u64 ((f i : Nat) : Int))] (by kernel_rfl) (by kernel_rfl) (by kernel_rfl) hS180 ?_
            refine GP.run [4] [8, 122, 123, 124, 150, 152, 154] [(8, pt p64 0), (122, .slice A n c0), (123, .int .i64 (n : Int)), (124, .int .i64 (i : Int)), (150, pt p64 0), (152, .int .u64 ((f i : Nat) : Int)), (154, pt p104 2)] [0, 1, 2, 4] (by kernel_rfl) rfl hS180 ?_
            refine GP.sem 5 (fun w_ H_ => H_.ld (o := 2) (ty := 31) (v := .int .u64 ((f i : Nat) : Int)) 1 rfl (by kernel_rfl) rfl) [8, 122, 123, 124, 150, 152, 155] [(8, pt p64 0), (122, .slice A n c0), (123, .int .i64 (n : Int)), (124, .int .i64 (i : Int)), (150, pt p64 0), (152, .int .u64 ((f i : Nat) : Int)), (155, .int .u64 ((f i : Nat) : Int))] (by kernel_rfl) (by kernel_rfl) (by kernel_rfl) hS180 ?_
            have er : rsE kk ss f bb i (n - i) = cnt (f i) ++ rsE kk ss f bb (i + 1) (n - (i + 1)) := by rw [rs_step (by omega)]; unfold itE; rw [if_neg (by omega)]; rw [if_pos (by omega)]
            obtain ⟨T, hT⟩ : ∃ T : List UInt8, T = rsE kk ss f bb (i + 1) (n - (i + 1)) := ⟨_, rfl⟩
            rw [← hT] at er
            have hbi := hfw.1 i (by omega)
            have H181 : Hp w [] [.blk p64 [.slice A3 ((cnt (f i) ++ T).length) c3, .bool false] 54, .row A65 m c66 5 1 (by8 (accE kk ss f bb j)), .blk p104 [.int .i64 (kk i), .int .i64 (ss i), .int .u64 ((f i : Nat) : Int), .slice (BB i) ((bb i).length) (bc i)] 33] w179 := by rw [← er]; exact H178
            have hcutX := hcut
            rw [er] at hcutX
            have hcpX := hcp
            rw [er] at hcpX
            have h6X : (cnt (f i) ++ T).length ≤ 1000000 := by rw [← er]; exact Nat.le_trans (rs_le _ _) (by have := acc_len (kk := kk) (ss := ss) (f := f) (bb := bb) (j := n) (fun i hi => hfw.1 i (by omega)); omega)
            have hT6 : T.length ≤ 1000000 := by rw [List.length_append] at h6X; omega
            obtain ⟨o188, o189, o190⟩ := back_cnt (x := f i) (by omega) T
            refine GP.call 3 (RCount_calls (ids [.blk p64 [.slice A3 ((cnt (f i) ++ T).length) c3, .bool false] 54, .row A65 m c66 5 1 (by8 (accE kk ss f bb j))]) p64 A3 ((cnt (f i) ++ T).length) c3 false A65 m c66 (accE kk ss f bb j) (cnt (f i) ++ T) (f i) w179 (Hp.startL (A := [.blk p64 [.slice A3 ((cnt (f i) ++ T).length) c3, .bool false] 54, .row A65 m c66 5 1 (by8 (accE kk ss f bb j))]) (B := [.blk p104 [.int .i64 (kk i), .int .i64 (ss i), .int .u64 ((f i : Nat) : Int), .slice (BB i) ((bb i).length) (bc i)] 33]) H181) hcutX (rfl) (hcpX) (h6X)) (by kernel_rfl) (by kernel_rfl) (fun e_ w191 hR => ?_)
            obtain ⟨A182, c183, rfl, H193, hC186, hL187⟩ := hR
            simp only [o188, o189, o190] at H193 hC186 hL187 ⊢
            have H192 : Hp w [] [.blk p64 [.slice A182 T.length c183, .bool false] 54, .row A65 m c66 5 1 (by8 (accE kk ss f bb j)), .blk p104 [.int .i64 (kk i), .int .i64 (ss i), .int .u64 ((f i : Nat) : Int), .slice (BB i) ((bb i).length) (bc i)] 33] w191 := Hp.callL (A := [.blk p64 [.slice A3 ((cnt (f i) ++ T).length) c3, .bool false] 54, .row A65 m c66 5 1 (by8 (accE kk ss f bb j))]) (B := [.blk p104 [.int .i64 (kk i), .int .i64 (ss i), .int .u64 ((f i : Nat) : Int), .slice (BB i) ((bb i).length) (bc i)] 33]) H181 H193
            have hS194 : Hp w [] [.row A65 m c66 5 1 (by8 (accE kk ss f bb j)), .blk p104 [.int .i64 (kk i), .int .i64 (ss i), .int .u64 ((f i : Nat) : Int), .slice (BB i) ((bb i).length) (bc i)] 33] w191 := H192.sub (List.Sublist.cons _ (List.Sublist.cons_cons _ (List.Sublist.cons_cons _ (List.Sublist.slnil))))
            refine ⟨_, rfl, hS194, [8, 122, 123, 124, 153, 155], [(8, pt p64 0), (122, .slice A n c0), (123, .int .i64 (n : Int)), (124, .int .i64 (i : Int)), (153, .int .u64 ((f i : Nat) : Int)), (155, .int .u64 ((f i : Nat) : Int))], by kernel_rfl, ?_⟩
            refine GP.run [6] [8, 122, 123, 124, 156] [(8, pt p64 0), (122, .slice A n c0), (123, .int .i64 (n : Int)), (124, .int .i64 (i : Int)), (156, .bool (((f i : Nat) : Int) != ((f i : Nat) : Int)))] [0, 1, 2, 4, 5, 3, 6] (by kernel_rfl) rfl hS194 ?_
            refine GP.k (by kernel_rfl) hK177 (fun _ _ h => h) ?_
            have hb195 : (((f i : Nat) : Int) != ((f i : Nat) : Int)) = false := bne_self_eq_false _
            rw [hb195]
            refine G.no rfl ?_
            refine G.skipK hK101 (fun _ _ h => h) ?_
            refine G.region ?_
            refine GL.run (j := 2) 2 [8, 122, 123, 124] [(8, pt p64 0), (122, .slice A n c0), (123, .int .i64 (n : Int)), (124, .int .i64 (IntKind.i64.wrap ((i : Int) + 1)))] (by kernel_rfl) rfl ?_
            have e196 : (IntKind.i64.wrap ((i : Int) + 1)) = ((i + 1 : Nat) : Int) := by rw [in_i64 (by omega)]; omega
            refine GL.eq (M' := [(8, pt p64 0), (122, .slice A n c0), (123, .int .i64 (n : Int)), (124, .int .i64 ((i + 1 : Nat) : Int))]) (by rw [e196]) ?_
            clear e196
            have H197 : Hp w [] [.blk p64 [.slice A182 T.length c183, .bool false] 54, .row A65 m c66 5 1 (by8 (accE kk ss f bb j))] w191 := H192.sub (List.Sublist.cons_cons _ (List.Sublist.cons_cons _ (List.Sublist.cons _ (List.Sublist.slnil))))
            have H198 : Hp w [] [.blk p64 [.slice A182 ((rsE kk ss f bb (i + 1) (n - (i + 1))).length) c183, .bool false] 54, .row A65 m c66 5 1 (by8 (accE kk ss f bb j))] w191 := by rw [← hT]; exact H197
            refine GL.fit (ts := [8, 122, 123, 124]) (M' := [(8, pt p64 0), (122, .slice A n c0), (123, .int .i64 (n : Int)), (124, .int .i64 ((i + 1 : Nat) : Int))]) (by kernel_rfl) ?_
            refine GL.eq (M' := [(8, pt p64 0), (122, .slice A n c0), (123, .int .i64 (n : Int)), (124, .int .i64 (((i + 1) : Nat) : Int))]) (by rfl) ?_
            exact GL.again ⟨(i + 1), A182, c183⟩ [8, 122, 123, 124] rfl (by kernel_rfl) (by show n - (i + 1) < n - i; omega) ⟨⟨by omega, by rw [← hT]; exact hC186, by rw [← hT]; exact hL187⟩, H198⟩
        · skip
          have hb115f := eq_of_beq hb115
          refine G.yes rfl ?_
          refine G.seqK fun K199 hK200 => ?_
          refine G.heldP (Hp w [] [.row A65 m c66 5 1 (by8 (accE kk ss f bb j)), .blk p104 [.int .i64 (kk i), .int .i64 (ss i), .int .u64 ((f i : Nat) : Int), .slice (BB i) ((bb i).length) (bc i)] 33]) (by kernel_rfl) (by kernel_rfl) (fun c_ a_ d_ v_ w_ h_ => hPan c_ a_ d_ v_ w_ h_) ?_
          have H201 := H110.drew
          generalize ({ w108 with drawn := w108.drawn + 1 } : World) = w202 at H201 ⊢
          have hS203 : Hp w [] [.row A65 m c66 5 1 (by8 (accE kk ss f bb j)), .blk p104 [.int .i64 (kk i), .int .i64 (ss i), .int .u64 ((f i : Nat) : Int), .slice (BB i) ((bb i).length) (bc i)] 33] w202 := H201.sub (List.Sublist.cons _ (List.Sublist.cons_cons _ (List.Sublist.cons_cons _ (List.Sublist.slnil))))
          refine GP.run [0] [8, 10, 122, 123, 124, 132] [(8, pt p64 0), (10, pt p104 0), (122, .slice A n c0), (123, .int .i64 (n : Int)), (124, .int .i64 (i : Int)), (132, pt p104 1)] [0] (by kernel_rfl) rfl hS203 ?_
          refine GP.sem 1 (fun w_ H_ => H_.ld (o := 1) (ty := 3) (v := .int .i64 (ss i)) 1 rfl (by kernel_rfl) rfl) [8, 10, 122, 123, 124, 133] [(8, pt p64 0), (10, pt p104 0), (122, .slice A n c0), (123, .int .i64 (n : Int)), (124, .int .i64 (i : Int)), (133, .int .i64 (ss i))] (by kernel_rfl) (by kernel_rfl) (by kernel_rfl) hS203 ?_
          refine GP.call 2 (right_calls (ss i) w202) (by kernel_rfl) (by kernel_rfl) (fun e_ w204 hR => ?_)
          obtain ⟨rfl, H206⟩ := hR
          have H205 : Hp w [] [.blk p64 [.slice A3 ((rsE kk ss f bb i (n - i)).length) c3, .bool false] 54, .row A65 m c66 5 1 (by8 (accE kk ss f bb j)), .blk p104 [.int .i64 (kk i), .int .i64 (ss i), .int .u64 ((f i : Nat) : Int), .slice (BB i) ((bb i).length) (bc i)] 33] w204 := H201.callNil H206
          have hS207 : Hp w [] [.row A65 m c66 5 1 (by8 (accE kk ss f bb j)), .blk p104 [.int .i64 (kk i), .int .i64 (ss i), .int .u64 ((f i : Nat) : Int), .slice (BB i) ((bb i).length) (bc i)] 33] w204 := H205.sub (List.Sublist.cons _ (List.Sublist.cons_cons _ (List.Sublist.cons_cons _ (List.Sublist.slnil))))
          refine ⟨_, rfl, hS207, [8, 10, 122, 123, 124, 134], [(8, pt p64 0), (10, pt p104 0), (122, .slice A n c0), (123, .int .i64 (n : Int)), (124, .int .i64 (i : Int)), (134, .bool (decide ((ss i) = 1 ∨ (ss i) = 2 ∨ (ss i) = 4 ∨ (ss i) = 8)))], by kernel_rfl, ?_⟩
          refine GP.run [3] [8, 10, 122, 123, 124, 135] [(8, pt p64 0), (10, pt p104 0), (122, .slice A n c0), (123, .int .i64 (n : Int)), (124, .int .i64 (i : Int)), (135, .bool (decide ((ss i) = 1 ∨ (ss i) = 2 ∨ (ss i) = 4 ∨ (ss i) = 8)))] [0, 1, 2, 3] (by kernel_rfl) rfl hS207 ?_
          cases hb208 : (decide ((ss i) = 1 ∨ (ss i) = 2 ∨ (ss i) = 4 ∨ (ss i) = 8))
          · skip
            have hb208f := of_decide_eq_false hb208
            refine GP.run [4, 5, 6, 7, 8, 9, 10, 11, 12, 13, 14, 15] [8, 122, 123, 124, 147] [(8, pt p64 0), (122, .slice A n c0), (123, .int .i64 (n : Int)), (124, .int .i64 (i : Int)), (147, .bool false)] [0, 1, 2, 3, 4, 5, 6, 7, 8, 9, 10, 11, 12, 13, 14, 15] (by kernel_rfl) rfl hS207 ?_
            refine GP.k (by kernel_rfl) hK200 (fun _ _ h => h) ?_
            refine G.no rfl ?_
            refine G.skipK hK101 (fun _ _ h => h) ?_
            refine G.region ?_
            refine GL.run (j := 2) 2 [8, 122, 123, 124] [(8, pt p64 0), (122, .slice A n c0), (123, .int .i64 (n : Int)), (124, .int .i64 (IntKind.i64.wrap ((i : Int) + 1)))] (by kernel_rfl) rfl ?_
            have e209 : (IntKind.i64.wrap ((i : Int) + 1)) = ((i + 1 : Nat) : Int) := by rw [in_i64 (by omega)]; omega
            refine GL.eq (M' := [(8, pt p64 0), (122, .slice A n c0), (123, .int .i64 (n : Int)), (124, .int .i64 ((i + 1 : Nat) : Int))]) (by rw [e209]) ?_
            clear e209
            have H210 : Hp w [] [.blk p64 [.slice A3 ((rsE kk ss f bb i (n - i)).length) c3, .bool false] 54, .row A65 m c66 5 1 (by8 (accE kk ss f bb j))] w204 := H205.sub (List.Sublist.cons_cons _ (List.Sublist.cons_cons _ (List.Sublist.cons _ (List.Sublist.slnil))))
            have eT : (rsE kk ss f bb i (n - i)) = (rsE kk ss f bb (i + 1) (n - (i + 1))) := by rw [rs_step (by omega)]; unfold itE; rw [if_pos (by omega)]; rw [putS_not (by unfold rightS; omega)]; rw [List.nil_append]
            have H211 : Hp w [] [.blk p64 [.slice A3 ((rsE kk ss f bb (i + 1) (n - (i + 1))).length) c3, .bool false] 54, .row A65 m c66 5 1 (by8 (accE kk ss f bb j))] w204 := by rw [← eT]; exact H210
            refine GL.fit (ts := [8, 122, 123, 124]) (M' := [(8, pt p64 0), (122, .slice A n c0), (123, .int .i64 (n : Int)), (124, .int .i64 ((i + 1 : Nat) : Int))]) (by kernel_rfl) ?_
            refine GL.eq (M' := [(8, pt p64 0), (122, .slice A n c0), (123, .int .i64 (n : Int)), (124, .int .i64 (((i + 1) : Nat) : Int))]) (by rfl) ?_
            exact GL.again ⟨(i + 1), A3, c3⟩ [8, 122, 123, 124] rfl (by kernel_rfl) (by show n - (i + 1) < n - i; omega) ⟨⟨by omega, by rw [← eT]; exact hcut, by rw [← eT]; exact hcp⟩, H211⟩
          · skip
            have hb208f := of_decide_eq_true hb208
            refine GP.run [4, 5] [8, 10, 122, 123, 124, 135, 136, 137] [(8, pt p64 0), (10, pt p104 0), (122, .slice A n c0), (123, .int .i64 (n : Int)), (124, .int .i64 (i : Int)), (135, .bool true), (136, pt p64 0), (137, pt p104 1)] [0, 1, 2, 3, 4, 5] (by kernel_rfl) rfl hS207 ?_
            refine GP.sem 6 (fun w_ H_ => H_.ld (o := 1) (ty := 3) (v := .int .i64 (ss i)) 1 rfl (by kernel_rfl) rfl) [8, 10, 122, 123, 124, 135, 136, 138] [(8, pt p64 0), (10, pt p104 0), (122, .slice A n c0), (123, .int .i64 (n : Int)), (124, .int .i64 (i : Int)), (135, .bool true), (136, pt p64 0), (138, .int .i64 (ss i))] (by kernel_rfl) (by kernel_rfl) (by kernel_rfl) hS207 ?_
            refine GP.run [8] [8, 10, 122, 123, 124, 135, 136, 138, 140] [(8, pt p64 0), (10, pt p104 0), (122, .slice A n c0), (123, .int .i64 (n : Int)), (124, .int .i64 (i : Int)), (135, .bool true), (136, pt p64 0), (138, .int .i64 (ss i)), (140, pt p104 2)] [0, 1, 2, 3, 4, 5, 6, 8] (by kernel_rfl) rfl hS207 ?_
            refine GP.sem 9 (fun w_ H_ => H_.ld (o := 2) (ty := 31) (v := .int .u64 ((f i : Nat) : Int)) 1 rfl (by kernel_rfl) rfl) [8, 10, 122, 123, 124, 135, 136, 138, 141] [(8, pt p64 0), (10, pt p104 0), (122, .slice A n c0), (123, .int .i64 (n : Int)), (124, .int .i64 (i : Int)), (135, .bool true), (136, pt p64 0), (138, .int .i64 (ss i)), (141, .int .u64 ((f i : Nat) : Int))] (by kernel_rfl) (by kernel_rfl) (by kernel_rfl) hS207 ?_
            refine GP.run [10] [8, 122, 123, 124, 135, 136, 138, 141, 142] [(8, pt p64 0), (122, .slice A n c0), (123, .int .i64 (n : Int)), (124, .int .i64 (i : Int)), (135, .bool true), (136, pt p64 0), (138, .int .i64 (ss i)), (141, .int .u64 ((f i : Nat) : Int)), (142, pt p104 1)] [0, 1, 2, 3, 4, 5, 6, 8, 9, 10] (by kernel_rfl) rfl hS207 ?_
            refine GP.sem 11 (fun w_ H_ => H_.ld (o := 1) (ty := 3) (v := .int .i64 (ss i)) 1 rfl (by kernel_rfl) rfl) [8, 122, 123, 124, 135, 136, 138, 141, 143] [(8, pt p64 0), (122, .slice A n c0), (123, .int .i64 (n : Int)), (124, .int .i64 (i : Int)), (135, .bool true), (136, pt p64 0), (138, .int .i64 (ss i)), (141, .int .u64 ((f i : Nat) : Int)), (143, .int .i64 (ss i))] (by kernel_rfl) (by kernel_rfl) (by kernel_rfl) hS207 ?_
            have er : rsE kk ss f bb i (n - i) = putS (f i) (ss i) ++ rsE kk ss f bb (i + 1) (n - (i + 1)) := by rw [rs_step (by omega)]; unfold itE; rw [if_pos (by omega)]
            obtain ⟨T, hT⟩ : ∃ T : List UInt8, T = rsE kk ss f bb (i + 1) (n - (i + 1)) := ⟨_, rfl⟩
            rw [← hT] at er
            have hbi := hfw.1 i (by omega)
            have H212 : Hp w [] [.blk p64 [.slice A3 ((putS (f i) (ss i) ++ T).length) c3, .bool false] 54, .row A65 m c66 5 1 (by8 (accE kk ss f bb j)), .blk p104 [.int .i64 (kk i), .int .i64 (ss i), .int .u64 ((f i : Nat) : Int), .slice (BB i) ((bb i).length) (bc i)] 33] w204 := by rw [← er]; exact H205
            have hcutX := hcut
            rw [er] at hcutX
            have hcpX := hcp
            rw [er] at hcpX
            have h6X : (putS (f i) (ss i) ++ T).length ≤ 1000000 := by rw [← er]; exact Nat.le_trans (rs_le _ _) (by have := acc_len (kk := kk) (ss := ss) (f := f) (bb := bb) (j := n) (fun i hi => hfw.1 i (by omega)); omega)
            have hT6 : T.length ≤ 1000000 := by rw [List.length_append] at h6X; omega
            obtain ⟨o219, o220, o221⟩ := back_size (x := f i) (s := ss i) (by omega) T
            refine GP.call 7 (Get_calls (ids [.blk p64 [.slice A3 ((putS (f i) (ss i) ++ T).length) c3, .bool false] 54, .row A65 m c66 5 1 (by8 (accE kk ss f bb j))]) p64 A3 ((putS (f i) (ss i) ++ T).length) c3 false A65 m c66 (accE kk ss f bb j) (putS (f i) (ss i) ++ T) (ss i) w204 (Hp.startL (A := [.blk p64 [.slice A3 ((putS (f i) (ss i) ++ T).length) c3, .bool false] 54, .row A65 m c66 5 1 (by8 (accE kk ss f bb j))]) (B := [.blk p104 [.int .i64 (kk i), .int .i64 (ss i), .int .u64 ((f i : Nat) : Int), .slice (BB i) ((bb i).length) (bc i)] 33]) H212) hcutX (rfl) (hcpX) (h6X) (by omega)) (by kernel_rfl) (by kernel_rfl) (fun e_ w222 hR => ?_)
            obtain ⟨A213, c214, rfl, H224, hC217, hL218⟩ := hR
            simp only [o219, o220, o221] at H224 hC217 hL218 ⊢
            have H223 : Hp w [] [.blk p64 [.slice A213 T.length c214, .bool false] 54, .row A65 m c66 5 1 (by8 (accE kk ss f bb j)), .blk p104 [.int .i64 (kk i), .int .i64 (ss i), .int .u64 ((f i : Nat) : Int), .slice (BB i) ((bb i).length) (bc i)] 33] w222 := Hp.callL (A := [.blk p64 [.slice A3 ((putS (f i) (ss i) ++ T).length) c3, .bool false] 54, .row A65 m c66 5 1 (by8 (accE kk ss f bb j))]) (B := [.blk p104 [.int .i64 (kk i), .int .i64 (ss i), .int .u64 ((f i : Nat) : Int), .slice (BB i) ((bb i).length) (bc i)] 33]) H212 H224
            have hS225 : Hp w [] [.row A65 m c66 5 1 (by8 (accE kk ss f bb j)), .blk p104 [.int .i64 (kk i), .int .i64 (ss i), .int .u64 ((f i : Nat) : Int), .slice (BB i) ((bb i).length) (bc i)] 33] w222 := H223.sub (List.Sublist.cons _ (List.Sublist.cons_cons _ (List.Sublist.cons_cons _ (List.Sublist.slnil))))
            refine ⟨_, rfl, hS225, [8, 122, 123, 124, 135, 139, 141, 143], [(8, pt p64 0), (122, .slice A n c0), (123, .int .i64 (n : Int)), (124, .int .i64 (i : Int)), (135, .bool true), (139, .int .u64 (((getB (putS (f i) (ss i))) : Nat) : Int)), (141, .int .u64 ((f i : Nat) : Int)), (143, .int .i64 (ss i))], by kernel_rfl, ?_⟩
            have hcA226 := putS_len (f i) (ss i)
            refine GP.call 12 (RPutS_calls (f i) (ss i) (by omega) (by omega) w222) (by kernel_rfl) (by kernel_rfl) (fun e_ w230 hR => ?_)
            obtain ⟨A226, c227, rfl, H229⟩ := hR
            have H228 : Hp w [] [.blk p64 [.slice A213 T.length c214, .bool false] 54, .row A65 m c66 5 1 (by8 (accE kk ss f bb j)), .blk p104 [.int .i64 (kk i), .int .i64 (ss i), .int .u64 ((f i : Nat) : Int), .slice (BB i) ((bb i).length) (bc i)] 33, .row A226 ((putS (f i) (ss i)).length) c227 5 1 (by8 (putS (f i) (ss i)))] w230 := H223.callNew H229
            have hS231 : Hp w [] [.row A65 m c66 5 1 (by8 (accE kk ss f bb j)), .blk p104 [.int .i64 (kk i), .int .i64 (ss i), .int .u64 ((f i : Nat) : Int), .slice (BB i) ((bb i).length) (bc i)] 33] w230 := H228.sub (List.Sublist.cons _ (List.Sublist.cons_cons _ (List.Sublist.cons_cons _ (List.Sublist.cons _ (List.Sublist.slnil)))))
            refine ⟨_, rfl, hS231, [8, 122, 123, 124, 135, 139, 144], [(8, pt p64 0), (122, .slice A n c0), (123, .int .i64 (n : Int)), (124, .int .i64 (i : Int)), (135, .bool true), (139, .int .u64 (((getB (putS (f i) (ss i))) : Nat) : Int)), (144, .slice A226 ((putS (f i) (ss i)).length) c227)], by kernel_rfl, ?_⟩
            refine GP.call 13 (RGet_calls (putS (f i) (ss i)) A226 ((putS (f i) (ss i)).length) c227 w230 (H228.rdRow 3 rfl) ((by first | rfl | (have := (H228.rowLe 3 rfl).2.1; rw [by8_length, Nat.mul_one] at this; omega))) (by omega)) (by kernel_rfl) (by kernel_rfl) (fun e_ w232 hR => ?_)
            obtain ⟨rfl, H234⟩ := hR
            have H233 : Hp w [] [.blk p64 [.slice A213 T.length c214, .bool false] 54, .row A65 m c66 5 1 (by8 (accE kk ss f bb j)), .blk p104 [.int .i64 (kk i), .int .i64 (ss i), .int .u64 ((f i : Nat) : Int), .slice (BB i) ((bb i).length) (bc i)] 33, .row A226 ((putS (f i) (ss i)).length) c227 5 1 (by8 (putS (f i) (ss i)))] w232 := H228.callNil H234
            have hS235 : Hp w [] [.row A65 m c66 5 1 (by8 (accE kk ss f bb j)), .blk p104 [.int .i64 (kk i), .int .i64 (ss i), .int .u64 ((f i : Nat) : Int), .slice (BB i) ((bb i).length) (bc i)] 33] w232 := H233.sub (List.Sublist.cons _ (List.Sublist.cons_cons _ (List.Sublist.cons_cons _ (List.Sublist.cons _ (List.Sublist.slnil)))))
            refine ⟨_, rfl, hS235, [8, 122, 123, 124, 135, 139, 145], [(8, pt p64 0), (122, .slice A n c0), (123, .int .i64 (n : Int)), (124, .int .i64 (i : Int)), (135, .bool true), (139, .int .u64 (((getB (putS (f i) (ss i))) : Nat) : Int)), (145, .int .u64 (((getB (putS (f i) (ss i))) : Nat) : Int))], by kernel_rfl, ?_⟩
            refine GP.run [14, 15] [8, 122, 123, 124, 147] [(8, pt p64 0), (122, .slice A n c0), (123, .int .i64 (n : Int)), (124, .int .i64 (i : Int)), (147, .bool ((((getB (putS (f i) (ss i))) : Nat) : Int) != (((getB (putS (f i) (ss i))) : Nat) : Int)))] [0, 1, 2, 3, 4, 5, 6, 8, 9, 10, 11, 7, 12, 13, 14, 15] (by kernel_rfl) rfl hS235 ?_
            refine GP.k (by kernel_rfl) hK200 (fun _ _ h => h) ?_
            have hb236 : ((((getB (putS (f i) (ss i))) : Nat) : Int) != (((getB (putS (f i) (ss i))) : Nat) : Int)) = false := bne_self_eq_false _
            rw [hb236]
            refine G.no rfl ?_
            refine G.skipK hK101 (fun _ _ h => h) ?_
            refine G.region ?_
            refine GL.run (j := 2) 2 [8, 122, 123, 124] [(8, pt p64 0), (122, .slice A n c0), (123, .int .i64 (n : Int)), (124, .int .i64 (IntKind.i64.wrap ((i : Int) + 1)))] (by kernel_rfl) rfl ?_
            have e237 : (IntKind.i64.wrap ((i : Int) + 1)) = ((i + 1 : Nat) : Int) := by rw [in_i64 (by omega)]; omega
            refine GL.eq (M' := [(8, pt p64 0), (122, .slice A n c0), (123, .int .i64 (n : Int)), (124, .int .i64 ((i + 1 : Nat) : Int))]) (by rw [e237]) ?_
            clear e237
            have H238 : Hp w [] [.blk p64 [.slice A213 T.length c214, .bool false] 54, .row A65 m c66 5 1 (by8 (accE kk ss f bb j))] w232 := H233.sub (List.Sublist.cons_cons _ (List.Sublist.cons_cons _ (List.Sublist.cons _ (List.Sublist.cons _ (List.Sublist.slnil)))))
            have H239 : Hp w [] [.blk p64 [.slice A213 ((rsE kk ss f bb (i + 1) (n - (i + 1))).length) c214, .bool false] 54, .row A65 m c66 5 1 (by8 (accE kk ss f bb j))] w232 := by rw [← hT]; exact H238
            refine GL.fit (ts := [8, 122, 123, 124]) (M' := [(8, pt p64 0), (122, .slice A n c0), (123, .int .i64 (n : Int)), (124, .int .i64 ((i + 1 : Nat) : Int))]) (by kernel_rfl) ?_
            refine GL.eq (M' := [(8, pt p64 0), (122, .slice A n c0), (123, .int .i64 (n : Int)), (124, .int .i64 (((i + 1) : Nat) : Int))]) (by rfl) ?_
            exact GL.again ⟨(i + 1), A213, c214⟩ [8, 122, 123, 124] rfl (by kernel_rfl) (by show n - (i + 1) < n - i; omega) ⟨⟨by omega, by rw [← hT]; exact hC217, by rw [← hT]; exact hL218⟩, H239⟩
    · skip
      have hb43f := of_decide_eq_true hb43
      have hbj := hfw.1 j (by omega)
      refine G.yes rfl ?_
      refine G.skipK hK42 (fun _ _ h => h) ?_
      refine G.seqK fun K240 hK241 => ?_
      refine G.block ?_
      refine G.seqK fun K242 hK243 => ?_
      refine G.region ?_
      refine GL.sem (j := 1) (run_idxRdN (P := Try.prog) (k := .i64) (t := 23) (sz := 4) (A := A) (len := n) (cap := c0) (j := j) (by kernel_rfl) rfl (hr.hp H38) hx (by decide) (by omega)) [0, 3, 4, 5, 21, 22, 23, 25] [(0, .slice A n c0), (3, pt p23 0), (4, .pointer none), (5, .string (strOf (accE kk ss f bb j))), (21, .slice A n c0), (22, .int .i64 (n : Int)), (23, .int .i64 (j : Int)), (25, .pointer (Option.map (fun x => Addr.add x (j * 4)) A))] (by kernel_rfl) (by kernel_rfl) rfl ?_
      refine GL.sem (j := 2) (run_ldRdA (P := Try.prog) (ty := 33) (A := A) (o := (j * 4)) (m := 4) (sub := [.int .i64 (kk j), .int .i64 (ss j), .int .u64 ((f j : Nat) : Int), .slice (BB j) ((bb j).length) (bc j)]) (by kernel_rfl) (hr.hp H38) (hel j (by omega)) rfl (by decide)) [0, 3, 4, 5, 21, 22, 23, 26] [(0, .slice A n c0), (3, pt p23 0), (4, .pointer none), (5, .string (strOf (accE kk ss f bb j))), (21, .slice A n c0), (22, .int .i64 (n : Int)), (23, .int .i64 (j : Int)), (26, .agg #[.int .i64 (kk j), .int .i64 (ss j), .int .u64 ((f j : Nat) : Int), .slice (BB j) ((bb j).length) (bc j)])] (by kernel_rfl) (by kernel_rfl) rfl ?_
      obtain ⟨p244, w245, r246, H247⟩ := H38.alloc (P := Try.prog) 33 [.int .i64 0, .int .i64 0, .int .u64 0, .slice none 0 0] (by kernel_rfl)
      have H247 : Hp w [] [.blk p23 [.slice A2 m c2] 44, .row A2 m c2 5 1 (by8 (accE kk ss f bb j)), .blk p244 [.int .i64 0, .int .i64 0, .int .u64 0, .slice none 0 0] 33] w245 := H247
      refine GL.sem (j := 3) (r246) [0, 3, 4, 5, 7, 21, 22, 23, 26] [(0, .slice A n c0), (3, pt p23 0), (4, .pointer none), (5, .string (strOf (accE kk ss f bb j))), (7, pt p244 0), (21, .slice A n c0), (22, .int .i64 (n : Int)), (23, .int .i64 (j : Int)), (26, .agg #[.int .i64 (kk j), .int .i64 (ss j), .int .u64 ((f j : Nat) : Int), .slice (BB j) ((bb j).length) (bc j)])] (by kernel_rfl) (by kernel_rfl) rfl ?_
      obtain ⟨w248, r249, H250⟩ := H247.stA (P := Try.prog) (o := 0) (vs := [.int .i64 (kk j), .int .i64 (ss j), .int .u64 ((f j : Nat) : Int), .slice (BB j) ((bb j).length) (bc j)]) (ty := 33) (m := 4) 2 rfl (by kernel_rfl) rfl (by simp) (by simp [Value.oneCell'])
      have H250 : Hp w [] [.blk p23 [.slice A2 m c2] 44, .row A2 m c2 5 1 (by8 (accE kk ss f bb j)), .blk p244 [.int .i64 (kk j), .int .i64 (ss j), .int .u64 ((f j : Nat) : Int), .slice (BB j) ((bb j).length) (bc j)] 33] w248 := H250
      refine GL.semU (j := 4) r249 [0, 3, 4, 5, 7, 21, 22, 23] [(0, .slice A n c0), (3, pt p23 0), (4, .pointer none), (5, .string (strOf (accE kk ss f bb j))), (7, pt p244 0), (21, .slice A n c0), (22, .int .i64 (n : Int)), (23, .int .i64 (j : Int))] (by kernel_rfl) rfl rfl rfl ?_
      refine GL.k rfl hK243 (fun _ _ h => h) ?_
      refine G.seqK fun K251 hK252 => ?_
      refine G.region ?_
      refine GL.run (j := 1) 1 [0, 3, 4, 5, 7, 21, 22, 23, 27] [(0, .slice A n c0), (3, pt p23 0), (4, .pointer none), (5, .string (strOf (accE kk ss f bb j))), (7, pt p244 0), (21, .slice A n c0), (22, .int .i64 (n : Int)), (23, .int .i64 (j : Int)), (27, pt p244 0)] (by kernel_rfl) rfl ?_
      refine GL.sem (j := 2) (H250.ld (o := 0) (ty := 3) (v := .int .i64 (kk j)) 2 rfl (by kernel_rfl) rfl) [0, 3, 4, 5, 7, 21, 22, 23, 28] [(0, .slice A n c0), (3, pt p23 0), (4, .pointer none), (5, .string (strOf (accE kk ss f bb j))), (7, pt p244 0), (21, .slice A n c0), (22, .int .i64 (n : Int)), (23, .int .i64 (j : Int)), (28, .int .i64 (kk j))] (by kernel_rfl) (by kernel_rfl) rfl ?_
      refine GL.k rfl hK252 (fun _ _ h => h) ?_
      refine G.block ?_
      refine G.seqK fun K253 hK254 => ?_
      refine G.region ?_
      refine GL.run (j := 2) 2 [0, 3, 4, 5, 7, 21, 22, 23, 28, 29] [(0, .slice A n c0), (3, pt p23 0), (4, .pointer none), (5, .string (strOf (accE kk ss f bb j))), (7, pt p244 0), (21, .slice A n c0), (22, .int .i64 (n : Int)), (23, .int .i64 (j : Int)), (28, .int .i64 (kk j)), (29, .bool ((kk j) == 0))] (by kernel_rfl) rfl ?_
      refine GL.k rfl hK254 (fun _ _ h => h) ?_
      cases hb255 : ((kk j) == 0)
      · skip
        have hb255f := ne_of_beq_false hb255
        refine G.no rfl ?_
        refine G.seqK fun K256 hK257 => ?_
        refine G.region ?_
        refine GL.run (j := 2) 2 [0, 3, 4, 5, 7, 21, 22, 23, 28, 54] [(0, .slice A n c0), (3, pt p23 0), (4, .pointer none), (5, .string (strOf (accE kk ss f bb j))), (7, pt p244 0), (21, .slice A n c0), (22, .int .i64 (n : Int)), (23, .int .i64 (j : Int)), (28, .int .i64 (kk j)), (54, .bool ((kk j) == 1))] (by kernel_rfl) rfl ?_
        refine GL.k rfl hK257 (fun _ _ h => h) ?_
        cases hb258 : ((kk j) == 1)
        · skip
          have hb258f := ne_of_beq_false hb258
          refine G.no rfl ?_
          refine G.seqK fun K259 hK260 => ?_
          refine G.region ?_
          refine GL.run (j := 2) 2 [0, 3, 4, 5, 7, 21, 22, 23, 28, 74] [(0, .slice A n c0), (3, pt p23 0), (4, .pointer none), (5, .string (strOf (accE kk ss f bb j))), (7, pt p244 0), (21, .slice A n c0), (22, .int .i64 (n : Int)), (23, .int .i64 (j : Int)), (28, .int .i64 (kk j)), (74, .bool ((kk j) == 2))] (by kernel_rfl) rfl ?_
          refine GL.k rfl hK260 (fun _ _ h => h) ?_
          cases hb261 : ((kk j) == 2)
          · skip
            have hb261f := ne_of_beq_false hb261
            refine G.no rfl ?_
            refine G.seqK fun K262 hK263 => ?_
            refine G.region ?_
            refine GL.run (j := 2) 2 [0, 3, 4, 5, 7, 21, 22, 23, 89] [(0, .slice A n c0), (3, pt p23 0), (4, .pointer none), (5, .string (strOf (accE kk ss f bb j))), (7, pt p244 0), (21, .slice A n c0), (22, .int .i64 (n : Int)), (23, .int .i64 (j : Int)), (89, .bool ((kk j) == 3))] (by kernel_rfl) rfl ?_
            refine GL.k rfl hK263 (fun _ _ h => h) ?_
            cases hb264 : ((kk j) == 3)
            · skip
              have hb264f := ne_of_beq_false hb264
              refine G.no rfl ?_
              refine G.skipK hK241 (fun _ _ h => h) ?_
              refine G.region ?_
              refine GL.run (j := 2) 2 [0, 3, 4, 5, 21, 22, 23] [(0, .slice A n c0), (3, pt p23 0), (4, .pointer none), (5, .string (strOf (accE kk ss f bb j))), (21, .slice A n c0), (22, .int .i64 (n : Int)), (23, .int .i64 (IntKind.i64.wrap ((j : Int) + 1)))] (by kernel_rfl) rfl ?_
              have e265 : (IntKind.i64.wrap ((j : Int) + 1)) = ((j + 1 : Nat) : Int) := by rw [in_i64 (by omega)]; omega
              refine GL.eq (M' := [(0, .slice A n c0), (3, pt p23 0), (4, .pointer none), (5, .string (strOf (accE kk ss f bb j))), (21, .slice A n c0), (22, .int .i64 (n : Int)), (23, .int .i64 ((j + 1 : Nat) : Int))]) (by rw [e265]) ?_
              clear e265
              have H266 : Hp w [] [.blk p23 [.slice A2 m c2] 44, .row A2 m c2 5 1 (by8 (accE kk ss f bb j))] w248 := H250.sub (List.Sublist.cons_cons _ (List.Sublist.cons_cons _ (List.Sublist.cons _ (List.Sublist.slnil))))
              have eb : (accE kk ss f bb (j + 1)) = (accE kk ss f bb j) := by rw [accE]; unfold itE; rw [if_neg (by omega)]; rw [if_neg (by omega)]; rw [if_neg (by omega)]; rw [if_neg (by omega)]; rw [List.append_nil]
              have hm2 := (H266.rowLe 1 rfl).2.1
              rw [by8_length, Nat.mul_one, ← eb] at hm2
              have H267 : Hp w [] [.blk p23 [.slice A2 m c2] 44, .row A2 m c2 5 1 (by8 (accE kk ss f bb (j + 1)))] w248 := by rw [eb]; exact H266
              refine GL.fit (ts := [0, 3, 4, 5, 21, 22, 23]) (M' := [(0, .slice A n c0), (3, pt p23 0), (4, .pointer none), (5, .string (strOf (accE kk ss f bb j))), (21, .slice A n c0), (22, .int .i64 (n : Int)), (23, .int .i64 ((j + 1 : Nat) : Int))]) (by kernel_rfl) ?_
              refine GL.eq (M' := [(0, .slice A n c0), (3, pt p23 0), (4, .pointer none), (5, .string (strOf (accE kk ss f bb (j + 1)))), (21, .slice A n c0), (22, .int .i64 (n : Int)), (23, .int .i64 (((j + 1) : Nat) : Int))]) (by first | (rw [eb]; done) | rw [eb, putS_not (by unfold rightS; omega), List.append_nil]) ?_
              exact GL.again ⟨(j + 1), A2, c2, m⟩ [0, 3, 4, 5, 21, 22, 23] rfl (by kernel_rfl) (by show n - (j + 1) < n - j; omega) ⟨⟨by omega, hm2.symm⟩, H267⟩
            · skip
              have hb264f := eq_of_beq hb264
              refine G.yes rfl ?_
              refine G.seqK fun K268 hK269 => ?_
              refine G.region ?_
              refine GL.run (j := 2) 2 [0, 3, 4, 5, 7, 21, 22, 23, 91, 92] [(0, .slice A n c0), (3, pt p23 0), (4, .pointer none), (5, .string (strOf (accE kk ss f bb j))), (7, pt p244 0), (21, .slice A n c0), (22, .int .i64 (n : Int)), (23, .int .i64 (j : Int)), (91, pt p23 0), (92, pt p244 3)] (by kernel_rfl) rfl ?_
              refine GL.sem (j := 3) (H250.ld (o := 3) (ty := 22) (v := .slice (BB j) ((bb j).length) (bc j)) 2 rfl (by kernel_rfl) rfl) [0, 3, 4, 5, 7, 21, 22, 23, 91, 93] [(0, .slice A n c0), (3, pt p23 0), (4, .pointer none), (5, .string (strOf (accE kk ss f bb j))), (7, pt p244 0), (21, .slice A n c0), (22, .int .i64 (n : Int)), (23, .int .i64 (j : Int)), (91, pt p23 0), (93, .slice (BB j) ((bb j).length) (bc j))] (by kernel_rfl) (by kernel_rfl) rfl ?_
              have hcA270 := cntSz_le ((bb j).length)
              refine GL.call (j := 4) (WCounted_calls (ids [.blk p23 [.slice A2 m c2] 44, .row A2 m c2 5 1 (by8 (accE kk ss f bb j))]) p23 A2 m c2 (accE kk ss f bb j) (BB j) ((bb j).length) (bc j) (bb j) w248 (Hp.startL (A := [.blk p23 [.slice A2 m c2] 44, .row A2 m c2 5 1 (by8 (accE kk ss f bb j))]) (B := [.blk p244 [.int .i64 (kk j), .int .i64 (ss j), .int .u64 ((f j : Nat) : Int), .slice (BB j) ((bb j).length) (bc j)] 33]) H250) (by omega) (RdO.mid (A' := [.blk p23 [.slice A2 m c2] 44, .row A2 m c2 5 1 (by8 (accE kk ss f bb j))]) (B' := [.blk p244 [.int .i64 (kk j), .int .i64 (ss j), .int .u64 ((f j : Nat) : Int), .slice (BB j) ((bb j).length) (bc j)] 33]) (RdO.of (hB j).1) H250) (rfl) (by omega)) (by kernel_rfl) rfl (fun e_ w272 hR => ?_)
              obtain ⟨A270, c271, rfl, H274⟩ := hR
              have H273 : Hp w [] [.blk p23 [.slice A270 (m + (cntSz ((bb j).length) + (bb j).length)) c271] 44, .row A270 (m + (cntSz ((bb j).length) + (bb j).length)) c271 5 1 (by8 ((accE kk ss f bb j) ++ (cnt ((bb j).length) ++ (bb j)))), .blk p244 [.int .i64 (kk j), .int .i64 (ss j), .int .u64 ((f j : Nat) : Int), .slice (BB j) ((bb j).length) (bc j)] 33] w272 := Hp.callL (A := [.blk p23 [.slice A2 m c2] 44, .row A2 m c2 5 1 (by8 (accE kk ss f bb j))]) (B := [.blk p244 [.int .i64 (kk j), .int .i64 (ss j), .int .u64 ((f j : Nat) : Int), .slice (BB j) ((bb j).length) (bc j)] 33]) H250 H274
              refine ⟨_, rfl, [0, 3, 4, 5, 7, 21, 22, 23], [(0, .slice A n c0), (3, pt p23 0), (4, .pointer none), (5, .string (strOf (accE kk ss f bb j))), (7, pt p244 0), (21, .slice A n c0), (22, .int .i64 (n : Int)), (23, .int .i64 (j : Int))], by kernel_rfl, ?_⟩
              refine GL.k rfl hK269 (fun _ _ h => h) ?_
              refine G.heldP (Hp w [] [.blk p23 [.slice A270 (m + (cntSz ((bb j).length) + (bb j).length)) c271] 44, .row A270 (m + (cntSz ((bb j).length) + (bb j).length)) c271 5 1 (by8 ((accE kk ss f bb j) ++ (cnt ((bb j).length) ++ (bb j)))), .blk p244 [.int .i64 (kk j), .int .i64 (ss j), .int .u64 ((f j : Nat) : Int), .slice (BB j) ((bb j).length) (bc j)] 33]) (by kernel_rfl) (by kernel_rfl) (fun c_ a_ d_ v_ w_ h_ => hPan c_ a_ d_ v_ w_ h_) ?_
              have H275 := H273.drew
              generalize ({ w272 with drawn := w272.drawn + 1 } : World) = w276 at H275 ⊢
              have hS277 : Hp w [] [.blk p23 [.slice A270 (m + (cntSz ((bb j).length) + (bb j).length)) c271] 44, .row A270 (m + (cntSz ((bb j).length) + (bb j).length)) c271 5 1 (by8 ((accE kk ss f bb j) ++ (cnt ((bb j).length) ++ (bb j)))), .blk p244 [.int .i64 (kk j), .int .i64 (ss j), .int .u64 ((f j : Nat) : Int), .slice (BB j) ((bb j).length) (bc j)] 33] w276 := H275.sub (List.Sublist.cons_cons _ (List.Sublist.cons_cons _ (List.Sublist.cons_cons _ (List.Sublist.slnil))))
              refine GP.run [0, 1] [0, 3, 4, 5, 7, 21, 22, 23, 95, 96] [(0, .slice A n c0), (3, pt p23 0), (4, .pointer none), (5, .string (strOf (accE kk ss f bb j))), (7, pt p244 0), (21, .slice A n c0), (22, .int .i64 (n : Int)), (23, .int .i64 (j : Int)), (95, .string (strOf (accE kk ss f bb j))), (96, pt p244 3)] [0, 1] (by kernel_rfl) rfl hS277 ?_
              refine GP.sem 2 (fun w_ H_ => H_.ld (o := 3) (ty := 22) (v := .slice (BB j) ((bb j).length) (bc j)) 2 rfl (by kernel_rfl) rfl) [0, 3, 4, 5, 7, 21, 22, 23, 95, 97] [(0, .slice A n c0), (3, pt p23 0), (4, .pointer none), (5, .string (strOf (accE kk ss f bb j))), (7, pt p244 0), (21, .slice A n c0), (22, .int .i64 (n : Int)), (23, .int .i64 (j : Int)), (95, .string (strOf (accE kk ss f bb j))), (97, .slice (BB j) ((bb j).length) (bc j))] (by kernel_rfl) (by kernel_rfl) (by kernel_rfl) hS277 ?_
              refine GP.run [3, 4, 7] [0, 3, 4, 5, 21, 22, 23, 95, 99, 102] [(0, .slice A n c0), (3, pt p23 0), (4, .pointer none), (5, .string (strOf (accE kk ss f bb j))), (21, .slice A n c0), (22, .int .i64 (n : Int)), (23, .int .i64 (j : Int)), (95, .string (strOf (accE kk ss f bb j))), (99, .int .u64 (IntKind.u64.wrap (((bb j).length : Nat) : Int))), (102, pt p244 3)] [0, 1, 2, 3, 4, 7] (by kernel_rfl) rfl hS277 ?_
              have e278 : (IntKind.u64.wrap (((bb j).length : Nat) : Int)) = (((bb j).length : Nat) : Int) := in_u64 (by omega)
              refine GP.eq (M' := [(0, .slice A n c0), (3, pt p23 0), (4, .pointer none), (5, .string (strOf (accE kk ss f bb j))), (21, .slice A n c0), (22, .int .i64 (n : Int)), (23, .int .i64 (j : Int)), (95, .string (strOf (accE kk ss f bb j))), (99, .int .u64 (((bb j).length : Nat) : Int)), (102, pt p244 3)]) (by rw [e278]) ?_
              clear e278
              refine GP.sem 8 (fun w_ H_ => H_.ld (o := 3) (ty := 22) (v := .slice (BB j) ((bb j).length) (bc j)) 2 rfl (by kernel_rfl) rfl) [0, 3, 4, 5, 21, 22, 23, 95, 99, 103] [(0, .slice A n c0), (3, pt p23 0), (4, .pointer none), (5, .string (strOf (accE kk ss f bb j))), (21, .slice A n c0), (22, .int .i64 (n : Int)), (23, .int .i64 (j : Int)), (95, .string (strOf (accE kk ss f bb j))), (99, .int .u64 (((bb j).length : Nat) : Int)), (103, .slice (BB j) ((bb j).length) (bc j))] (by kernel_rfl) (by kernel_rfl) (by kernel_rfl) hS277 ?_
              refine GP.sem 9 (fun w_ H_ => run_toStr (P := Try.prog) (src := 22) (dst := 9) (A := (BB j)) (bs := (bb j)) (n := (bb j).length) (c := (bc j)) (by kernel_rfl) (by kernel_rfl) ((hB j).1.hp H_) (rfl)) [0, 3, 4, 5, 21, 22, 23, 95, 99, 104] [(0, .slice A n c0), (3, pt p23 0), (4, .pointer none), (5, .string (strOf (accE kk ss f bb j))), (21, .slice A n c0), (22, .int .i64 (n : Int)), (23, .int .i64 (j : Int)), (95, .string (strOf (accE kk ss f bb j))), (99, .int .u64 (((bb j).length : Nat) : Int)), (104, .string (strOf (bb j)))] (by kernel_rfl) (by kernel_rfl) (by kernel_rfl) hS277 ?_
              have hcA279 := cntSz_le ((bb j).length)
              refine GP.call 5 (RCnt_calls ((bb j).length) (by omega) w276) (by kernel_rfl) (by kernel_rfl) (fun e_ w283 hR => ?_)
              obtain ⟨A279, c280, rfl, H282⟩ := hR
              have H281 : Hp w [] [.blk p23 [.slice A270 (m + (cntSz ((bb j).length) + (bb j).length)) c271] 44, .row A270 (m + (cntSz ((bb j).length) + (bb j).length)) c271 5 1 (by8 ((accE kk ss f bb j) ++ (cnt ((bb j).length) ++ (bb j)))), .blk p244 [.int .i64 (kk j), .int .i64 (ss j), .int .u64 ((f j : Nat) : Int), .slice (BB j) ((bb j).length) (bc j)] 33, .row A279 (cntSz ((bb j).length)) c280 5 1 (by8 (cnt ((bb j).length)))] w283 := H275.callNew H282
              have hS284 : Hp w [] [.blk p23 [.slice A270 (m + (cntSz ((bb j).length) + (bb j).length)) c271] 44, .row A270 (m + (cntSz ((bb j).length) + (bb j).length)) c271 5 1 (by8 ((accE kk ss f bb j) ++ (cnt ((bb j).length) ++ (bb j)))), .blk p244 [.int .i64 (kk j), .int .i64 (ss j), .int .u64 ((f j : Nat) : Int), .slice (BB j) ((bb j).length) (bc j)] 33] w283 := H281.sub (List.Sublist.cons_cons _ (List.Sublist.cons_cons _ (List.Sublist.cons_cons _ (List.Sublist.cons _ (List.Sublist.slnil)))))
              refine ⟨_, rfl, hS284, [0, 3, 4, 5, 21, 22, 23, 95, 100, 104], [(0, .slice A n c0), (3, pt p23 0), (4, .pointer none), (5, .string (strOf (accE kk ss f bb j))), (21, .slice A n c0), (22, .int .i64 (n : Int)), (23, .int .i64 (j : Int)), (95, .string (strOf (accE kk ss f bb j))), (100, .slice A279 (cntSz ((bb j).length)) c280), (104, .string (strOf (bb j)))], by kernel_rfl, ?_⟩
              refine GP.weak (Hp w [] [.blk p23 [.slice A270 (m + (cntSz ((bb j).length) + (bb j).length)) c271] 44, .row A270 (m + (cntSz ((bb j).length) + (bb j).length)) c271 5 1 (by8 ((accE kk ss f bb j) ++ (cnt ((bb j).length) ++ (bb j)))), .blk p244 [.int .i64 (kk j), .int .i64 (ss j), .int .u64 ((f j : Nat) : Int), .slice (BB j) ((bb j).length) (bc j)] 33, .row A279 (cntSz ((bb j).length)) c280 5 1 (by8 (cnt ((bb j).length)))]) (fun w_ h_ => h_.sub (List.Sublist.cons_cons _ (List.Sublist.cons_cons _ (List.Sublist.cons_cons _ (List.Sublist.cons _ (List.Sublist.slnil)))))) ?_
              have hS285 : Hp w [] [.blk p23 [.slice A270 (m + (cntSz ((bb j).length) + (bb j).length)) c271] 44, .row A270 (m + (cntSz ((bb j).length) + (bb j).length)) c271 5 1 (by8 ((accE kk ss f bb j) ++ (cnt ((bb j).length) ++ (bb j)))), .blk p244 [.int .i64 (kk j), .int .i64 (ss j), .int .u64 ((f j : Nat) : Int), .slice (BB j) ((bb j).length) (bc j)] 33, .row A279 (cntSz ((bb j).length)) c280 5 1 (by8 (cnt ((bb j).length)))] w283 := H281.sub (List.Sublist.cons_cons _ (List.Sublist.cons_cons _ (List.Sublist.cons_cons _ (List.Sublist.cons_cons _ (List.Sublist.slnil)))))
              refine GP.sem 6 (fun w_ H_ => run_toStr (P := Try.prog) (src := 22) (dst := 9) (A := A279) (bs := (cnt ((bb j).length))) (n := (cntSz ((bb j).length))) (c := c280) (by kernel_rfl) (by kernel_rfl) (H_.rdRow 3 rfl) (by first | rfl | omega | exact (cnt_length _).symm | (simp only [List.length_cons, List.length_nil, List.length_drop, List.length_take, List.length_append] <;> omega))) [0, 3, 4, 5, 21, 22, 23, 95, 101, 104] [(0, .slice A n c0), (3, pt p23 0), (4, .pointer none), (5, .string (strOf (accE kk ss f bb j))), (21, .slice A n c0), (22, .int .i64 (n : Int)), (23, .int .i64 (j : Int)), (95, .string (strOf (accE kk ss f bb j))), (101, .string (strOf (cnt ((bb j).length)))), (104, .string (strOf (bb j)))] (by kernel_rfl) (by kernel_rfl) (by kernel_rfl) hS285 ?_
              refine GP.sem 10 (fun w_ H_ => run_str_add (P := Try.prog) (t := 9) (cnt ((bb j).length)) (bb j) (by first | omega | (simp only [List.length_cons, List.length_nil, List.length_append, putB_length, cnt_length] <;> omega)) _) [0, 3, 4, 5, 21, 22, 23, 95, 105] [(0, .slice A n c0), (3, pt p23 0), (4, .pointer none), (5, .string (strOf (accE kk ss f bb j))), (21, .slice A n c0), (22, .int .i64 (n : Int)), (23, .int .i64 (j : Int)), (95, .string (strOf (accE kk ss f bb j))), (105, .string (strOf ((cnt ((bb j).length)) ++ (bb j))))] (by kernel_rfl) (by kernel_rfl) (by kernel_rfl) hS285 ?_
              refine GP.sem 11 (fun w_ H_ => run_str_add (P := Try.prog) (t := 9) (accE kk ss f bb j) ((cnt ((bb j).length)) ++ (bb j)) (by first | omega | (simp only [List.length_cons, List.length_nil, List.length_append, putB_length, cnt_length] <;> omega)) _) [0, 3, 4, 5, 21, 22, 23, 106] [(0, .slice A n c0), (3, pt p23 0), (4, .pointer none), (5, .string (strOf (accE kk ss f bb j))), (21, .slice A n c0), (22, .int .i64 (n : Int)), (23, .int .i64 (j : Int)), (106, .string (strOf ((accE kk ss f bb j) ++ ((cnt ((bb j).length)) ++ (bb j)))))] (by kernel_rfl) (by kernel_rfl) (by kernel_rfl) hS285 ?_
              refine GP.run [12] [0, 3, 4, 5, 21, 22, 23] [(0, .slice A n c0), (3, pt p23 0), (4, .pointer none), (5, .string (strOf ((accE kk ss f bb j) ++ ((cnt ((bb j).length)) ++ (bb j))))), (21, .slice A n c0), (22, .int .i64 (n : Int)), (23, .int .i64 (j : Int))] [0, 1, 2, 3, 4, 7, 8, 9, 5, 6, 10, 11, 12] (by kernel_rfl) rfl hS285 ?_
              refine GP.k (by kernel_rfl) hK241 (fun _ _ h => h) ?_
              refine G.region ?_
              refine GL.run (j := 2) 2 [0, 3, 4, 5, 21, 22, 23] [(0, .slice A n c0), (3, pt p23 0), (4, .pointer none), (5, .string (strOf ((accE kk ss f bb j) ++ ((cnt ((bb j).length)) ++ (bb j))))), (21, .slice A n c0), (22, .int .i64 (n : Int)), (23, .int .i64 (IntKind.i64.wrap ((j : Int) + 1)))] (by kernel_rfl) rfl ?_
              have e286 : (IntKind.i64.wrap ((j : Int) + 1)) = ((j + 1 : Nat) : Int) := by rw [in_i64 (by omega)]; omega
              refine GL.eq (M' := [(0, .slice A n c0), (3, pt p23 0), (4, .pointer none), (5, .string (strOf ((accE kk ss f bb j) ++ ((cnt ((bb j).length)) ++ (bb j))))), (21, .slice A n c0), (22, .int .i64 (n : Int)), (23, .int .i64 ((j + 1 : Nat) : Int))]) (by rw [e286]) ?_
              clear e286
              have H287 : Hp w [] [.blk p23 [.slice A270 (m + (cntSz ((bb j).length) + (bb j).length)) c271] 44, .row A270 (m + (cntSz ((bb j).length) + (bb j).length)) c271 5 1 (by8 ((accE kk ss f bb j) ++ (cnt ((bb j).length) ++ (bb j))))] w283 := H281.sub (List.Sublist.cons_cons _ (List.Sublist.cons_cons _ (List.Sublist.cons _ (List.Sublist.cons _ (List.Sublist.slnil)))))
              have eb : (accE kk ss f bb (j + 1)) = ((accE kk ss f bb j) ++ (cnt ((bb j).length) ++ (bb j))) := by rw [accE]; unfold itE; rw [if_neg (by omega)]; rw [if_neg (by omega)]; rw [if_neg (by omega)]; rw [if_pos (by omega)]
              have hm2 := (H287.rowLe 1 rfl).2.1
              rw [by8_length, Nat.mul_one, ← eb] at hm2
              have H288 : Hp w [] [.blk p23 [.slice A270 (m + (cntSz ((bb j).length) + (bb j).length)) c271] 44, .row A270 (m + (cntSz ((bb j).length) + (bb j).length)) c271 5 1 (by8 (accE kk ss f bb (j + 1)))] w283 := by rw [eb]; exact H287
              refine GL.fit (ts := [0, 3, 4, 5, 21, 22, 23]) (M' := [(0, .slice A n c0), (3, pt p23 0), (4, .pointer none), (5, .string (strOf ((accE kk ss f bb j) ++ ((cnt ((bb j).length)) ++ (bb j))))), (21, .slice A n c0), (22, .int .i64 (n : Int)), (23, .int .i64 ((j + 1 : Nat) : Int))]) (by kernel_rfl) ?_
              refine GL.eq (M' := [(0, .slice A n c0), (3, pt p23 0), (4, .pointer none), (5, .string (strOf (accE kk ss f bb (j + 1)))), (21, .slice A n c0), (22, .int .i64 (n : Int)), (23, .int .i64 (((j + 1) : Nat) : Int))]) (by first | (rw [eb]; done) | rw [eb, putS_not (by unfold rightS; omega), List.append_nil]) ?_
              exact GL.again ⟨(j + 1), A270, c271, (m + (cntSz ((bb j).length) + (bb j).length))⟩ [0, 3, 4, 5, 21, 22, 23] rfl (by kernel_rfl) (by show n - (j + 1) < n - j; omega) ⟨⟨by omega, hm2.symm⟩, H288⟩
          · skip
            have hb261f := eq_of_beq hb261
            refine G.yes rfl ?_
            refine G.seqK fun K289 hK290 => ?_
            refine G.region ?_
            refine GL.run (j := 2) 2 [0, 3, 4, 5, 7, 21, 22, 23, 76, 77] [(0, .slice A n c0), (3, pt p23 0), (4, .pointer none), (5, .string (strOf (accE kk ss f bb j))), (7, pt p244 0), (21, .slice A n c0), (22, .int .i64 (n : Int)), (23, .int .i64 (j : Int)), (76, pt p23 0), (77, pt p244 3)] (by kernel_rfl) rfl ?_
            refine GL.sem (j := 3) (H250.ld (o := 3) (ty := 22) (v := .slice (BB j) ((bb j).length) (bc j)) 2 rfl (by kernel_rfl) rfl) [0, 3, 4, 5, 7, 21, 22, 23, 76, 78] [(0, .slice A n c0), (3, pt p23 0), (4, .pointer none), (5, .string (strOf (accE kk ss f bb j))), (7, pt p244 0), (21, .slice A n c0), (22, .int .i64 (n : Int)), (23, .int .i64 (j : Int)), (76, pt p23 0), (78, .slice (BB j) ((bb j).length) (bc j))] (by kernel_rfl) (by kernel_rfl) rfl ?_
            refine GL.call (j := 4) (WRaw_calls (ids [.blk p23 [.slice A2 m c2] 44, .row A2 m c2 5 1 (by8 (accE kk ss f bb j))]) p23 A2 m c2 (accE kk ss f bb j) (BB j) ((bb j).length) (bc j) (bb j) w248 (Hp.startL (A := [.blk p23 [.slice A2 m c2] 44, .row A2 m c2 5 1 (by8 (accE kk ss f bb j))]) (B := [.blk p244 [.int .i64 (kk j), .int .i64 (ss j), .int .u64 ((f j : Nat) : Int), .slice (BB j) ((bb j).length) (bc j)] 33]) H250) (by omega) (RdO.mid (A' := [.blk p23 [.slice A2 m c2] 44, .row A2 m c2 5 1 (by8 (accE kk ss f bb j))]) (B' := [.blk p244 [.int .i64 (kk j), .int .i64 (ss j), .int .u64 ((f j : Nat) : Int), .slice (BB j) ((bb j).length) (bc j)] 33]) (RdO.of (hB j).1) H250) (rfl) (by omega)) (by kernel_rfl) rfl (fun e_ w293 hR => ?_)
            obtain ⟨A291, c292, rfl, H295⟩ := hR
            have H294 : Hp w [] [.blk p23 [.slice A291 (m + (bb j).length) c292] 44, .row A291 (m + (bb j).length) c292 5 1 (by8 ((accE kk ss f bb j) ++ (bb j))), .blk p244 [.int .i64 (kk j), .int .i64 (ss j), .int .u64 ((f j : Nat) : Int), .slice (BB j) ((bb j).length) (bc j)] 33] w293 := Hp.callL (A := [.blk p23 [.slice A2 m c2] 44, .row A2 m c2 5 1 (by8 (accE kk ss f bb j))]) (B := [.blk p244 [.int .i64 (kk j), .int .i64 (ss j), .int .u64 ((f j : Nat) : Int), .slice (BB j) ((bb j).length) (bc j)] 33]) H250 H295
            refine ⟨_, rfl, [0, 3, 4, 5, 7, 21, 22, 23], [(0, .slice A n c0), (3, pt p23 0), (4, .pointer none), (5, .string (strOf (accE kk ss f bb j))), (7, pt p244 0), (21, .slice A n c0), (22, .int .i64 (n : Int)), (23, .int .i64 (j : Int))], by kernel_rfl, ?_⟩
            refine GL.k rfl hK290 (fun _ _ h => h) ?_
            refine G.seqK fun K296 hK297 => ?_
            refine G.region ?_
            refine GL.run (j := 2) 2 [0, 3, 4, 5, 7, 21, 22, 23, 80, 81] [(0, .slice A n c0), (3, pt p23 0), (4, .pointer none), (5, .string (strOf (accE kk ss f bb j))), (7, pt p244 0), (21, .slice A n c0), (22, .int .i64 (n : Int)), (23, .int .i64 (j : Int)), (80, .pointer none), (81, pt p244 3)] (by kernel_rfl) rfl ?_
            refine GL.sem (j := 3) (H294.ld (o := 3) (ty := 22) (v := .slice (BB j) ((bb j).length) (bc j)) 2 rfl (by kernel_rfl) rfl) [0, 3, 4, 5, 7, 21, 22, 23, 80, 82] [(0, .slice A n c0), (3, pt p23 0), (4, .pointer none), (5, .string (strOf (accE kk ss f bb j))), (7, pt p244 0), (21, .slice A n c0), (22, .int .i64 (n : Int)), (23, .int .i64 (j : Int)), (80, .pointer none), (82, .slice (BB j) ((bb j).length) (bc j))] (by kernel_rfl) (by kernel_rfl) rfl ?_
            refine GL.call (j := 4) (WRaw_nil (BB j) ((bb j).length) (bc j) w293) (by kernel_rfl) rfl (fun e_ w298 hR => ?_)
            obtain ⟨rfl, H300⟩ := hR
            have H299 : Hp w [] [.blk p23 [.slice A291 (m + (bb j).length) c292] 44, .row A291 (m + (bb j).length) c292 5 1 (by8 ((accE kk ss f bb j) ++ (bb j))), .blk p244 [.int .i64 (kk j), .int .i64 (ss j), .int .u64 ((f j : Nat) : Int), .slice (BB j) ((bb j).length) (bc j)] 33] w298 := H294.callNil H300
            refine ⟨_, rfl, [0, 3, 4, 5, 7, 21, 22, 23], [(0, .slice A n c0), (3, pt p23 0), (4, .pointer none), (5, .string (strOf (accE kk ss f bb j))), (7, pt p244 0), (21, .slice A n c0), (22, .int .i64 (n : Int)), (23, .int .i64 (j : Int))], by kernel_rfl, ?_⟩
            refine GL.k rfl hK297 (fun _ _ h => h) ?_
            refine G.region ?_
            refine GL.run (j := 2) 2 [0, 3, 4, 21, 22, 23, 84, 85] [(0, .slice A n c0), (3, pt p23 0), (4, .pointer none), (21, .slice A n c0), (22, .int .i64 (n : Int)), (23, .int .i64 (j : Int)), (84, .string (strOf (accE kk ss f bb j))), (85, pt p244 3)] (by kernel_rfl) rfl ?_
            refine GL.sem (j := 3) (H299.ld (o := 3) (ty := 22) (v := .slice (BB j) ((bb j).length) (bc j)) 2 rfl (by kernel_rfl) rfl) [0, 3, 4, 21, 22, 23, 84, 86] [(0, .slice A n c0), (3, pt p23 0), (4, .pointer none), (21, .slice A n c0), (22, .int .i64 (n : Int)), (23, .int .i64 (j : Int)), (84, .string (strOf (accE kk ss f bb j))), (86, .slice (BB j) ((bb j).length) (bc j))] (by kernel_rfl) (by kernel_rfl) rfl ?_
            refine GL.sem (j := 4) (run_toStr (P := Try.prog) (src := 22) (dst := 9) (A := (BB j)) (bs := (bb j)) (n := (bb j).length) (c := (bc j)) (by kernel_rfl) (by kernel_rfl) ((hB j).1.hp H299) (rfl)) [0, 3, 4, 21, 22, 23, 84, 87] [(0, .slice A n c0), (3, pt p23 0), (4, .pointer none), (21, .slice A n c0), (22, .int .i64 (n : Int)), (23, .int .i64 (j : Int)), (84, .string (strOf (accE kk ss f bb j))), (87, .string (strOf (bb j)))] (by kernel_rfl) (by kernel_rfl) rfl ?_
            refine GL.sem (j := 5) (run_str_add (P := Try.prog) (t := 9) (accE kk ss f bb j) (bb j) (by first | omega | (simp only [List.length_cons, List.length_nil, List.length_append, putB_length, cnt_length] <;> omega)) _) [0, 3, 4, 21, 22, 23, 88] [(0, .slice A n c0), (3, pt p23 0), (4, .pointer none), (21, .slice A n c0), (22, .int .i64 (n : Int)), (23, .int .i64 (j : Int)), (88, .string (strOf ((accE kk ss f bb j) ++ (bb j))))] (by kernel_rfl) (by kernel_rfl) rfl ?_
            refine GL.run (j := 6) 1 [0, 3, 4, 5, 21, 22, 23] [(0, .slice A n c0), (3, pt p23 0), (4, .pointer none), (5, .string (strOf ((accE kk ss f bb j) ++ (bb j)))), (21, .slice A n c0), (22, .int .i64 (n : Int)), (23, .int .i64 (j : Int))] (by kernel_rfl) rfl ?_
            refine GL.k rfl hK241 (fun _ _ h => h) ?_
            refine G.region ?_
            refine GL.run (j := 2) 2 [0, 3, 4, 5, 21, 22, 23] [(0, .slice A n c0), (3, pt p23 0), (4, .pointer none), (5, .string (strOf ((accE kk ss f bb j) ++ (bb j)))), (21, .slice A n c0), (22, .int .i64 (n : Int)), (23, .int .i64 (IntKind.i64.wrap ((j : Int) + 1)))] (by kernel_rfl) rfl ?_
            have e301 : (IntKind.i64.wrap ((j : Int) + 1)) = ((j + 1 : Nat) : Int) := by rw [in_i64 (by omega)]; omega
            refine GL.eq (M' := [(0, .slice A n c0), (3, pt p23 0), (4, .pointer none), (5, .string (strOf ((accE kk ss f bb j) ++ (bb j)))), (21, .slice A n c0), (22, .int .i64 (n : Int)), (23, .int .i64 ((j + 1 : Nat) : Int))]) (by rw [e301]) ?_
            clear e301
            have H302 : Hp w [] [.blk p23 [.slice A291 (m + (bb j).length) c292] 44, .row A291 (m + (bb j).length) c292 5 1 (by8 ((accE kk ss f bb j) ++ (bb j)))] w298 := H299.sub (List.Sublist.cons_cons _ (List.Sublist.cons_cons _ (List.Sublist.cons _ (List.Sublist.slnil))))
            have eb : (accE kk ss f bb (j + 1)) = ((accE kk ss f bb j) ++ (bb j)) := by rw [accE]; unfold itE; rw [if_neg (by omega)]; rw [if_neg (by omega)]; rw [if_pos (by omega)]
            have hm2 := (H302.rowLe 1 rfl).2.1
            rw [by8_length, Nat.mul_one, ← eb] at hm2
            have H303 : Hp w [] [.blk p23 [.slice A291 (m + (bb j).length) c292] 44, .row A291 (m + (bb j).length) c292 5 1 (by8 (accE kk ss f bb (j + 1)))] w298 := by rw [eb]; exact H302
            refine GL.fit (ts := [0, 3, 4, 5, 21, 22, 23]) (M' := [(0, .slice A n c0), (3, pt p23 0), (4, .pointer none), (5, .string (strOf ((accE kk ss f bb j) ++ (bb j)))), (21, .slice A n c0), (22, .int .i64 (n : Int)), (23, .int .i64 ((j + 1 : Nat) : Int))]) (by kernel_rfl) ?_
            refine GL.eq (M' := [(0, .slice A n c0), (3, pt p23 0), (4, .pointer none), (5, .string (strOf (accE kk ss f bb (j + 1)))), (21, .slice A n c0), (22, .int .i64 (n : Int)), (23, .int .i64 (((j + 1) : Nat) : Int))]) (by first | (rw [eb]; done) | rw [eb, putS_not (by unfold rightS; omega), List.append_nil]) ?_
            exact GL.again ⟨(j + 1), A291, c292, (m + (bb j).length)⟩ [0, 3, 4, 5, 21, 22, 23] rfl (by kernel_rfl) (by show n - (j + 1) < n - j; omega) ⟨⟨by omega, hm2.symm⟩, H303⟩
        · skip
          have hb258f := eq_of_beq hb258
          refine G.yes rfl ?_
          refine G.seqK fun K304 hK305 => ?_
          refine G.region ?_
          refine GL.run (j := 2) 2 [0, 3, 4, 5, 7, 21, 22, 23, 56, 57] [(0, .slice A n c0), (3, pt p23 0), (4, .pointer none), (5, .string (strOf (accE kk ss f bb j))), (7, pt p244 0), (21, .slice A n c0), (22, .int .i64 (n : Int)), (23, .int .i64 (j : Int)), (56, pt p23 0), (57, pt p244 2)] (by kernel_rfl) rfl ?_
          refine GL.sem (j := 3) (H250.ld (o := 2) (ty := 31) (v := .int .u64 ((f j : Nat) : Int)) 2 rfl (by kernel_rfl) rfl) [0, 3, 4, 5, 7, 21, 22, 23, 56, 58] [(0, .slice A n c0), (3, pt p23 0), (4, .pointer none), (5, .string (strOf (accE kk ss f bb j))), (7, pt p244 0), (21, .slice A n c0), (22, .int .i64 (n : Int)), (23, .int .i64 (j : Int)), (56, pt p23 0), (58, .int .u64 ((f j : Nat) : Int))] (by kernel_rfl) (by kernel_rfl) rfl ?_
          have hcA306 := cntSz_le (f j)
          refine GL.call (j := 4) (WCount_calls (ids [.blk p23 [.slice A2 m c2] 44, .row A2 m c2 5 1 (by8 (accE kk ss f bb j))]) p23 A2 m c2 (accE kk ss f bb j) (f j) w248 (Hp.startL (A := [.blk p23 [.slice A2 m c2] 44, .row A2 m c2 5 1 (by8 (accE kk ss f bb j))]) (B := [.blk p244 [.int .i64 (kk j), .int .i64 (ss j), .int .u64 ((f j : Nat) : Int), .slice (BB j) ((bb j).length) (bc j)] 33]) H250) (by omega)) (by kernel_rfl) rfl (fun e_ w308 hR => ?_)
          obtain ⟨A306, c307, rfl, H310⟩ := hR
          have H309 : Hp w [] [.blk p23 [.slice A306 (m + cntSz (f j)) c307] 44, .row A306 (m + cntSz (f j)) c307 5 1 (by8 ((accE kk ss f bb j) ++ cnt (f j))), .blk p244 [.int .i64 (kk j), .int .i64 (ss j), .int .u64 ((f j : Nat) : Int), .slice (BB j) ((bb j).length) (bc j)] 33] w308 := Hp.callL (A := [.blk p23 [.slice A2 m c2] 44, .row A2 m c2 5 1 (by8 (accE kk ss f bb j))]) (B := [.blk p244 [.int .i64 (kk j), .int .i64 (ss j), .int .u64 ((f j : Nat) : Int), .slice (BB j) ((bb j).length) (bc j)] 33]) H250 H310
          refine ⟨_, rfl, [0, 3, 4, 5, 7, 21, 22, 23], [(0, .slice A n c0), (3, pt p23 0), (4, .pointer none), (5, .string (strOf (accE kk ss f bb j))), (7, pt p244 0), (21, .slice A n c0), (22, .int .i64 (n : Int)), (23, .int .i64 (j : Int))], by kernel_rfl, ?_⟩
          refine GL.k rfl hK305 (fun _ _ h => h) ?_
          refine G.seqK fun K311 hK312 => ?_
          refine G.region ?_
          refine GL.run (j := 2) 2 [0, 3, 4, 7, 21, 22, 23, 60, 61] [(0, .slice A n c0), (3, pt p23 0), (4, .pointer none), (7, pt p244 0), (21, .slice A n c0), (22, .int .i64 (n : Int)), (23, .int .i64 (j : Int)), (60, .string (strOf (accE kk ss f bb j))), (61, pt p244 2)] (by kernel_rfl) rfl ?_
          refine GL.sem (j := 3) (H309.ld (o := 2) (ty := 31) (v := .int .u64 ((f j : Nat) : Int)) 2 rfl (by kernel_rfl) rfl) [0, 3, 4, 7, 21, 22, 23, 60, 62] [(0, .slice A n c0), (3, pt p23 0), (4, .pointer none), (7, pt p244 0), (21, .slice A n c0), (22, .int .i64 (n : Int)), (23, .int .i64 (j : Int)), (60, .string (strOf (accE kk ss f bb j))), (62, .int .u64 ((f j : Nat) : Int))] (by kernel_rfl) (by kernel_rfl) rfl ?_
          have hcA313 := cntSz_le (f j)
          refine GL.call (j := 4) (RCnt_calls (f j) (by omega) w308) (by kernel_rfl) rfl (fun e_ w317 hR => ?_)
          obtain ⟨A313, c314, rfl, H316⟩ := hR
          have H315 : Hp w [] [.blk p23 [.slice A306 (m + cntSz (f j)) c307] 44, .row A306 (m + cntSz (f j)) c307 5 1 (by8 ((accE kk ss f bb j) ++ cnt (f j))), .blk p244 [.int .i64 (kk j), .int .i64 (ss j), .int .u64 ((f j : Nat) : Int), .slice (BB j) ((bb j).length) (bc j)] 33, .row A313 (cntSz (f j)) c314 5 1 (by8 (cnt (f j)))] w317 := H309.callNew H316
          refine ⟨_, rfl, [0, 3, 4, 7, 21, 22, 23, 60, 63], [(0, .slice A n c0), (3, pt p23 0), (4, .pointer none), (7, pt p244 0), (21, .slice A n c0), (22, .int .i64 (n : Int)), (23, .int .i64 (j : Int)), (60, .string (strOf (accE kk ss f bb j))), (63, .slice A313 (cntSz (f j)) c314)], by kernel_rfl, ?_⟩
          refine GL.sem (j := 5) (run_toStr (P := Try.prog) (src := 22) (dst := 9) (A := A313) (bs := (cnt (f j))) (n := (cntSz (f j))) (c := c314) (by kernel_rfl) (by kernel_rfl) (H315.rdRow 3 rfl) (by first | rfl | omega | exact (cnt_length _).symm | (simp only [List.length_cons, List.length_nil, List.length_drop, List.length_take, List.length_append] <;> omega))) [0, 3, 4, 7, 21, 22, 23, 60, 64] [(0, .slice A n c0), (3, pt p23 0), (4, .pointer none), (7, pt p244 0), (21, .slice A n c0), (22, .int .i64 (n : Int)), (23, .int .i64 (j : Int)), (60, .string (strOf (accE kk ss f bb j))), (64, .string (strOf (cnt (f j))))] (by kernel_rfl) (by kernel_rfl) rfl ?_
          refine GL.sem (j := 6) (run_str_add (P := Try.prog) (t := 9) (accE kk ss f bb j) (cnt (f j)) (by first | omega | (simp only [List.length_cons, List.length_nil, List.length_append, putB_length, cnt_length] <;> omega)) _) [0, 3, 4, 7, 21, 22, 23, 65] [(0, .slice A n c0), (3, pt p23 0), (4, .pointer none), (7, pt p244 0), (21, .slice A n c0), (22, .int .i64 (n : Int)), (23, .int .i64 (j : Int)), (65, .string (strOf ((accE kk ss f bb j) ++ (cnt (f j)))))] (by kernel_rfl) (by kernel_rfl) rfl ?_
          refine GL.run (j := 7) 1 [0, 3, 4, 5, 7, 21, 22, 23] [(0, .slice A n c0), (3, pt p23 0), (4, .pointer none), (5, .string (strOf ((accE kk ss f bb j) ++ (cnt (f j))))), (7, pt p244 0), (21, .slice A n c0), (22, .int .i64 (n : Int)), (23, .int .i64 (j : Int))] (by kernel_rfl) rfl ?_
          refine GL.k rfl hK312 (fun _ _ h => h) ?_
          refine G.seqK fun K318 hK319 => ?_
          refine G.heldP (Hp w [] [.blk p23 [.slice A306 (m + cntSz (f j)) c307] 44, .row A306 (m + cntSz (f j)) c307 5 1 (by8 ((accE kk ss f bb j) ++ cnt (f j))), .blk p244 [.int .i64 (kk j), .int .i64 (ss j), .int .u64 ((f j : Nat) : Int), .slice (BB j) ((bb j).length) (bc j)] 33, .row A313 (cntSz (f j)) c314 5 1 (by8 (cnt (f j)))]) (by kernel_rfl) (by kernel_rfl) (fun c_ a_ d_ v_ w_ h_ => hPan c_ a_ d_ v_ w_ h_) ?_
          have H320 := H315.drew
          generalize ({ w317 with drawn := w317.drawn + 1 } : World) = w321 at H320 ⊢
          have hS322 : Hp w [] [.blk p23 [.slice A306 (m + cntSz (f j)) c307] 44, .row A306 (m + cntSz (f j)) c307 5 1 (by8 ((accE kk ss f bb j) ++ cnt (f j))), .blk p244 [.int .i64 (kk j), .int .i64 (ss j), .int .u64 ((f j : Nat) : Int), .slice (BB j) ((bb j).length) (bc j)] 33, .row A313 (cntSz (f j)) c314 5 1 (by8 (cnt (f j)))] w321 := H320.sub (List.Sublist.cons_cons _ (List.Sublist.cons_cons _ (List.Sublist.cons_cons _ (List.Sublist.cons_cons _ (List.Sublist.slnil)))))
          refine GP.run [0] [0, 3, 4, 5, 7, 21, 22, 23, 66] [(0, .slice A n c0), (3, pt p23 0), (4, .pointer none), (5, .string (strOf ((accE kk ss f bb j) ++ (cnt (f j))))), (7, pt p244 0), (21, .slice A n c0), (22, .int .i64 (n : Int)), (23, .int .i64 (j : Int)), (66, pt p244 2)] [0] (by kernel_rfl) rfl hS322 ?_
          refine GP.sem 1 (fun w_ H_ => H_.ld (o := 2) (ty := 31) (v := .int .u64 ((f j : Nat) : Int)) 2 rfl (by kernel_rfl) rfl) [0, 3, 4, 5, 7, 21, 22, 23, 67] [(0, .slice A n c0), (3, pt p23 0), (4, .pointer none), (5, .string (strOf ((accE kk ss f bb j) ++ (cnt (f j))))), (7, pt p244 0), (21, .slice A n c0), (22, .int .i64 (n : Int)), (23, .int .i64 (j : Int)), (67, .int .u64 ((f j : Nat) : Int))] (by kernel_rfl) (by kernel_rfl) (by kernel_rfl) hS322 ?_
          refine GP.run [3] [0, 3, 4, 5, 21, 22, 23, 67, 69] [(0, .slice A n c0), (3, pt p23 0), (4, .pointer none), (5, .string (strOf ((accE kk ss f bb j) ++ (cnt (f j))))), (21, .slice A n c0), (22, .int .i64 (n : Int)), (23, .int .i64 (j : Int)), (67, .int .u64 ((f j : Nat) : Int)), (69, pt p244 2)] [0, 1, 3] (by kernel_rfl) rfl hS322 ?_
          refine GP.sem 4 (fun w_ H_ => H_.ld (o := 2) (ty := 31) (v := .int .u64 ((f j : Nat) : Int)) 2 rfl (by kernel_rfl) rfl) [0, 3, 4, 5, 21, 22, 23, 67, 70] [(0, .slice A n c0), (3, pt p23 0), (4, .pointer none), (5, .string (strOf ((accE kk ss f bb j) ++ (cnt (f j))))), (21, .slice A n c0), (22, .int .i64 (n : Int)), (23, .int .i64 (j : Int)), (67, .int .u64 ((f j : Nat) : Int)), (70, .int .u64 ((f j : Nat) : Int))] (by kernel_rfl) (by kernel_rfl) (by kernel_rfl) hS322 ?_
          refine GP.call 2 (CountSize_calls (f j) w321) (by kernel_rfl) (by kernel_rfl) (fun e_ w323 hR => ?_)
          obtain ⟨rfl, H325⟩ := hR
          have H324 : Hp w [] [.blk p23 [.slice A306 (m + cntSz (f j)) c307] 44, .row A306 (m + cntSz (f j)) c307 5 1 (by8 ((accE kk ss f bb j) ++ cnt (f j))), .blk p244 [.int .i64 (kk j), .int .i64 (ss j), .int .u64 ((f j : Nat) : Int), .slice (BB j) ((bb j).length) (bc j)] 33, .row A313 (cntSz (f j)) c314 5 1 (by8 (cnt (f j)))] w323 := H320.callNil H325
          have hS326 : Hp w [] [.blk p23 [.slice A306 (m + cntSz (f j)) c307] 44, .row A306 (m + cntSz (f j)) c307 5 1 (by8 ((accE kk ss f bb j) ++ cnt (f j))), .blk p244 [.int .i64 (kk j), .int .i64 (ss j), .int .u64 ((f j : Nat) : Int), .slice (BB j) ((bb j).length) (bc j)] 33, .row A313 (cntSz (f j)) c314 5 1 (by8 (cnt (f j)))] w323 := H324.sub (List.Sublist.cons_cons _ (List.Sublist.cons_cons _ (List.Sublist.cons_cons _ (List.Sublist.cons_cons _ (List.Sublist.slnil)))))
          refine ⟨_, rfl, hS326, [0, 3, 4, 5, 21, 22, 23, 68, 70], [(0, .slice A n c0), (3, pt p23 0), (4, .pointer none), (5, .string (strOf ((accE kk ss f bb j) ++ (cnt (f j))))), (21, .slice A n c0), (22, .int .i64 (n : Int)), (23, .int .i64 (j : Int)), (68, .int .i64 (((cntSz (f j)) : Nat) : Int)), (70, .int .u64 ((f j : Nat) : Int))], by kernel_rfl, ?_⟩
          have hcA327 := cntSz_le (f j)
          refine GP.call 5 (RCnt_calls (f j) (by omega) w323) (by kernel_rfl) (by kernel_rfl) (fun e_ w331 hR => ?_)
          obtain ⟨A327, c328, rfl, H330⟩ := hR
          have H329 : Hp w [] [.blk p23 [.slice A306 (m + cntSz (f j)) c307] 44, .row A306 (m + cntSz (f j)) c307 5 1 (by8 ((accE kk ss f bb j) ++ cnt (f j))), .blk p244 [.int .i64 (kk j), .int .i64 (ss j), .int .u64 ((f j : Nat) : Int), .slice (BB j) ((bb j).length) (bc j)] 33, .row A313 (cntSz (f j)) c314 5 1 (by8 (cnt (f j))), .row A327 (cntSz (f j)) c328 5 1 (by8 (cnt (f j)))] w331 := H324.callNew H330
          have hS332 : Hp w [] [.blk p23 [.slice A306 (m + cntSz (f j)) c307] 44, .row A306 (m + cntSz (f j)) c307 5 1 (by8 ((accE kk ss f bb j) ++ cnt (f j))), .blk p244 [.int .i64 (kk j), .int .i64 (ss j), .int .u64 ((f j : Nat) : Int), .slice (BB j) ((bb j).length) (bc j)] 33, .row A313 (cntSz (f j)) c314 5 1 (by8 (cnt (f j)))] w331 := H329.sub (List.Sublist.cons_cons _ (List.Sublist.cons_cons _ (List.Sublist.cons_cons _ (List.Sublist.cons_cons _ (List.Sublist.cons _ (List.Sublist.slnil))))))
          refine ⟨_, rfl, hS332, [0, 3, 4, 5, 21, 22, 23, 68, 71], [(0, .slice A n c0), (3, pt p23 0), (4, .pointer none), (5, .string (strOf ((accE kk ss f bb j) ++ (cnt (f j))))), (21, .slice A n c0), (22, .int .i64 (n : Int)), (23, .int .i64 (j : Int)), (68, .int .i64 (((cntSz (f j)) : Nat) : Int)), (71, .slice A327 (cntSz (f j)) c328)], by kernel_rfl, ?_⟩
          refine GP.run [6, 7] [0, 3, 4, 5, 21, 22, 23, 73] [(0, .slice A n c0), (3, pt p23 0), (4, .pointer none), (5, .string (strOf ((accE kk ss f bb j) ++ (cnt (f j))))), (21, .slice A n c0), (22, .int .i64 (n : Int)), (23, .int .i64 (j : Int)), (73, .bool ((((cntSz (f j)) : Nat) : Int) != (((cntSz (f j)) : Nat) : Int)))] [0, 1, 3, 4, 2, 5, 6, 7] (by kernel_rfl) rfl hS332 ?_
          refine GP.k (by kernel_rfl) hK319 (fun _ _ h => h) ?_
          have hb333 : ((((cntSz (f j)) : Nat) : Int) != (((cntSz (f j)) : Nat) : Int)) = false := bne_self_eq_false _
          rw [hb333]
          refine G.no rfl ?_
          refine G.skipK hK241 (fun _ _ h => h) ?_
          refine G.region ?_
          refine GL.run (j := 2) 2 [0, 3, 4, 5, 21, 22, 23] [(0, .slice A n c0), (3, pt p23 0), (4, .pointer none), (5, .string (strOf ((accE kk ss f bb j) ++ (cnt (f j))))), (21, .slice A n c0), (22, .int .i64 (n : Int)), (23, .int .i64 (IntKind.i64.wrap ((j : Int) + 1)))] (by kernel_rfl) rfl ?_
          have e334 : (IntKind.i64.wrap ((j : Int) + 1)) = ((j + 1 : Nat) : Int) := by rw [in_i64 (by omega)]; omega
          refine GL.eq (M' := [(0, .slice A n c0), (3, pt p23 0), (4, .pointer none), (5, .string (strOf ((accE kk ss f bb j) ++ (cnt (f j))))), (21, .slice A n c0), (22, .int .i64 (n : Int)), (23, .int .i64 ((j + 1 : Nat) : Int))]) (by rw [e334]) ?_
          clear e334
          have H335 : Hp w [] [.blk p23 [.slice A306 (m + cntSz (f j)) c307] 44, .row A306 (m + cntSz (f j)) c307 5 1 (by8 ((accE kk ss f bb j) ++ cnt (f j)))] w331 := H329.sub (List.Sublist.cons_cons _ (List.Sublist.cons_cons _ (List.Sublist.cons _ (List.Sublist.cons _ (List.Sublist.cons _ (List.Sublist.slnil))))))
          have eb : (accE kk ss f bb (j + 1)) = ((accE kk ss f bb j) ++ cnt (f j)) := by rw [accE]; unfold itE; rw [if_neg (by omega)]; rw [if_pos (by omega)]
          have hm2 := (H335.rowLe 1 rfl).2.1
          rw [by8_length, Nat.mul_one, ← eb] at hm2
          have H336 : Hp w [] [.blk p23 [.slice A306 (m + cntSz (f j)) c307] 44, .row A306 (m + cntSz (f j)) c307 5 1 (by8 (accE kk ss f bb (j + 1)))] w331 := by rw [eb]; exact H335
          refine GL.fit (ts := [0, 3, 4, 5, 21, 22, 23]) (M' := [(0, .slice A n c0), (3, pt p23 0), (4, .pointer none), (5, .string (strOf ((accE kk ss f bb j) ++ (cnt (f j))))), (21, .slice A n c0), (22, .int .i64 (n : Int)), (23, .int .i64 ((j + 1 : Nat) : Int))]) (by kernel_rfl) ?_
          refine GL.eq (M' := [(0, .slice A n c0), (3, pt p23 0), (4, .pointer none), (5, .string (strOf (accE kk ss f bb (j + 1)))), (21, .slice A n c0), (22, .int .i64 (n : Int)), (23, .int .i64 (((j + 1) : Nat) : Int))]) (by first | (rw [eb]; done) | rw [eb, putS_not (by unfold rightS; omega), List.append_nil]) ?_
          exact GL.again ⟨(j + 1), A306, c307, (m + cntSz (f j))⟩ [0, 3, 4, 5, 21, 22, 23] rfl (by kernel_rfl) (by show n - (j + 1) < n - j; omega) ⟨⟨by omega, hm2.symm⟩, H336⟩
      · skip
        have hb255f := eq_of_beq hb255
        refine G.yes rfl ?_
        refine G.seqK fun K337 hK338 => ?_
        refine G.region ?_
        refine GL.run (j := 2) 2 [0, 3, 4, 5, 7, 21, 22, 23, 31, 32] [(0, .slice A n c0), (3, pt p23 0), (4, .pointer none), (5, .string (strOf (accE kk ss f bb j))), (7, pt p244 0), (21, .slice A n c0), (22, .int .i64 (n : Int)), (23, .int .i64 (j : Int)), (31, pt p23 0), (32, pt p244 2)] (by kernel_rfl) rfl ?_
        refine GL.sem (j := 3) (H250.ld (o := 2) (ty := 31) (v := .int .u64 ((f j : Nat) : Int)) 2 rfl (by kernel_rfl) rfl) [0, 3, 4, 5, 7, 21, 22, 23, 31, 33] [(0, .slice A n c0), (3, pt p23 0), (4, .pointer none), (5, .string (strOf (accE kk ss f bb j))), (7, pt p244 0), (21, .slice A n c0), (22, .int .i64 (n : Int)), (23, .int .i64 (j : Int)), (31, pt p23 0), (33, .int .u64 ((f j : Nat) : Int))] (by kernel_rfl) (by kernel_rfl) rfl ?_
        refine GL.run (j := 4) 1 [0, 3, 4, 5, 7, 21, 22, 23, 31, 33, 34] [(0, .slice A n c0), (3, pt p23 0), (4, .pointer none), (5, .string (strOf (accE kk ss f bb j))), (7, pt p244 0), (21, .slice A n c0), (22, .int .i64 (n : Int)), (23, .int .i64 (j : Int)), (31, pt p23 0), (33, .int .u64 ((f j : Nat) : Int)), (34, pt p244 1)] (by kernel_rfl) rfl ?_
        refine GL.sem (j := 5) (H250.ld (o := 1) (ty := 3) (v := .int .i64 (ss j)) 2 rfl (by kernel_rfl) rfl) [0, 3, 4, 5, 7, 21, 22, 23, 31, 33, 35] [(0, .slice A n c0), (3, pt p23 0), (4, .pointer none), (5, .string (strOf (accE kk ss f bb j))), (7, pt p244 0), (21, .slice A n c0), (22, .int .i64 (n : Int)), (23, .int .i64 (j : Int)), (31, pt p23 0), (33, .int .u64 ((f j : Nat) : Int)), (35, .int .i64 (ss j))] (by kernel_rfl) (by kernel_rfl) rfl ?_
        have hcA339 := putS_len (f j) (ss j)
        refine GL.call (j := 6) (Put_calls (ids [.blk p23 [.slice A2 m c2] 44, .row A2 m c2 5 1 (by8 (accE kk ss f bb j))]) p23 A2 m c2 (accE kk ss f bb j) (f j) (ss j) w248 (Hp.startL (A := [.blk p23 [.slice A2 m c2] 44, .row A2 m c2 5 1 (by8 (accE kk ss f bb j))]) (B := [.blk p244 [.int .i64 (kk j), .int .i64 (ss j), .int .u64 ((f j : Nat) : Int), .slice (BB j) ((bb j).length) (bc j)] 33]) H250) (by omega)) (by kernel_rfl) rfl (fun e_ w341 hR => ?_)
        obtain ⟨A339, c340, rfl, H343⟩ := hR
        have H342 : Hp w [] [.blk p23 [.slice A339 (m + (putS (f j) (ss j)).length) c340] 44, .row A339 (m + (putS (f j) (ss j)).length) c340 5 1 (by8 ((accE kk ss f bb j) ++ putS (f j) (ss j))), .blk p244 [.int .i64 (kk j), .int .i64 (ss j), .int .u64 ((f j : Nat) : Int), .slice (BB j) ((bb j).length) (bc j)] 33] w341 := Hp.callL (A := [.blk p23 [.slice A2 m c2] 44, .row A2 m c2 5 1 (by8 (accE kk ss f bb j))]) (B := [.blk p244 [.int .i64 (kk j), .int .i64 (ss j), .int .u64 ((f j : Nat) : Int), .slice (BB j) ((bb j).length) (bc j)] 33]) H250 H343
        refine ⟨_, rfl, [0, 3, 4, 5, 7, 21, 22, 23], [(0, .slice A n c0), (3, pt p23 0), (4, .pointer none), (5, .string (strOf (accE kk ss f bb j))), (7, pt p244 0), (21, .slice A n c0), (22, .int .i64 (n : Int)), (23, .int .i64 (j : Int))], by kernel_rfl, ?_⟩
        refine GL.k rfl hK338 (fun _ _ h => h) ?_
        refine G.seqK fun K344 hK345 => ?_
        refine G.region ?_
        refine GL.run (j := 2) 2 [0, 3, 4, 5, 7, 21, 22, 23, 37, 38] [(0, .slice A n c0), (3, pt p23 0), (4, .pointer none), (5, .string (strOf (accE kk ss f bb j))), (7, pt p244 0), (21, .slice A n c0), (22, .int .i64 (n : Int)), (23, .int .i64 (j : Int)), (37, .pointer none), (38, pt p244 2)] (by kernel_rfl) rfl ?_
        refine GL.sem (j := 3) (H342.ld (o := 2) (ty := 31) (v := .int .u64 ((f j : Nat) : Int)) 2 rfl (by kernel_rfl) rfl) [0, 3, 4, 5, 7, 21, 22, 23, 37, 39] [(0, .slice A n c0), (3, pt p23 0), (4, .pointer none), (5, .string (strOf (accE kk ss f bb j))), (7, pt p244 0), (21, .slice A n c0), (22, .int .i64 (n : Int)), (23, .int .i64 (j : Int)), (37, .pointer none), (39, .int .u64 ((f j : Nat) : Int))] (by kernel_rfl) (by kernel_rfl) rfl ?_
        refine GL.run (j := 4) 1 [0, 3, 4, 5, 7, 21, 22, 23, 37, 39, 40] [(0, .slice A n c0), (3, pt p23 0), (4, .pointer none), (5, .string (strOf (accE kk ss f bb j))), (7, pt p244 0), (21, .slice A n c0), (22, .int .i64 (n : Int)), (23, .int .i64 (j : Int)), (37, .pointer none), (39, .int .u64 ((f j : Nat) : Int)), (40, pt p244 1)] (by kernel_rfl) rfl ?_
        refine GL.sem (j := 5) (H342.ld (o := 1) (ty := 3) (v := .int .i64 (ss j)) 2 rfl (by kernel_rfl) rfl) [0, 3, 4, 5, 7, 21, 22, 23, 37, 39, 41] [(0, .slice A n c0), (3, pt p23 0), (4, .pointer none), (5, .string (strOf (accE kk ss f bb j))), (7, pt p244 0), (21, .slice A n c0), (22, .int .i64 (n : Int)), (23, .int .i64 (j : Int)), (37, .pointer none), (39, .int .u64 ((f j : Nat) : Int)), (41, .int .i64 (ss j))] (by kernel_rfl) (by kernel_rfl) rfl ?_
        refine GL.call (j := 6) (Put_nil (f j) (ss j) w341) (by kernel_rfl) rfl (fun e_ w346 hR => ?_)
        obtain ⟨rfl, H348⟩ := hR
        have H347 : Hp w [] [.blk p23 [.slice A339 (m + (putS (f j) (ss j)).length) c340] 44, .row A339 (m + (putS (f j) (ss j)).length) c340 5 1 (by8 ((accE kk ss f bb j) ++ putS (f j) (ss j))), .blk p244 [.int .i64 (kk j), .int .i64 (ss j), .int .u64 ((f j : Nat) : Int), .slice (BB j) ((bb j).length) (bc j)] 33] w346 := H342.callNil H348
        refine ⟨_, rfl, [0, 3, 4, 5, 7, 21, 22, 23], [(0, .slice A n c0), (3, pt p23 0), (4, .pointer none), (5, .string (strOf (accE kk ss f bb j))), (7, pt p244 0), (21, .slice A n c0), (22, .int .i64 (n : Int)), (23, .int .i64 (j : Int))], by kernel_rfl, ?_⟩
        refine GL.k rfl hK345 (fun _ _ h => h) ?_
        refine G.seqK fun K349 hK350 => ?_
        refine G.region ?_
        refine GL.run (j := 1) 1 [0, 3, 4, 5, 7, 21, 22, 23, 43] [(0, .slice A n c0), (3, pt p23 0), (4, .pointer none), (5, .string (strOf (accE kk ss f bb j))), (7, pt p244 0), (21, .slice A n c0), (22, .int .i64 (n : Int)), (23, .int .i64 (j : Int)), (43, pt p244 1)] (by kernel_rfl) rfl ?_
        refine GL.sem (j := 2) (H347.ld (o := 1) (ty := 3) (v := .int .i64 (ss j)) 2 rfl (by kernel_rfl) rfl) [0, 3, 4, 5, 7, 21, 22, 23, 44] [(0, .slice A n c0), (3, pt p23 0), (4, .pointer none), (5, .string (strOf (accE kk ss f bb j))), (7, pt p244 0), (21, .slice A n c0), (22, .int .i64 (n : Int)), (23, .int .i64 (j : Int)), (44, .int .i64 (ss j))] (by kernel_rfl) (by kernel_rfl) rfl ?_
        refine GL.call (j := 3) (right_calls (ss j) w346) (by kernel_rfl) rfl (fun e_ w351 hR => ?_)
        obtain ⟨rfl, H353⟩ := hR
        have H352 : Hp w [] [.blk p23 [.slice A339 (m + (putS (f j) (ss j)).length) c340] 44, .row A339 (m + (putS (f j) (ss j)).length) c340 5 1 (by8 ((accE kk ss f bb j) ++ putS (f j) (ss j))), .blk p244 [.int .i64 (kk j), .int .i64 (ss j), .int .u64 ((f j : Nat) : Int), .slice (BB j) ((bb j).length) (bc j)] 33] w351 := H347.callNil H353
        refine ⟨_, rfl, [0, 3, 4, 5, 7, 21, 22, 23, 45], [(0, .slice A n c0), (3, pt p23 0), (4, .pointer none), (5, .string (strOf (accE kk ss f bb j))), (7, pt p244 0), (21, .slice A n c0), (22, .int .i64 (n : Int)), (23, .int .i64 (j : Int)), (45, .bool (decide ((ss j) = 1 ∨ (ss j) = 2 ∨ (ss j) = 4 ∨ (ss j) = 8)))], by kernel_rfl, ?_⟩
        refine GL.k rfl hK350 (fun _ _ h => h) ?_
        cases hb354 : (decide ((ss j) = 1 ∨ (ss j) = 2 ∨ (ss j) = 4 ∨ (ss j) = 8))
        · skip
          have hb354f := of_decide_eq_false hb354
          refine G.no rfl ?_
          refine G.skipK hK241 (fun _ _ h => h) ?_
          refine G.region ?_
          refine GL.run (j := 2) 2 [0, 3, 4, 5, 21, 22, 23] [(0, .slice A n c0), (3, pt p23 0), (4, .pointer none), (5, .string (strOf (accE kk ss f bb j))), (21, .slice A n c0), (22, .int .i64 (n : Int)), (23, .int .i64 (IntKind.i64.wrap ((j : Int) + 1)))] (by kernel_rfl) rfl ?_
          have e355 : (IntKind.i64.wrap ((j : Int) + 1)) = ((j + 1 : Nat) : Int) := by rw [in_i64 (by omega)]; omega
          refine GL.eq (M' := [(0, .slice A n c0), (3, pt p23 0), (4, .pointer none), (5, .string (strOf (accE kk ss f bb j))), (21, .slice A n c0), (22, .int .i64 (n : Int)), (23, .int .i64 ((j + 1 : Nat) : Int))]) (by rw [e355]) ?_
          clear e355
          have H356 : Hp w [] [.blk p23 [.slice A339 (m + (putS (f j) (ss j)).length) c340] 44, .row A339 (m + (putS (f j) (ss j)).length) c340 5 1 (by8 ((accE kk ss f bb j) ++ putS (f j) (ss j)))] w351 := H352.sub (List.Sublist.cons_cons _ (List.Sublist.cons_cons _ (List.Sublist.cons _ (List.Sublist.slnil))))
          have eb : (accE kk ss f bb (j + 1)) = ((accE kk ss f bb j) ++ putS (f j) (ss j)) := by rw [accE]; unfold itE; rw [if_pos (by omega)]
          have hm2 := (H356.rowLe 1 rfl).2.1
          rw [by8_length, Nat.mul_one, ← eb] at hm2
          have H357 : Hp w [] [.blk p23 [.slice A339 (m + (putS (f j) (ss j)).length) c340] 44, .row A339 (m + (putS (f j) (ss j)).length) c340 5 1 (by8 (accE kk ss f bb (j + 1)))] w351 := by rw [eb]; exact H356
          refine GL.fit (ts := [0, 3, 4, 5, 21, 22, 23]) (M' := [(0, .slice A n c0), (3, pt p23 0), (4, .pointer none), (5, .string (strOf (accE kk ss f bb j))), (21, .slice A n c0), (22, .int .i64 (n : Int)), (23, .int .i64 ((j + 1 : Nat) : Int))]) (by kernel_rfl) ?_
          refine GL.eq (M' := [(0, .slice A n c0), (3, pt p23 0), (4, .pointer none), (5, .string (strOf (accE kk ss f bb (j + 1)))), (21, .slice A n c0), (22, .int .i64 (n : Int)), (23, .int .i64 (((j + 1) : Nat) : Int))]) (by first | (rw [eb]; done) | rw [eb, putS_not (by unfold rightS; omega), List.append_nil]) ?_
          exact GL.again ⟨(j + 1), A339, c340, (m + (putS (f j) (ss j)).length)⟩ [0, 3, 4, 5, 21, 22, 23] rfl (by kernel_rfl) (by show n - (j + 1) < n - j; omega) ⟨⟨by omega, hm2.symm⟩, H357⟩
        · skip
          have hb354f := of_decide_eq_true hb354
          refine G.yes rfl ?_
          refine G.region ?_
          refine GL.run (j := 2) 2 [0, 3, 4, 7, 21, 22, 23, 46, 47] [(0, .slice A n c0), (3, pt p23 0), (4, .pointer none), (7, pt p244 0), (21, .slice A n c0), (22, .int .i64 (n : Int)), (23, .int .i64 (j : Int)), (46, .string (strOf (accE kk ss f bb j))), (47, pt p244 2)] (by kernel_rfl) rfl ?_
          refine GL.sem (j := 3) (H352.ld (o := 2) (ty := 31) (v := .int .u64 ((f j : Nat) : Int)) 2 rfl (by kernel_rfl) rfl) [0, 3, 4, 7, 21, 22, 23, 46, 48] [(0, .slice A n c0), (3, pt p23 0), (4, .pointer none), (7, pt p244 0), (21, .slice A n c0), (22, .int .i64 (n : Int)), (23, .int .i64 (j : Int)), (46, .string (strOf (accE kk ss f bb j))), (48, .int .u64 ((f j : Nat) : Int))] (by kernel_rfl) (by kernel_rfl) rfl ?_
          refine GL.run (j := 4) 1 [0, 3, 4, 21, 22, 23, 46, 48, 49] [(0, .slice A n c0), (3, pt p23 0), (4, .pointer none), (21, .slice A n c0), (22, .int .i64 (n : Int)), (23, .int .i64 (j : Int)), (46, .string (strOf (accE kk ss f bb j))), (48, .int .u64 ((f j : Nat) : Int)), (49, pt p244 1)] (by kernel_rfl) rfl ?_
          refine GL.sem (j := 5) (H352.ld (o := 1) (ty := 3) (v := .int .i64 (ss j)) 2 rfl (by kernel_rfl) rfl) [0, 3, 4, 21, 22, 23, 46, 48, 50] [(0, .slice A n c0), (3, pt p23 0), (4, .pointer none), (21, .slice A n c0), (22, .int .i64 (n : Int)), (23, .int .i64 (j : Int)), (46, .string (strOf (accE kk ss f bb j))), (48, .int .u64 ((f j : Nat) : Int)), (50, .int .i64 (ss j))] (by kernel_rfl) (by kernel_rfl) rfl ?_
          have hcA358 := putS_len (f j) (ss j)
          refine GL.call (j := 6) (RPutS_calls (f j) (ss j) (by omega) (by omega) w351) (by kernel_rfl) rfl (fun e_ w362 hR => ?_)
          obtain ⟨A358, c359, rfl, H361⟩ := hR
          have H360 : Hp w [] [.blk p23 [.slice A339 (m + (putS (f j) (ss j)).length) c340] 44, .row A339 (m + (putS (f j) (ss j)).length) c340 5 1 (by8 ((accE kk ss f bb j) ++ putS (f j) (ss j))), .blk p244 [.int .i64 (kk j), .int .i64 (ss j), .int .u64 ((f j : Nat) : Int), .slice (BB j) ((bb j).length) (bc j)] 33, .row A358 ((putS (f j) (ss j)).length) c359 5 1 (by8 (putS (f j) (ss j)))] w362 := H352.callNew H361
          refine ⟨_, rfl, [0, 3, 4, 21, 22, 23, 46, 51], [(0, .slice A n c0), (3, pt p23 0), (4, .pointer none), (21, .slice A n c0), (22, .int .i64 (n : Int)), (23, .int .i64 (j : Int)), (46, .string (strOf (accE kk ss f bb j))), (51, .slice A358 ((putS (f j) (ss j)).length) c359)], by kernel_rfl, ?_⟩
          refine GL.sem (j := 7) (run_toStr (P := Try.prog) (src := 22) (dst := 9) (A := A358) (bs := (putS (f j) (ss j))) (n := (putS (f j) (ss j)).length) (c := c359) (by kernel_rfl) (by kernel_rfl) (H360.rdRow 3 rfl) (rfl)) [0, 3, 4, 21, 22, 23, 46, 52] [(0, .slice A n c0), (3, pt p23 0), (4, .pointer none), (21, .slice A n c0), (22, .int .i64 (n : Int)), (23, .int .i64 (j : Int)), (46, .string (strOf (accE kk ss f bb j))), (52, .string (strOf (putS (f j) (ss j))))] (by kernel_rfl) (by kernel_rfl) rfl ?_
          refine GL.sem (j := 8) (run_str_add (P := Try.prog) (t := 9) (accE kk ss f bb j) (putS (f j) (ss j)) (by first | omega | (simp only [List.length_cons, List.length_nil, List.length_append, putB_length, cnt_length] <;> omega)) _) [0, 3, 4, 21, 22, 23, 53] [(0, .slice A n c0), (3, pt p23 0), (4, .pointer none), (21, .slice A n c0), (22, .int .i64 (n : Int)), (23, .int .i64 (j : Int)), (53, .string (strOf ((accE kk ss f bb j) ++ (putS (f j) (ss j)))))] (by kernel_rfl) (by kernel_rfl) rfl ?_
          refine GL.run (j := 9) 1 [0, 3, 4, 5, 21, 22, 23] [(0, .slice A n c0), (3, pt p23 0), (4, .pointer none), (5, .string (strOf ((accE kk ss f bb j) ++ (putS (f j) (ss j))))), (21, .slice A n c0), (22, .int .i64 (n : Int)), (23, .int .i64 (j : Int))] (by kernel_rfl) rfl ?_
          refine GL.k rfl hK241 (fun _ _ h => h) ?_
          refine G.region ?_
          refine GL.run (j := 2) 2 [0, 3, 4, 5, 21, 22, 23] [(0, .slice A n c0), (3, pt p23 0), (4, .pointer none), (5, .string (strOf ((accE kk ss f bb j) ++ (putS (f j) (ss j))))), (21, .slice A n c0), (22, .int .i64 (n : Int)), (23, .int .i64 (IntKind.i64.wrap ((j : Int) + 1)))] (by kernel_rfl) rfl ?_
          have e363 : (IntKind.i64.wrap ((j : Int) + 1)) = ((j + 1 : Nat) : Int) := by rw [in_i64 (by omega)]; omega
          refine GL.eq (M' := [(0, .slice A n c0), (3, pt p23 0), (4, .pointer none), (5, .string (strOf ((accE kk ss f bb j) ++ (putS (f j) (ss j))))), (21, .slice A n c0), (22, .int .i64 (n : Int)), (23, .int .i64 ((j + 1 : Nat) : Int))]) (by rw [e363]) ?_
          clear e363
          have H364 : Hp w [] [.blk p23 [.slice A339 (m + (putS (f j) (ss j)).length) c340] 44, .row A339 (m + (putS (f j) (ss j)).length) c340 5 1 (by8 ((accE kk ss f bb j) ++ putS (f j) (ss j)))] w362 := H360.sub (List.Sublist.cons_cons _ (List.Sublist.cons_cons _ (List.Sublist.cons _ (List.Sublist.cons _ (List.Sublist.slnil)))))
          have eb : (accE kk ss f bb (j + 1)) = ((accE kk ss f bb j) ++ putS (f j) (ss j)) := by rw [accE]; unfold itE; rw [if_pos (by omega)]
          have hm2 := (H364.rowLe 1 rfl).2.1
          rw [by8_length, Nat.mul_one, ← eb] at hm2
          have H365 : Hp w [] [.blk p23 [.slice A339 (m + (putS (f j) (ss j)).length) c340] 44, .row A339 (m + (putS (f j) (ss j)).length) c340 5 1 (by8 (accE kk ss f bb (j + 1)))] w362 := by rw [eb]; exact H364
          refine GL.fit (ts := [0, 3, 4, 5, 21, 22, 23]) (M' := [(0, .slice A n c0), (3, pt p23 0), (4, .pointer none), (5, .string (strOf ((accE kk ss f bb j) ++ (putS (f j) (ss j))))), (21, .slice A n c0), (22, .int .i64 (n : Int)), (23, .int .i64 ((j + 1 : Nat) : Int))]) (by kernel_rfl) ?_
          refine GL.eq (M' := [(0, .slice A n c0), (3, pt p23 0), (4, .pointer none), (5, .string (strOf (accE kk ss f bb (j + 1)))), (21, .slice A n c0), (22, .int .i64 (n : Int)), (23, .int .i64 (((j + 1) : Nat) : Int))]) (by first | (rw [eb]; done) | rw [eb, putS_not (by unfold rightS; omega), List.append_nil]) ?_
          exact GL.again ⟨(j + 1), A339, c340, (m + (putS (f j) (ss j)).length)⟩ [0, 3, 4, 5, 21, 22, 23] rfl (by kernel_rfl) (by show n - (j + 1) < n - j; omega) ⟨⟨by omega, hm2.symm⟩, H365⟩
end Go.Proofs.Ytobgpfljdooopaa
