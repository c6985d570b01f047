/- Part 2 of what commandParses_proved stands on. -/
import Derived.Test.YtkfhcogdpmndkaaZl1
set_option linter.unusedVariables false
namespace Go.Proofs.Ytkfhcogdpmndkaa
open Go.RowKit
theorem CountSize_calls (x : Nat) (w : World) : Calls Try.prog 39 #[.int .u64 (x : Int)] w fun e w' => e = .returned (.int .i64 ((cntSz x : Nat) : Int)) ∧ Hp w [] [] w' := by
  refine calls_G (args := [.int .u64 (x : Int)]) Try.func39 rfl Try.ntmps39 rfl ?_
  intro Q0 hRet hNor hPan
  have H := Hp.start w
  have H : Hp w [] [] w := H
  refine G.seqK fun K1 hK2 => ?_
  refine G.region ?_
  refine GL.run (j := 1) 1 [0] [(0, .int .u64 (x : Int))] (by kernel_rfl) rfl ?_
  refine GL.k rfl hK2 (fun _ _ h => h) ?_
  refine G.seqK fun K3 hK4 => ?_
  refine G.block ?_
  refine G.seqK fun K5 hK6 => ?_
  refine G.region ?_
  refine GL.run (j := 3) 3 [0, 3] [(0, .int .u64 (x : Int)), (3, .bool (decide ((x : Int) < 253)))] (by kernel_rfl) rfl ?_
  refine GL.k rfl hK6 (fun _ _ h => h) ?_
  cases hb7 : (decide ((x : Int) < 253))
  · skip
    have hb7f := of_decide_eq_false hb7
    refine G.no rfl ?_
    refine G.seqK fun K8 hK9 => ?_
    refine G.region ?_
    refine GL.run (j := 3) 3 [0, 6] [(0, .int .u64 (x : Int)), (6, .bool (decide ((x : Int) < 65536)))] (by kernel_rfl) rfl ?_
    refine GL.k rfl hK9 (fun _ _ h => h) ?_
    cases hb10 : (decide ((x : Int) < 65536))
    · skip
      have hb10f := of_decide_eq_false hb10
      refine G.no rfl ?_
      refine G.seqK fun K11 hK12 => ?_
      refine G.region ?_
      refine GL.run (j := 3) 3 [9] [(9, .bool (decide ((x : Int) < 4294967296)))] (by kernel_rfl) rfl ?_
      refine GL.k rfl hK12 (fun _ _ h => h) ?_
      cases hb13 : (decide ((x : Int) < 4294967296))
      · skip
        have hb13f := of_decide_eq_false hb13
        refine G.no rfl ?_
        refine G.skipK hK4 (fun _ _ h => h) ?_
        refine G.seqK fun K14 hK15 => ?_
        refine G.region ?_
        refine GL.run (j := 1) 1 [2] [(2, .int .i64 9)] (by kernel_rfl) rfl ?_
        refine GL.k rfl hK15 (fun _ _ h => h) ?_
        refine G.ret ?_
        intro F_ hF_ hM_
        refine hRet _ _ (bodyPost_1 rfl (RV.tmp rfl) ?_ F_ hF_ hM_)
        have e0 : cntSz x = 9 := by unfold cntSz; (repeat' split) <;> omega
        rw [e0]
        exact ⟨rfl, H.sub (List.nil_sublist _)⟩
      · skip
        have hb13f := of_decide_eq_true hb13
        refine G.yes rfl ?_
        refine G.seqK fun K16 hK17 => ?_
        refine G.region ?_
        refine GL.run (j := 1) 1 [2] [(2, .int .i64 5)] (by kernel_rfl) rfl ?_
        refine GL.k rfl hK17 (fun _ _ h => h) ?_
        refine G.ret ?_
        intro F_ hF_ hM_
        refine hRet _ _ (bodyPost_1 rfl (RV.tmp rfl) ?_ F_ hF_ hM_)
        have e0 : cntSz x = 5 := by unfold cntSz; (repeat' split) <;> omega
        rw [e0]
        exact ⟨rfl, H.sub (List.nil_sublist _)⟩
    · skip
      have hb10f := of_decide_eq_true hb10
      refine G.yes rfl ?_
      refine G.seqK fun K18 hK19 => ?_
      refine G.region ?_
      refine GL.run (j := 1) 1 [2] [(2, .int .i64 3)] (by kernel_rfl) rfl ?_
      refine GL.k rfl hK19 (fun _ _ h => h) ?_
      refine G.ret ?_
      intro F_ hF_ hM_
      refine hRet _ _ (bodyPost_1 rfl (RV.tmp rfl) ?_ F_ hF_ hM_)
      have e0 : cntSz x = 3 := by unfold cntSz; (repeat' split) <;> omega
      rw [e0]
      exact ⟨rfl, H.sub (List.nil_sublist _)⟩
  · skip
    have hb7f := of_decide_eq_true hb7
    refine G.yes rfl ?_
    refine G.seqK fun K20 hK21 => ?_
    refine G.region ?_
    refine GL.run (j := 1) 1 [2] [(2, .int .i64 1)] (by kernel_rfl) rfl ?_
    refine GL.k rfl hK21 (fun _ _ h => h) ?_
    refine G.ret ?_
    intro F_ hF_ hM_
    refine hRet _ _ (bodyPost_1 rfl (RV.tmp rfl) ?_ F_ hF_ hM_)
    have e0 : cntSz x = 1 := by unfold cntSz; (repeat' split) <;> omega
    rw [e0]
    exact ⟨rfl, H.sub (List.nil_sublist _)⟩
theorem WCount_calls (S : List Nat) (p : Nat) (A : Option Addr) (n c : Nat) (bs : List UInt8) (x : Nat) (w : World) (h0 : Hp w S [.blk p [.slice A n c] 53, .row A n c 5 1 (by8 bs)] w) (hn : n ≤ 900000) : Calls Try.prog 33 #[pt p 0, .int .u64 (x : Int)] w fun e w' => ∃ A c, e = .returned (.tuple #[]) ∧ Hp w S [.blk p [.slice A (n + cntSz x) c] 53, .row A (n + cntSz x) c 5 1 (by8 (bs ++ cnt x))] w' := by
  have hc9 := cntSz_le x
  refine calls_G (args := [pt p 0, .int .u64 (x : Int)]) Try.func33 rfl Try.ntmps33 rfl ?_
  intro Q0 hRet hNor hPan
  have H := h0
  have H : Hp w S [.blk p [.slice A n c] 53, .row A n c 5 1 (by8 bs)] w := H
  refine G.seqK fun K1 hK2 => ?_
  refine G.region ?_
  refine GL.run (j := 1) 1 [0, 1, 4] [(0, pt p 0), (1, .int .u64 (x : Int)), (4, .int .u64 (x : Int))] (by kernel_rfl) rfl ?_
  refine GL.call (j := 2) (CountSize_calls x w) (by kernel_rfl) rfl (fun e_ w3 hR => ?_)
  obtain ⟨rfl, H5⟩ := hR
  have H4 : Hp w S [.blk p [.slice A n c] 53, .row A n c 5 1 (by8 bs)] w3 := H.callNil H5
  refine ⟨_, rfl, [0, 1, 5], [(0, pt p 0), (1, .int .u64 (x : Int)), (5, .int .i64 (((cntSz x) : Nat) : Int))], by kernel_rfl, ?_⟩
  refine GL.k rfl hK2 (fun _ _ h => h) ?_
  refine G.block ?_
  refine G.seqK fun K6 hK7 => ?_
  refine G.region ?_
  refine GL.run (j := 2) 2 [0, 1, 5, 11] [(0, pt p 0), (1, .int .u64 (x : Int)), (5, .int .i64 (((cntSz x) : Nat) : Int)), (11, .bool ((((cntSz x) : Nat) : Int) == 1))] (by kernel_rfl) rfl ?_
  refine GL.k rfl hK7 (fun _ _ h => h) ?_
  cases hb8 : ((((cntSz x) : Nat) : Int) == 1)
  · skip
    have hb8f := ne_of_beq_false hb8
    refine G.no rfl ?_
    refine G.seqK fun K9 hK10 => ?_
    refine G.region ?_
    refine GL.run (j := 2) 2 [0, 1, 5, 16] [(0, pt p 0), (1, .int .u64 (x : Int)), (5, .int .i64 (((cntSz x) : Nat) : Int)), (16, .bool ((((cntSz x) : Nat) : Int) == 3))] (by kernel_rfl) rfl ?_
    refine GL.k rfl hK10 (fun _ _ h => h) ?_
    cases hb11 : ((((cntSz x) : Nat) : Int) == 3)
    · skip
      have hb11f := ne_of_beq_false hb11
      refine G.no rfl ?_
      refine G.seqK fun K12 hK13 => ?_
      refine G.region ?_
      refine GL.run (j := 2) 2 [0, 1, 23] [(0, pt p 0), (1, .int .u64 (x : Int)), (23, .bool ((((cntSz x) : Nat) : Int) == 5))] (by kernel_rfl) rfl ?_
      refine GL.k rfl hK13 (fun _ _ h => h) ?_
      cases hb14 : ((((cntSz x) : Nat) : Int) == 5)
      · skip
        have hb14f := ne_of_beq_false hb14
        refine G.no rfl ?_
        refine G.seqK fun K15 hK16 => ?_
        refine G.region ?_
        refine GL.run (j := 1) 1 [0, 1, 6] [(0, pt p 0), (1, .int .u64 (x : Int)), (6, pt p 0)] (by kernel_rfl) rfl ?_
        refine GL.call (j := 2) (Put1_calls (ids [.blk p [.slice A n c] 53, .row A n c 5 1 (by8 bs)]) p A n c bs 255 w3 (Hp.startL (A := [.blk p [.slice A n c] 53, .row A n c 5 1 (by8 bs)]) (B := []) H4) (by omega)) (by kernel_rfl) rfl (fun e_ w19 hR => ?_)
        obtain ⟨A17, c18, rfl, H21⟩ := hR
        have H20 : Hp w S [.blk p [.slice A17 (n + 1) c18] 53, .row A17 (n + 1) c18 5 1 (by8 (bs ++ (putB 255 1)))] w19 := Hp.callL (A := [.blk p [.slice A n c] 53, .row A n c 5 1 (by8 bs)]) (B := []) H4 H21
        refine ⟨_, rfl, [0, 1], [(0, pt p 0), (1, .int .u64 (x : Int))], by kernel_rfl, ?_⟩
        refine GL.k rfl hK16 (fun _ _ h => h) ?_
        refine G.region ?_
        refine GL.run (j := 2) 2 [8, 9] [(8, pt p 0), (9, .int .u64 (x : Int))] (by kernel_rfl) rfl ?_
        refine GL.call (j := 3) (Put8_calls (ids [.blk p [.slice A17 (n + 1) c18] 53, .row A17 (n + 1) c18 5 1 (by8 (bs ++ (putB 255 1)))]) p A17 (n + 1) c18 (bs ++ (putB 255 1)) x w19 (Hp.startL (A := [.blk p [.slice A17 (n + 1) c18] 53, .row A17 (n + 1) c18 5 1 (by8 (bs ++ (putB 255 1)))]) (B := []) H20) (by omega)) (by kernel_rfl) rfl (fun e_ w24 hR => ?_)
        obtain ⟨A22, c23, rfl, H26⟩ := hR
        have H25 : Hp w S [.blk p [.slice A22 ((n + 1) + 8) c23] 53, .row A22 ((n + 1) + 8) c23 5 1 (by8 ((bs ++ (putB 255 1)) ++ (putB x 8)))] w24 := Hp.callL (A := [.blk p [.slice A17 (n + 1) c18] 53, .row A17 (n + 1) c18 5 1 (by8 (bs ++ (putB 255 1)))]) (B := []) H20 H26
        refine ⟨_, rfl, [], [], by kernel_rfl, ?_⟩
        refine GL.done rfl ?_
        intro F_ hF_ hM_
        refine hNor _ _ (bodyPost_0 rfl  ?_ F_ hF_ hM_)
        have e0 : cntSz x = 9 ∧ cnt x = putB 255 1 ++ putB x 8 := by rcases cnt_cases x with ⟨_, a, b⟩ | ⟨_, _, a, b⟩ | ⟨_, _, a, b⟩ | ⟨_, a, b⟩ <;> first | exact ⟨a, b⟩ | (exfalso; omega)
        have HF := H25
        rw [List.append_assoc] at HF
        rw [e0.1, e0.2]
        exact ⟨_, _, rfl, HF⟩
      · skip
        have hb14f := eq_of_beq hb14
        refine G.yes rfl ?_
        refine G.seqK fun K27 hK28 => ?_
        refine G.region ?_
        refine GL.run (j := 1) 1 [0, 1, 25] [(0, pt p 0), (1, .int .u64 (x : Int)), (25, pt p 0)] (by kernel_rfl) rfl ?_
        refine GL.call (j := 2) (Put1_calls (ids [.blk p [.slice A n c] 53, .row A n c 5 1 (by8 bs)]) p A n c bs 254 w3 (Hp.startL (A := [.blk p [.slice A n c] 53, .row A n c 5 1 (by8 bs)]) (B := []) H4) (by omega)) (by kernel_rfl) rfl (fun e_ w31 hR => ?_)
        obtain ⟨A29, c30, rfl, H33⟩ := hR
        have H32 : Hp w S [.blk p [.slice A29 (n + 1) c30] 53, .row A29 (n + 1) c30 5 1 (by8 (bs ++ (putB 254 1)))] w31 := Hp.callL (A := [.blk p [.slice A n c] 53, .row A n c 5 1 (by8 bs)]) (B := []) H4 H33
        refine ⟨_, rfl, [0, 1], [(0, pt p 0), (1, .int .u64 (x : Int))], by kernel_rfl, ?_⟩
        refine GL.k rfl hK28 (fun _ _ h => h) ?_
        refine G.region ?_
        refine GL.run (j := 2) 2 [27, 28] [(27, pt p 0), (28, .int .u64 (x : Int))] (by kernel_rfl) rfl ?_
        refine GL.call (j := 3) (Put4_calls (ids [.blk p [.slice A29 (n + 1) c30] 53, .row A29 (n + 1) c30 5 1 (by8 (bs ++ (putB 254 1)))]) p A29 (n + 1) c30 (bs ++ (putB 254 1)) x w31 (Hp.startL (A := [.blk p [.slice A29 (n + 1) c30] 53, .row A29 (n + 1) c30 5 1 (by8 (bs ++ (putB 254 1)))]) (B := []) H32) (by omega)) (by kernel_rfl) rfl (fun e_ w36 hR => ?_)
        obtain ⟨A34, c35, rfl, H38⟩ := hR
        have H37 : Hp w S [.blk p [.slice A34 ((n + 1) + 4) c35] 53, .row A34 ((n + 1) + 4) c35 5 1 (by8 ((bs ++ (putB 254 1)) ++ (putB x 4)))] w36 := Hp.callL (A := [.blk p [.slice A29 (n + 1) c30] 53, .row A29 (n + 1) c30 5 1 (by8 (bs ++ (putB 254 1)))]) (B := []) H32 H38
        refine ⟨_, rfl, [], [], by kernel_rfl, ?_⟩
        refine GL.done rfl ?_
        intro F_ hF_ hM_
        refine hNor _ _ (bodyPost_0 rfl  ?_ F_ hF_ hM_)
        have e0 : cntSz x = 5 ∧ cnt x = putB 254 1 ++ putB x 4 := by rcases cnt_cases x with ⟨_, a, b⟩ | ⟨_, _, a, b⟩ | ⟨_, _, a, b⟩ | ⟨_, a, b⟩ <;> first | exact ⟨a, b⟩ | (exfalso; omega)
        have HF := H37
        rw [List.append_assoc] at HF
        rw [e0.1, e0.2]
        exact ⟨_, _, rfl, HF⟩
    · skip
      have hb11f := eq_of_beq hb11
      refine G.yes rfl ?_
      refine G.seqK fun K39 hK40 => ?_
      refine G.region ?_
      refine GL.run (j := 1) 1 [0, 1, 18] [(0, pt p 0), (1, .int .u64 (x : Int)), (18, pt p 0)] (by kernel_rfl) rfl ?_
      refine GL.call (j := 2) (Put1_calls (ids [.blk p [.slice A n c] 53, .row A n c 5 1 (by8 bs)]) p A n c bs 253 w3 (Hp.startL (A := [.blk p [.slice A n c] 53, .row A n c 5 1 (by8 bs)]) (B := []) H4) (by omega)) (by kernel_rfl) rfl (fun e_ w43 hR => ?_)
      obtain ⟨A41, c42, rfl, H45⟩ := hR
      have H44 : Hp w S [.blk p [.slice A41 (n + 1) c42] 53, .row A41 (n + 1) c42 5 1 (by8 (bs ++ (putB 253 1)))] w43 := Hp.callL (A := [.blk p [.slice A n c] 53, .row A n c 5 1 (by8 bs)]) (B := []) H4 H45
      refine ⟨_, rfl, [0, 1], [(0, pt p 0), (1, .int .u64 (x : Int))], by kernel_rfl, ?_⟩
      refine GL.k rfl hK40 (fun _ _ h => h) ?_
      refine G.region ?_
      refine GL.run (j := 2) 2 [20, 21] [(20, pt p 0), (21, .int .u64 (x : Int))] (by kernel_rfl) rfl ?_
      refine GL.call (j := 3) (Put2_calls (ids [.blk p [.slice A41 (n + 1) c42] 53, .row A41 (n + 1) c42 5 1 (by8 (bs ++ (putB 253 1)))]) p A41 (n + 1) c42 (bs ++ (putB 253 1)) x w43 (Hp.startL (A := [.blk p [.slice A41 (n + 1) c42] 53, .row A41 (n + 1) c42 5 1 (by8 (bs ++ (putB 253 1)))]) (B := []) H44) (by omega)) (by kernel_rfl) rfl (fun e_ w48 hR => ?_)
      obtain ⟨A46, c47, rfl, H50⟩ := hR
      have H49 : Hp w S [.blk p [.slice A46 ((n + 1) + 2) c47] 53, .row A46 ((n + 1) + 2) c47 5 1 (by8 ((bs ++ (putB 253 1)) ++ (putB x 2)))] w48 := Hp.callL (A := [.blk p [.slice A41 (n + 1) c42] 53, .row A41 (n + 1) c42 5 1 (by8 (bs ++ (putB 253 1)))]) (B := []) H44 H50
      refine ⟨_, rfl, [], [], by kernel_rfl, ?_⟩
      refine GL.done rfl ?_
      intro F_ hF_ hM_
      refine hNor _ _ (bodyPost_0 rfl  ?_ F_ hF_ hM_)
      have e0 : cntSz x = 3 ∧ cnt x = putB 253 1 ++ putB x 2 := by rcases cnt_cases x with ⟨_, a, b⟩ | ⟨_, _, a, b⟩ | ⟨_, _, a, b⟩ | ⟨_, a, b⟩ <;> first | exact ⟨a, b⟩ | (exfalso; omega)
      have HF := H49
      rw [List.append_assoc] at HF
      rw [e0.1, e0.2]
      exact ⟨_, _, rfl, HF⟩
  · skip
    have hb8f := eq_of_beq hb8
    refine G.yes rfl ?_
    refine G.region ?_
    refine GL.run (j := 2) 2 [13, 14] [(13, pt p 0), (14, .int .u64 (x : Int))] (by kernel_rfl) rfl ?_
    refine GL.call (j := 3) (Put1_calls (ids [.blk p [.slice A n c] 53, .row A n c 5 1 (by8 bs)]) p A n c bs x w3 (Hp.startL (A := [.blk p [.slice A n c] 53, .row A n c 5 1 (by8 bs)]) (B := []) H4) (by omega)) (by kernel_rfl) rfl (fun e_ w53 hR => ?_)
    obtain ⟨A51, c52, rfl, H55⟩ := hR
    have H54 : Hp w S [.blk p [.slice A51 (n + 1) c52] 53, .row A51 (n + 1) c52 5 1 (by8 (bs ++ (putB x 1)))] w53 := Hp.callL (A := [.blk p [.slice A n c] 53, .row A n c 5 1 (by8 bs)]) (B := []) H4 H55
    refine ⟨_, rfl, [], [], by kernel_rfl, ?_⟩
    refine GL.done rfl ?_
    intro F_ hF_ hM_
    refine hNor _ _ (bodyPost_0 rfl  ?_ F_ hF_ hM_)
    have e0 : cntSz x = 1 ∧ cnt x = putB x 1 := by rcases cnt_cases x with ⟨_, a, b⟩ | ⟨_, _, a, b⟩ | ⟨_, _, a, b⟩ | ⟨_, a, b⟩ <;> first | exact ⟨a, b⟩ | (exfalso; omega)
    have HF := H54
    rw [e0.1, e0.2]
    exact ⟨_, _, rfl, HF⟩
theorem WRaw_calls (S : List Nat) (p : Nat) (A : Option Addr) (n c : Nat) (bs : List UInt8) (B : Option Addr) (m d : Nat) (ys : List UInt8) (w : World) (h0 : Hp w S [.blk p [.slice A n c] 53, .row A n c 5 1 (by8 bs)] w) (hn : n ≤ 1000000) (hx : RdO w S B (by8 ys)) (hm : m = ys.length) (hmb : m ≤ 100000) : Calls Try.prog 20 #[pt p 0, .slice B m d] w fun e w' => ∃ A c, e = .returned (.tuple #[]) ∧ Hp w S [.blk p [.slice A (n + m) c] 53, .row A (n + m) c 5 1 (by8 (bs ++ ys))] w' := by
  refine calls_G (args := [pt p 0, .slice B m d]) Try.func20 rfl Try.ntmps20 rfl ?_
  intro Q0 hRet hNor hPan
  have H := h0
  have H : Hp w S [.blk p [.slice A n c] 53, .row A n c 5 1 (by8 bs)] w := H
  refine G.seqK fun K1 hK2 => ?_
  refine G.region ?_
  refine GL.run (j := 2) 2 [0, 1, 5] [(0, pt p 0), (1, .slice B m d), (5, .bool true)] (by kernel_rfl) rfl ?_
  refine GL.k rfl hK2 (fun _ _ h => h) ?_
  refine G.yes rfl ?_
  refine G.region ?_
  refine GL.run (j := 4) 4 [1, 6, 9] [(1, .slice B m d), (6, pt p 0), (9, pt p 0)] (by kernel_rfl) rfl ?_
  refine GL.sem (j := 5) (H.ld (o := 0) (ty := 26) (v := .slice A n c) 0 rfl (by kernel_rfl) rfl) [1, 6, 10] [(1, .slice B m d), (6, pt p 0), (10, .slice A n c)] (by kernel_rfl) (by kernel_rfl) rfl ?_
  refine GL.run (j := 6) 1 [6, 10, 11] [(6, pt p 0), (10, .slice A n c), (11, .slice B m d)] (by kernel_rfl) rfl ?_
  obtain ⟨A3, c4, w5, r6, H7⟩ := H.append (P := Try.prog) (e := 5) (sz := 1) (by_ := 1) (n := n) (c := c) (m := m) (d := d) (t := 26) (ty := 26) (xs := by8 bs) (news := by8 ys) 1 rfl (by kernel_rfl) (hx.hp H) (by first | (simp [by8_length]; done) | (rw [by8_length]; omega) | (rw [by8_length, putB_length])) (by8_one _) (by omega) (by simp only [maxLen]; omega)
  rw [← by8_append] at H7
  have H7 : Hp w S [.blk p [.slice A n c] 53, .row A3 (n + m) c4 5 1 (by8 (bs ++ ys))] w5 := H7
  refine GL.sem (j := 7) (r6) [6, 12] [(6, pt p 0), (12, .slice A3 (n + m) c4)] (by kernel_rfl) (by kernel_rfl) rfl ?_
  refine GL.run (j := 9) 2 [12, 14] [(12, .slice A3 (n + m) c4), (14, pt p 0)] (by kernel_rfl) rfl ?_
  obtain ⟨w8, r9, H10⟩ := H7.st (P := Try.prog) (o := 0) (ty := 26) (v := .slice A3 (n + m) c4) 0 rfl (by kernel_rfl) (by simp) rfl
  have H10 : Hp w S [.blk p [.slice A3 (n + m) c4] 53, .row A3 (n + m) c4 5 1 (by8 (bs ++ ys))] w8 := H10
  refine GL.semU (j := 10) r9 [] [] (by kernel_rfl) rfl rfl rfl ?_
  refine GL.done rfl ?_
  intro F_ hF_ hM_
  refine hNor _ _ (bodyPost_0 rfl  ?_ F_ hF_ hM_)
  exact ⟨_, _, rfl, H10⟩
theorem WCounted_calls (S : List Nat) (p : Nat) (A : Option Addr) (n c : Nat) (bs : List UInt8) (B : Option Addr) (m d : Nat) (ys : List UInt8) (w : World) (h0 : Hp w S [.blk p [.slice A n c] 53, .row A n c 5 1 (by8 bs)] w) (hn : n ≤ 800000) (hx : RdO w S B (by8 ys)) (hm : m = ys.length) (hmb : m ≤ 100000) : Calls Try.prog 21 #[pt p 0, .slice B m d] w fun e w' => ∃ A c, e = .returned (.tuple #[]) ∧ Hp w S [.blk p [.slice A (n + (cntSz m + m)) c] 53, .row A (n + (cntSz m + m)) c 5 1 (by8 (bs ++ (cnt m ++ ys)))] w' := by
  refine calls_G (args := [pt p 0, .slice B m d]) Try.func21 rfl Try.ntmps21 rfl ?_
  intro Q0 hRet hNor hPan
  have H := h0
  have H : Hp w S [.blk p [.slice A n c] 53, .row A n c 5 1 (by8 bs)] w := H
  refine G.seqK fun K1 hK2 => ?_
  refine G.region ?_
  refine GL.run (j := 4) 4 [0, 1, 4, 7] [(0, pt p 0), (1, .slice B m d), (4, pt p 0), (7, .int .u64 (IntKind.u64.wrap (m : Int)))] (by kernel_rfl) rfl ?_
  have e3 : (IntKind.u64.wrap (m : Int)) = (m : Int) := in_u64 (by omega)
  refine GL.eq (M' := [(0, pt p 0), (1, .slice B m d), (4, pt p 0), (7, .int .u64 (m : Int))]) (by rw [e3]) ?_
  clear e3
  have hcA4 := cntSz_le m
  refine GL.call (j := 5) (WCount_calls (ids [.blk p [.slice A n c] 53, .row A n c 5 1 (by8 bs)]) p A n c bs m w (Hp.startL (A := [.blk p [.slice A n c] 53, .row A n c 5 1 (by8 bs)]) (B := []) H) (by omega)) (by kernel_rfl) rfl (fun e_ w6 hR => ?_)
  obtain ⟨A4, c5, rfl, H8⟩ := hR
  have H7 : Hp w S [.blk p [.slice A4 (n + cntSz m) c5] 53, .row A4 (n + cntSz m) c5 5 1 (by8 (bs ++ cnt m))] w6 := Hp.callL (A := [.blk p [.slice A n c] 53, .row A n c 5 1 (by8 bs)]) (B := []) H H8
  refine ⟨_, rfl, [0, 1], [(0, pt p 0), (1, .slice B m d)], by kernel_rfl, ?_⟩
  refine GL.k rfl hK2 (fun _ _ h => h) ?_
  refine G.region ?_
  refine GL.run (j := 2) 2 [9, 10] [(9, pt p 0), (10, .slice B m d)] (by kernel_rfl) rfl ?_
  refine GL.call (j := 3) (WRaw_calls (ids [.blk p [.slice A4 (n + cntSz m) c5] 53, .row A4 (n + cntSz m) c5 5 1 (by8 (bs ++ cnt m))]) p A4 (n + cntSz m) c5 (bs ++ cnt m) B m d ys w6 (Hp.startL (A := [.blk p [.slice A4 (n + cntSz m) c5] 53, .row A4 (n + cntSz m) c5 5 1 (by8 (bs ++ cnt m))]) (B := []) H7) (by omega) (RdO.mid (A' := [.blk p [.slice A4 (n + cntSz m) c5] 53, .row A4 (n + cntSz m) c5 5 1 (by8 (bs ++ cnt m))]) (B' := []) hx H7) (by omega) (by omega)) (by kernel_rfl) rfl (fun e_ w11 hR => ?_)
  obtain ⟨A9, c10, rfl, H13⟩ := hR
  have H12 : Hp w S [.blk p [.slice A9 ((n + cntSz m) + m) c10] 53, .row A9 ((n + cntSz m) + m) c10 5 1 (by8 ((bs ++ cnt m) ++ ys))] w11 := Hp.callL (A := [.blk p [.slice A4 (n + cntSz m) c5] 53, .row A4 (n + cntSz m) c5 5 1 (by8 (bs ++ cnt m))]) (B := []) H7 H13
  refine ⟨_, rfl, [], [], by kernel_rfl, ?_⟩
  refine GL.done rfl ?_
  intro F_ hF_ hM_
  refine hNor _ _ (bodyPost_0 rfl  ?_ F_ hF_ hM_)
  have HF := H12
  rw [List.append_assoc, Nat.add_assoc] at HF
  exact ⟨_, _, rfl, HF⟩
end Go.Proofs.Ytkfhcogdpmndkaa
namespace Go.Proofs.Ytkfhcogdpmndkaa
open Go.RowKit
theorem rOK_cases (wr : Bool) (rest : List UInt8) (n : Nat) : (rOK wr rest n = true ∧ wr = false ∧ n ≤ rest.length) ∨ (rOK wr rest n = false ∧ rV wr rest n = [] ∧ rR wr rest n = []) := by
  by_cases h : wr = true ∨ rest.length < n
  · exact .inr (rOK_false h)
  · have hw : wr = false := by cases wr <;> simp_all
    subst hw
    exact .inl ⟨(rOK_true (by omega)).1, rfl, by omega⟩
end Go.Proofs.Ytkfhcogdpmndkaa
namespace Go.Proofs.Ytkfhcogdpmndkaa
open Go.RowKit
section
variable {P : Program} {w0 w w' : World} {S : List Nat} {L A' B' : List Ent}
theorem RdO.blk (H : Hp w0 S (A' ++ B') w) (i : Nat) {b o : Nat} {cs : List Value} {t : TypeId} (n : Nat) {xs : List Value} (hL : B'[i]? = some (.blk b cs t)) (hx : (cs.drop o).take n = xs) : RdO w (ids A') (some ⟨b, o, none⟩) xs := by
  have hb : Blk w b cs t := H.ents _ (List.mem_append_right _ (List.mem_of_getElem? hL))
  have hnd := H.nd
  rw [ids_append] at hnd
  obtain ⟨_, _, n3⟩ := List.nodup_append.1 hnd
  intro W hs hk
  have hb' : Blk W b cs t := hb.same (hk b hb.lt (fun hin => n3 _ hin _ (ids_mem (List.mem_of_getElem? hL) (by simp [Ent.ids])) rfl))
  exact RdS.blk hb' o n hx
theorem Hp.strRange (H : Hp w0 S L w) {t : TypeId} (ht : isStr P t = true) (s : ByteArray) :
    ∃ k w', (Instr.range t (.string s)).run P w = .ok (.pointer (some ⟨k, 0, none⟩)) w' ∧ Hp w0 S (L ++ [.obj k (.stringIter s 0)]) w' := by
  refine ⟨w.heap.size, w.alloc (.stringIter s 0), ?_, H.callNew ⟨rfl, rfl, rfl, by simp, fun k hk _ => heap_alloc_old w _ hk, ?_, ?_, by simp [ids, Ent.ids]⟩⟩
  · simp [Instr.range, run_underlying (isStr_spec ht)]
  · intro x hx
    simp at hx
    subst hx
    exact heap_alloc_new w _
  · intro k hk
    simp [ids, Ent.ids] at hk
    omega
theorem decode_plain {bs : List UInt8} {pos : Nat} {b : UInt8} (hb : bs[pos]? = some b) (h8 : b.toNat < 128) : Utf8.decode (strOf bs) pos = (b.toNat, 1) := by
  have hlt := (List.getElem?_eq_some_iff.1 hb).1
  have e : (strOf bs).get! (pos + 0) = b := by
    rw [Nat.add_zero]
    show (strOf bs).data[pos]! = b
    have : (strOf bs).data = bs.toArray := rfl
    rw [this]
    simp [hb]
  unfold Utf8.decode
  simp only [e]
  rw [if_pos h8]
theorem Hp.strNext (H : Hp w0 S L w) (i : Nat) {k pos : Nat} {bs : List UInt8} {b : UInt8} (hL : L[i]? = some (.obj k (.stringIter (strOf bs) pos))) (hb : bs[pos]? = some b) (h8 : b.toNat < 128) (ty : TypeId) :
    ∃ w', (Instr.next (.pointer (some ⟨k, 0, none⟩)) true ty).run P w = .ok (.tuple #[.bool true, .int .i64 (pos : Int), .int .i32 (b.toNat : Int)]) w' ∧ Hp w0 S (L.set i (.obj k (.stringIter (strOf bs) (pos + 1)))) w' := by
  have ho := H.objAt i hL
  have hlt := (List.getElem?_eq_some_iff.1 hb).1
  refine ⟨w.putObj k (.stringIter (strOf bs) (pos + 1)), ?_, H.putObj i _ hL⟩
  have hsz : (strOf bs).size = bs.length := by simp [strOf, ByteArray.size]
  simp [Instr.next, getObj, setObj, Sem.run, ho, hsz, hlt, decode_plain hb h8, World.putObj, goInt]
theorem Hp.strOver (H : Hp w0 S L w) (i : Nat) {k : Nat} {bs : List UInt8} (hL : L[i]? = some (.obj k (.stringIter (strOf bs) bs.length))) (ty : TypeId) :
    (Instr.next (.pointer (some ⟨k, 0, none⟩)) true ty).run P w = .ok (.tuple #[.bool false]) w := by
  have ho := H.objAt i hL
  have hsz : (strOf bs).size = bs.length := by simp [strOf, ByteArray.size]
  simp [Instr.next, getObj, Sem.run, ho, hsz]
def deepEq (P : Program) (m : Nat) (t : TypeId) : Bool := P.keyTypeAt m t && !(P.eqGuardType P.depth t)
theorem run_deep_eql {m t : Nat} {x y : Operand} (ht : deepEq P m t = true) (hm : m ≤ 10000) {cs ds : List Value} {lc ld : List Lit} (hf : Value.formed P t (.agg cs.toArray) = true) (hg : Value.formed P t (.agg ds.toArray) = true)
    (hc : P.keyLits m t cs = some lc) (hd : P.keyLits m t ds = some ld) (w : World) :
    ∃ r : Bool, (do eqGuard .eql t x y (.agg cs.toArray) (.agg ds.toArray); binOp .eql t (.agg cs.toArray) (.agg ds.toArray) : Sem Value).run P w = .ok (.bool r) w ∧ (r = true ↔ lc = ld) := by
  simp only [deepEq, Bool.and_eq_true, Bool.not_eq_true'] at ht
  obtain ⟨r, h1, h2⟩ := run_equalIn_deep (P := P) (10000 - m) m t ht.1 w m m (.agg cs.toArray) (.agg ds.toArray) lc ld hf hg (by simpa [Value.cells] using hc) (by simpa [Value.cells] using hd)
  refine ⟨r, ?_, h2⟩
  rw [show 10000 - m + m = 10000 by omega] at h1
  simp only [Sem.run_bind, run_eqGuard_agg w .eql t x y _ _ ht.2, Result.andThen_ok, run_eql_struct, h1]
end
theorem i_or {a k : Nat} (hk : k < 7) (ha : a < 2 ^ k) : Go.bits .or .i64 (a : Int) ((2 ^ k : Nat) : Int) = ((a + 2 ^ k : Nat) : Int) := by
  have h : ∀ k : Fin 7, ∀ a : Fin 64, a.val < 2 ^ k.val → Go.bits .or .i64 ((a.val : Nat) : Int) ((2 ^ k.val : Nat) : Int) = ((a.val + 2 ^ k.val : Nat) : Int) := by decide +kernel
  exact h ⟨k, hk⟩ ⟨a, Nat.lt_of_lt_of_le ha (Nat.le_trans (Nat.pow_le_pow_right (by decide) (show k ≤ 6 by omega)) (by decide))⟩ ha
theorem i_andbit {a k : Nat} (hk : k < 7) (ha : a < 128) : Go.bits .and .i64 (a : Int) ((2 ^ k : Nat) : Int) = ((a / 2 ^ k % 2 * 2 ^ k : Nat) : Int) := by
  have h : ∀ k : Fin 7, ∀ a : Fin 128, Go.bits .and .i64 ((a.val : Nat) : Int) ((2 ^ k.val : Nat) : Int) = ((a.val / 2 ^ k.val % 2 * 2 ^ k.val : Nat) : Int) := by decide +kernel
  exact h ⟨k, hk⟩ ⟨a, ha⟩
theorem i_and1 {a : Nat} (ha : a < 128) : Go.bits .and .i64 (a : Int) 1 = ((a % 2 : Nat) : Int) := by
  have h : ∀ a : Fin 128, Go.bits .and .i64 ((a.val : Nat) : Int) 1 = ((a.val % 2 : Nat) : Int) := by decide +kernel
  exact h ⟨a, ha⟩
def lacks (a b : Nat) : Nat := (Go.bits .andNot .i64 (a : Int) (b : Int)).toNat
theorem i_andnot {a b : Nat} (ha : a < 128) (hb : b < 128) : Go.bits .andNot .i64 (a : Int) (b : Int) = ((lacks a b : Nat) : Int) := by
  have h : ∀ a : Fin 128, ∀ b : Fin 128, 0 ≤ Go.bits .andNot .i64 ((a.val : Nat) : Int) ((b.val : Nat) : Int) := by decide +kernel
  have := h ⟨a, ha⟩ ⟨b, hb⟩
  unfold lacks
  simp only at this
  omega
theorem lacks_zero {a b : Nat} (ha : a < 128) (hb : b < 128) : lacks a b = 0 ↔ ∀ k, k < 7 → a / 2 ^ k % 2 = 1 → b / 2 ^ k % 2 = 1 := by
  have h : ∀ a : Fin 128, ∀ b : Fin 128, (lacks a.val b.val = 0) = decide (∀ k : Fin 7, a.val / 2 ^ k.val % 2 = 1 → b.val / 2 ^ k.val % 2 = 1) := by decide +kernel
  have h2 := h ⟨a, ha⟩ ⟨b, hb⟩
  simp only at h2
  rw [h2, decide_eq_true_eq]
  exact ⟨fun h k hk => h ⟨k, hk⟩, fun h k => h k.val k.isLt⟩
theorem u8wf (b : UInt8) : (Lit.int .u8 (b.toNat : Int)).wf = true := by
  have := b.toNat_lt
  simp [Lit.wf, IntKind.min, IntKind.max, IntKind.signed, IntKind.bits]
  omega
theorem u64wf {n : Nat} (h : n < 18446744073709551616) : (Lit.int .u64 (n : Int)).wf = true := by
  simp [Lit.wf, IntKind.min, IntKind.max, IntKind.signed, IntKind.bits]
  omega
theorem lits_u8 {P : Program} {d t : Nat} (ht : P.underlying t = some (.int .u8)) (b : UInt8) : P.keyLits (d + 1) t [.int .u8 (b.toNat : Int)] = some [.int .u8 (b.toNat : Int)] := by
  simp [Program.keyLits, ht, u8wf b]
theorem lits_u64 {P : Program} {d t n : Nat} (ht : P.underlying t = some (.int .u64)) (h : n < 18446744073709551616) : P.keyLits (d + 1) t [.int .u64 (n : Int)] = some [.int .u64 (n : Int)] := by
  simp [Program.keyLits, ht, u64wf h]
theorem lits_bool {P : Program} {d t : Nat} (ht : P.underlying t = some .bool) (b : Bool) : P.keyLits (d + 1) t [.bool b] = some [.bool b] := by
  simp [Program.keyLits, ht]
theorem lits_str {P : Program} {d t : Nat} (ht : P.underlying t = some .string) {s : ByteArray} (h : s.size ≤ maxLen) : P.keyLits (d + 1) t [.string s] = some [.string s.data.toList] := by
  simp [Program.keyLits, ht, h]
theorem mapM_some {α β : Type} (f : α → Option β) (g : α → β) : ∀ (l : List α), (∀ x ∈ l, f x = some (g x)) → l.mapM f = some (l.map g)
  | [], _ => rfl
  | x :: r, h => by
    rw [List.mapM_cons, h x (by simp), mapM_some f g r (fun y hy => h y (by simp [hy]))]
    rfl
theorem flat_one {α β : Type} (f : α → β) (l : List α) : (l.map fun x => [f x]).flatten = l.map f := by
  induction l with
  | nil => rfl
  | cons x r ih => simp [ih]
theorem keyLits_arr {P : Program} {d t n e : Nat} {cs : List Value} (ht : P.underlying t = some (.array n e)) : P.keyLits (d + 1) t cs = if cs.length = P.cellsOf t then ((List.range n).mapM fun i => P.keyLits d e ((cs.drop (i * P.cellsOf e)).take (P.cellsOf e))).map List.flatten else none := by
  conv => lhs; unfold Program.keyLits
  simp only [ht]
theorem keyLits_struct {P : Program} {d t : Nat} {fs : Array Field} {cs : List Value} (ht : P.underlying t = some (.struct fs)) : P.keyLits (d + 1) t cs = if cs.length = P.cellsOf t ∧ fs.all (·.name != "_") = true then (fs.toList.mapM fun f => P.keyLits d f.type ((cs.drop f.offset).take (P.cellsOf f.type))).map List.flatten else none := by
  conv => lhs; unfold Program.keyLits
  simp only [ht]
theorem lits_u8s {P : Program} {d t e n : Nat} (ht : P.underlying t = some (.array n e)) (he : P.underlying e = some (.int .u8)) (hc : P.cellsOf e = 1) (hn : P.cellsOf t = n) (ad : Nat → UInt8) :
    P.keyLits (d + 2) t ((List.range n).map fun i => .int .u8 ((ad i).toNat : Int)) = some ((List.range n).map fun i => Lit.int .u8 ((ad i).toNat : Int)) := by
  rw [keyLits_arr ht, if_pos (by simp [hn]), mapM_some _ (fun i => [Lit.int .u8 ((ad i).toNat : Int)])]
  · rw [Option.map_some, flat_one]
  · intro i hi
    have hi' : i < n := by simpa using hi
    rw [hc, Nat.mul_one]
    have : (((List.range n).map fun i => Value.int .u8 ((ad i).toNat : Int)).drop i).take 1 = [.int .u8 ((ad i).toNat : Int)] := by
      rw [List.drop_eq_getElem_cons (by simpa using hi')]
      simp
    rw [this]
    exact lits_u8 he _
end Go.Proofs.Ytkfhcogdpmndkaa
namespace Go.Proofs.Ytkfhcogdpmndkaa
open Go.RowKit
section
variable {P : Program} {n : Nat} {M : FM} {w : World}
theorem G.seqJ {a b : Code} {Q : Exit → Act → World → Prop} {X : Type} (Mx : X → FM) (J : X → World → Prop)
    (h : (∀ x w', J x w' → G P b Q n (Mx x) w') → ∀ K : Act → World → Prop, (∀ a w, b.wp P Q a w → K a w) → G P a (Exit.then K Q) n M w)
    (hb : ∀ x w', J x w' → G P b Q n (Mx x) w') : G P (.seq a b) Q n M w := G.seqK fun K hK => h hb K hK
end
end Go.Proofs.Ytkfhcogdpmndkaa
namespace Go.Proofs.Ytkfhcogdpmndkaa
open Go.RowKit
def fmL : List Nat := [0, 4, 4, 5, 5, 7, 21, 5, 5, 64, 7, 72, 8, 23, 72, 41, 5, 9, 72, 9, 1, 65, 5]
def fm (op : Nat) : Nat := fmL.getD op 0
theorem fm_out {op : Nat} (h : 23 ≤ op) : fm op = 0 := by
  unfold fm
  rw [List.getD_eq_getElem?_getD, List.getElem?_eq_none (by show fmL.length ≤ op; exact h)]
  rfl
theorem fm_lt (op : Nat) : fm op < 128 := by
  by_cases h : op < 23
  · have : ∀ k : Fin 23, fm k.val < 128 := by decide
    exact this ⟨op, h⟩
  · rw [fm_out (by omega)]
    decide
def fld (op k : Nat) (x : List UInt8) : List UInt8 := if fm op / 2 ^ k % 2 = 1 then x else []
def adSet (ad : Nat → UInt8) : Bool := !(decide ((List.range 20).map ad = List.replicate 20 0))
def bit1 (b : Bool) (k : Nat) : Nat := if b = true then 2 ^ k else 0
def setM (b0 b1 b2 b3 b4 b5 b6 : Bool) : Nat := 0 + bit1 b0 0 + bit1 b1 1 + bit1 b2 2 + bit1 b3 3 + bit1 b4 4 + bit1 b5 5 + bit1 b6 6
theorem setM_lt (b0 b1 b2 b3 b4 b5 b6 : Bool) : setM b0 b1 b2 b3 b4 b5 b6 < 128 := by
  cases b0 <;> cases b1 <;> cases b2 <;> cases b3 <;> cases b4 <;> cases b5 <;> cases b6 <;> decide
theorem setM_bits (b0 b1 b2 b3 b4 b5 b6 : Bool) : (setM b0 b1 b2 b3 b4 b5 b6 / 2 ^ 0 % 2 = 1 ↔ b0 = true) ∧ (setM b0 b1 b2 b3 b4 b5 b6 / 2 ^ 1 % 2 = 1 ↔ b1 = true) ∧ (setM b0 b1 b2 b3 b4 b5 b6 / 2 ^ 2 % 2 = 1 ↔ b2 = true) ∧ (setM b0 b1 b2 b3 b4 b5 b6 / 2 ^ 3 % 2 = 1 ↔ b3 = true) ∧ (setM b0 b1 b2 b3 b4 b5 b6 / 2 ^ 4 % 2 = 1 ↔ b4 = true) ∧ (setM b0 b1 b2 b3 b4 b5 b6 / 2 ^ 5 % 2 = 1 ↔ b5 = true) ∧ (setM b0 b1 b2 b3 b4 b5 b6 / 2 ^ 6 % 2 = 1 ↔ b6 = true) := by
  cases b0 <;> cases b1 <;> cases b2 <;> cases b3 <;> cases b4 <;> cases b5 <;> cases b6 <;> decide
theorem adInts (ad : Nat → UInt8) : (([((ad 0).toNat : Int), ((ad 1).toNat : Int), ((ad 2).toNat : Int), ((ad 3).toNat : Int), ((ad 4).toNat : Int), ((ad 5).toNat : Int), ((ad 6).toNat : Int), ((ad 7).toNat : Int), ((ad 8).toNat : Int), ((ad 9).toNat : Int), ((ad 10).toNat : Int), ((ad 11).toNat : Int), ((ad 12).toNat : Int), ((ad 13).toNat : Int), ((ad 14).toNat : Int), ((ad 15).toNat : Int), ((ad 16).toNat : Int), ((ad 17).toNat : Int), ((ad 18).toNat : Int), ((ad 19).toNat : Int)] : List Int) = [0, 0, 0, 0, 0, 0, 0, 0, 0, 0, 0, 0, 0, 0, 0, 0, 0, 0, 0, 0]) ↔ (List.range 20).map ad = List.replicate 20 0 := by
  have e1 : ([((ad 0).toNat : Int), ((ad 1).toNat : Int), ((ad 2).toNat : Int), ((ad 3).toNat : Int), ((ad 4).toNat : Int), ((ad 5).toNat : Int), ((ad 6).toNat : Int), ((ad 7).toNat : Int), ((ad 8).toNat : Int), ((ad 9).toNat : Int), ((ad 10).toNat : Int), ((ad 11).toNat : Int), ((ad 12).toNat : Int), ((ad 13).toNat : Int), ((ad 14).toNat : Int), ((ad 15).toNat : Int), ((ad 16).toNat : Int), ((ad 17).toNat : Int), ((ad 18).toNat : Int), ((ad 19).toNat : Int)] : List Int) = ((List.range 20).map ad).map (fun b : UInt8 => (b.toNat : Int)) := rfl
  have e2 : ([0, 0, 0, 0, 0, 0, 0, 0, 0, 0, 0, 0, 0, 0, 0, 0, 0, 0, 0, 0] : List Int) = (List.replicate 20 (0 : UInt8)).map (fun b : UInt8 => (b.toNat : Int)) := rfl
  rw [e1, e2]
  exact List.map_inj_right (fun x y h => UInt8.toNat_inj.1 (by omega))
def cmdM (w t : UInt8) (am id : Nat) (ad : Nat → UInt8) (ag : Bool) (bd : List UInt8) : Nat := setM (decide (0 < w.toNat)) (decide (0 < t.toNat)) (decide (0 < am)) (decide (0 < id)) (adSet ad) ag (decide (0 < bd.length))
def cmdE (o w t : UInt8) (am id : Nat) (ad : Nat → UInt8) (ag : Bool) (bd : List UInt8) : Nat := if fm o.toNat = 0 ∨ lacks (cmdM w t am id ad ag bd) (fm o.toNat) ≠ 0 then 1 else if 8192 < bd.length then 3 else 0
def cmdB (o w t : UInt8) (am id : Nat) (ad : Nat → UInt8) (ag : Bool) (bd : List UInt8) : List UInt8 :=
  putB o.toNat 1 ++ (fld o.toNat 0 (putB w.toNat 1) ++ (fld o.toNat 1 (putB t.toNat 1) ++ (fld o.toNat 2 (putB am 8) ++ (fld o.toNat 3 (putB id 8) ++ (fld o.toNat 4 ((List.range 20).map ad) ++ (fld o.toNat 5 (putB (if ag = true then 1 else 0) 1) ++ fld o.toNat 6 (cnt bd.length ++ bd)))))))
def cmdO (o w t : UInt8) (am id : Nat) (ad : Nat → UInt8) (ag : Bool) (bd : List UInt8) : List UInt8 := if cmdE o w t am id ad ag bd = 0 then cmdB o w t am id ad ag bd else []
theorem fields_calls (b : UInt8) (w : World) : Calls Try.prog 17 #[.int .u8 (b.toNat : Int)] w fun e w' => e = .returned (.int .i64 ((fm b.toNat : Nat) : Int)) ∧ Hp w [] [] w' := by
  refine calls_G (args := [.int .u8 (b.toNat : Int)]) Try.func17 rfl Try.ntmps17 rfl ?_
  intro Q0 hRet hNor hPan
  have H := Hp.start w
  have H : Hp w [] [] w := H
  refine G.seqK fun K1 hK2 => ?_
  refine G.region ?_
  refine GL.run (j := 1) 1 [0] [(0, .int .u8 (b.toNat : Int))] (by kernel_rfl) rfl ?_
  refine GL.k rfl hK2 (fun _ _ h => h) ?_
  refine G.seqK fun K3 hK4 => ?_
  refine G.seqK fun K5 hK6 => ?_
  refine G.region ?_
  refine GL.run (j := 1) 1 [3] [(3, .int .u8 (b.toNat : Int))] (by kernel_rfl) rfl ?_
  refine GL.k rfl hK6 (fun _ _ h => h) ?_
  refine G.block ?_
  refine G.seqK fun K7 hK8 => ?_
  refine G.seqK fun K9 hK10 => ?_
  refine G.region ?_
  refine GL.run (j := 2) 2 [3, 4] [(3, .int .u8 (b.toNat : Int)), (4, .bool ((b.toNat : Int) == 1))] (by kernel_rfl) rfl ?_
  refine GL.k rfl hK10 (fun _ _ h => h) ?_
  cases hb11 : ((b.toNat : Int) == 1)
  · skip
    have hb11f := ne_of_beq_false hb11
    refine G.no rfl ?_
    refine G.region ?_
    refine GL.run (j := 2) 2 [3, 4] [(3, .int .u8 (b.toNat : Int)), (4, .bool ((b.toNat : Int) == 2))] (by kernel_rfl) rfl ?_
    refine GL.k rfl hK8 (fun _ _ h => h) ?_
    cases hb12 : ((b.toNat : Int) == 2)
    · skip
      have hb12f := ne_of_beq_false hb12
      refine G.no rfl ?_
      refine G.seqK fun K13 hK14 => ?_
      refine G.seqK fun K15 hK16 => ?_
      refine G.region ?_
      refine GL.run (j := 2) 2 [3, 7] [(3, .int .u8 (b.toNat : Int)), (7, .bool ((b.toNat : Int) == 3))] (by kernel_rfl) rfl ?_
      refine GL.k rfl hK16 (fun _ _ h => h) ?_
      cases hb17 : ((b.toNat : Int) == 3)
      · skip
        have hb17f := ne_of_beq_false hb17
        refine G.no rfl ?_
        refine G.seqK fun K18 hK19 => ?_
        refine G.region ?_
        refine GL.run (j := 2) 2 [3, 7] [(3, .int .u8 (b.toNat : Int)), (7, .bool ((b.toNat : Int) == 4))] (by kernel_rfl) rfl ?_
        refine GL.k rfl hK19 (fun _ _ h => h) ?_
        cases hb20 : ((b.toNat : Int) == 4)
        · skip
          have hb20f := ne_of_beq_false hb20
          refine G.no rfl ?_
          refine G.seqK fun K21 hK22 => ?_
          refine G.region ?_
          refine GL.run (j := 2) 2 [3, 7] [(3, .int .u8 (b.toNat : Int)), (7, .bool ((b.toNat : Int) == 7))] (by kernel_rfl) rfl ?_
          refine GL.k rfl hK22 (fun _ _ h => h) ?_
          cases hb23 : ((b.toNat : Int) == 7)
          · skip
            have hb23f := ne_of_beq_false hb23
            refine G.no rfl ?_
            refine G.seqK fun K24 hK25 => ?_
            refine G.region ?_
            refine GL.run (j := 2) 2 [3, 7] [(3, .int .u8 (b.toNat : Int)), (7, .bool ((b.toNat : Int) == 8))] (by kernel_rfl) rfl ?_
            refine GL.k rfl hK25 (fun _ _ h => h) ?_
            cases hb26 : ((b.toNat : Int) == 8)
            · skip
              have hb26f := ne_of_beq_false hb26
              refine G.no rfl ?_
              refine G.seqK fun K27 hK28 => ?_
              refine G.region ?_
              refine GL.run (j := 2) 2 [3, 7] [(3, .int .u8 (b.toNat : Int)), (7, .bool ((b.toNat : Int) == 16))] (by kernel_rfl) rfl ?_
              refine GL.k rfl hK28 (fun _ _ h => h) ?_
              cases hb29 : ((b.toNat : Int) == 16)
              · skip
                have hb29f := ne_of_beq_false hb29
                refine G.no rfl ?_
                refine G.region ?_
                refine GL.run (j := 2) 2 [3, 7] [(3, .int .u8 (b.toNat : Int)), (7, .bool ((b.toNat : Int) == 22))] (by kernel_rfl) rfl ?_
                refine GL.k rfl hK14 (fun _ _ h => h) ?_
                cases hb30 : ((b.toNat : Int) == 22)
                · skip
                  have hb30f := ne_of_beq_false hb30
                  refine G.no rfl ?_
                  refine G.seqK fun K31 hK32 => ?_
                  refine G.seqK fun K33 hK34 => ?_
                  refine G.region ?_
                  refine GL.run (j := 2) 2 [3, 14] [(3, .int .u8 (b.toNat : Int)), (14, .bool ((b.toNat : Int) == 5))] (by kernel_rfl) rfl ?_
                  refine GL.k rfl hK34 (fun _ _ h => h) ?_
                  cases hb35 : ((b.toNat : Int) == 5)
                  · skip
                    have hb35f := ne_of_beq_false hb35
                    refine G.no rfl ?_
                    refine G.region ?_
                    refine GL.run (j := 2) 2 [3, 14] [(3, .int .u8 (b.toNat : Int)), (14, .bool ((b.toNat : Int) == 10))] (by kernel_rfl) rfl ?_
                    refine GL.k rfl hK32 (fun _ _ h => h) ?_
                    cases hb36 : ((b.toNat : Int) == 10)
                    · skip
                      have hb36f := ne_of_beq_false hb36
                      refine G.no rfl ?_
                      refine G.seqK fun K37 hK38 => ?_
                      refine G.region ?_
                      refine GL.run (j := 2) 2 [3, 17] [(3, .int .u8 (b.toNat : Int)), (17, .bool ((b.toNat : Int) == 6))] (by kernel_rfl) rfl ?_
                      refine GL.k rfl hK38 (fun _ _ h => h) ?_
                      cases hb39 : ((b.toNat : Int) == 6)
                      · skip
                        have hb39f := ne_of_beq_false hb39
                        refine G.no rfl ?_
                        refine G.seqK fun K40 hK41 => ?_
                        refine G.region ?_
                        refine GL.run (j := 2) 2 [3, 19] [(3, .int .u8 (b.toNat : Int)), (19, .bool ((b.toNat : Int) == 9))] (by kernel_rfl) rfl ?_
                        refine GL.k rfl hK41 (fun _ _ h => h) ?_
                        cases hb42 : ((b.toNat : Int) == 9)
                        · skip
                          have hb42f := ne_of_beq_false hb42
                          refine G.no rfl ?_
                          refine G.seqK fun K43 hK44 => ?_
                          refine G.seqK fun K45 hK46 => ?_
                          refine G.region ?_
                          refine GL.run (j := 2) 2 [3, 21] [(3, .int .u8 (b.toNat : Int)), (21, .bool ((b.toNat : Int) == 11))] (by kernel_rfl) rfl ?_
                          refine GL.k rfl hK46 (fun _ _ h => h) ?_
                          cases hb47 : ((b.toNat : Int) == 11)
                          · skip
                            have hb47f := ne_of_beq_false hb47
                            refine G.no rfl ?_
                            refine G.seqK fun K48 hK49 => ?_
                            refine G.region ?_
                            refine GL.run (j := 2) 2 [3, 21] [(3, .int .u8 (b.toNat : Int)), (21, .bool ((b.toNat : Int) == 14))] (by kernel_rfl) rfl ?_
                            refine GL.k rfl hK49 (fun _ _ h => h) ?_
                            cases hb50 : ((b.toNat : Int) == 14)
                            · skip
                              have hb50f := ne_of_beq_false hb50
                              refine G.no rfl ?_
                              refine G.region ?_
                              refine GL.run (j := 2) 2 [3, 21] [(3, .int .u8 (b.toNat : Int)), (21, .bool ((b.toNat : Int) == 18))] (by kernel_rfl) rfl ?_
                              refine GL.k rfl hK44 (fun _ _ h => h) ?_
                              cases hb51 : ((b.toNat : Int) == 18)
                              · skip
                                have hb51f := ne_of_beq_false hb51
                                refine G.no rfl ?_
                                refine G.seqK fun K52 hK53 => ?_
                                refine G.region ?_
                                refine GL.run (j := 2) 2 [3, 25] [(3, .int .u8 (b.toNat : Int)), (25, .bool ((b.toNat : Int) == 12))] (by kernel_rfl) rfl ?_
                                refine GL.k rfl hK53 (fun _ _ h => h) ?_
                                cases hb54 : ((b.toNat : Int) == 12)
                                · skip
                                  have hb54f := ne_of_beq_false hb54
                                  refine G.no rfl ?_
                                  refine G.seqK fun K55 hK56 => ?_
                                  refine G.region ?_
                                  refine GL.run (j := 2) 2 [3, 27] [(3, .int .u8 (b.toNat : Int)), (27, .bool ((b.toNat : Int) == 13))] (by kernel_rfl) rfl ?_
                                  refine GL.k rfl hK56 (fun _ _ h => h) ?_
                                  cases hb57 : ((b.toNat : Int) == 13)
                                  · skip
                                    have hb57f := ne_of_beq_false hb57
                                    refine G.no rfl ?_
                                    refine G.seqK fun K58 hK59 => ?_
                                    refine G.region ?_
                                    refine GL.run (j := 2) 2 [3, 29] [(3, .int .u8 (b.toNat : Int)), (29, .bool ((b.toNat : Int) == 15))] (by kernel_rfl) rfl ?_
                                    refine GL.k rfl hK59 (fun _ _ h => h) ?_
                                    cases hb60 : ((b.toNat : Int) == 15)
                                    · skip
                                      have hb60f := ne_of_beq_false hb60
                                      refine G.no rfl ?_
                                      refine G.seqK fun K61 hK62 => ?_
                                      refine G.seqK fun K63 hK64 => ?_
                                      refine G.region ?_
                                      refine GL.run (j := 2) 2 [3, 31] [(3, .int .u8 (b.toNat : Int)), (31, .bool ((b.toNat : Int) == 17))] (by kernel_rfl) rfl ?_
                                      refine GL.k rfl hK64 (fun _ _ h => h) ?_
                                      cases hb65 : ((b.toNat : Int) == 17)
                                      · skip
                                        have hb65f := ne_of_beq_false hb65
                                        refine G.no rfl ?_
                                        refine G.region ?_
                                        refine GL.run (j := 2) 2 [3, 31] [(3, .int .u8 (b.toNat : Int)), (31, .bool ((b.toNat : Int) == 19))] (by kernel_rfl) rfl ?_
                                        refine GL.k rfl hK62 (fun _ _ h => h) ?_
                                        cases hb66 : ((b.toNat : Int) == 19)
                                        · skip
                                          have hb66f := ne_of_beq_false hb66
                                          refine G.no rfl ?_
                                          refine G.seqK fun K67 hK68 => ?_
                                          refine G.region ?_
                                          refine GL.run (j := 2) 2 [3, 34] [(3, .int .u8 (b.toNat : Int)), (34, .bool ((b.toNat : Int) == 20))] (by kernel_rfl) rfl ?_
                                          refine GL.k rfl hK68 (fun _ _ h => h) ?_
                                          cases hb69 : ((b.toNat : Int) == 20)
                                          · skip
                                            have hb69f := ne_of_beq_false hb69
                                            refine G.no rfl ?_
                                            refine G.seqK fun K70 hK71 => ?_
                                            refine G.region ?_
                                            refine GL.run (j := 2) 2 [36] [(36, .bool ((b.toNat : Int) == 21))] (by kernel_rfl) rfl ?_
                                            refine GL.k rfl hK71 (fun _ _ h => h) ?_
                                            cases hb72 : ((b.toNat : Int) == 21)
                                            · skip
                                              have hb72f := ne_of_beq_false hb72
                                              refine G.no rfl ?_
                                              refine G.skipK hK4 (fun _ _ h => h) ?_
                                              refine G.seqK fun K73 hK74 => ?_
                                              refine G.region ?_
                                              refine GL.run (j := 1) 1 [2] [(2, .int .i64 0)] (by kernel_rfl) rfl ?_
                                              refine GL.k rfl hK74 (fun _ _ h => h) ?_
                                              refine G.ret ?_
                                              intro F_ hF_ hM_
                                              refine hRet _ _ (bodyPost_1 rfl (RV.tmp rfl) ?_ F_ hF_ hM_)
                                              have hb := b.toNat_lt
                                              have e0 : fm b.toNat = 0 := by
                                                by_cases h : 23 ≤ b.toNat
                                                · exact fm_out h
                                                · rw [show b.toNat = 0 by omega]; rfl
                                              rw [e0]
                                              exact ⟨rfl, H.sub (List.nil_sublist _)⟩
                                            · skip
                                              have hb72f := eq_of_beq hb72
                                              refine G.yes rfl ?_
                                              refine G.seqK fun K75 hK76 => ?_
                                              refine G.region ?_
                                              refine GL.run (j := 1) 1 [2] [(2, .int .i64 65)] (by kernel_rfl) rfl ?_
                                              refine GL.k rfl hK76 (fun _ _ h => h) ?_
                                              refine G.ret ?_
                                              intro F_ hF_ hM_
                                              refine hRet _ _ (bodyPost_1 rfl (RV.tmp rfl) ?_ F_ hF_ hM_)
                                              have e0 : b.toNat = 21 := by omega
                                              rw [e0]
                                              exact ⟨rfl, H.sub (List.nil_sublist _)⟩
                                          · skip
                                            have hb69f := eq_of_beq hb69
                                            refine G.yes rfl ?_
                                            refine G.seqK fun K77 hK78 => ?_
                                            refine G.region ?_
                                            refine GL.run (j := 1) 1 [2] [(2, .int .i64 1)] (by kernel_rfl) rfl ?_
                                            refine GL.k rfl hK78 (fun _ _ h => h) ?_
                                            refine G.ret ?_
                                            intro F_ hF_ hM_
                                            refine hRet _ _ (bodyPost_1 rfl (RV.tmp rfl) ?_ F_ hF_ hM_)
                                            have e0 : b.toNat = 20 := by omega
                                            rw [e0]
                                            exact ⟨rfl, H.sub (List.nil_sublist _)⟩
                                        · skip
                                          have hb66f := eq_of_beq hb66
                                          refine G.yes rfl ?_
                                          refine G.seqK fun K79 hK80 => ?_
                                          refine G.region ?_
                                          refine GL.run (j := 1) 1 [2] [(2, .int .i64 9)] (by kernel_rfl) rfl ?_
                                          refine GL.k rfl hK80 (fun _ _ h => h) ?_
                                          refine G.ret ?_
                                          intro F_ hF_ hM_
                                          refine hRet _ _ (bodyPost_1 rfl (RV.tmp rfl) ?_ F_ hF_ hM_)
                                          have e0 : b.toNat = 19 := by omega
                                          rw [e0]
                                          exact ⟨rfl, H.sub (List.nil_sublist _)⟩
                                      · skip
                                        have hb65f := eq_of_beq hb65
                                        refine G.yes rfl ?_
                                        refine G.skipK hK62 (fun _ _ h => h) ?_
                                        refine G.yes rfl ?_
                                        refine G.seqK fun K81 hK82 => ?_
                                        refine G.region ?_
                                        refine GL.run (j := 1) 1 [2] [(2, .int .i64 9)] (by kernel_rfl) rfl ?_
                                        refine GL.k rfl hK82 (fun _ _ h => h) ?_
                                        refine G.ret ?_
                                        intro F_ hF_ hM_
                                        refine hRet _ _ (bodyPost_1 rfl (RV.tmp rfl) ?_ F_ hF_ hM_)
                                        have e0 : b.toNat = 17 := by omega
                                        rw [e0]
                                        exact ⟨rfl, H.sub (List.nil_sublist _)⟩
                                    · skip
                                      have hb60f := eq_of_beq hb60
                                      refine G.yes rfl ?_
                                      refine G.seqK fun K83 hK84 => ?_
                                      refine G.region ?_
                                      refine GL.run (j := 1) 1 [2] [(2, .int .i64 41)] (by kernel_rfl) rfl ?_
                                      refine GL.k rfl hK84 (fun _ _ h => h) ?_
                                      refine G.ret ?_
                                      intro F_ hF_ hM_
                                      refine hRet _ _ (bodyPost_1 rfl (RV.tmp rfl) ?_ F_ hF_ hM_)
                                      have e0 : b.toNat = 15 := by omega
                                      rw [e0]
                                      exact ⟨rfl, H.sub (List.nil_sublist _)⟩
                                  · skip
                                    have hb57f := eq_of_beq hb57
                                    refine G.yes rfl ?_
                                    refine G.seqK fun K85 hK86 => ?_
                                    refine G.region ?_
                                    refine GL.run (j := 1) 1 [2] [(2, .int .i64 23)] (by kernel_rfl) rfl ?_
                                    refine GL.k rfl hK86 (fun _ _ h => h) ?_
                                    refine G.ret ?_
                                    intro F_ hF_ hM_
                                    refine hRet _ _ (bodyPost_1 rfl (RV.tmp rfl) ?_ F_ hF_ hM_)
                                    have e0 : b.toNat = 13 := by omega
                                    rw [e0]
                                    exact ⟨rfl, H.sub (List.nil_sublist _)⟩
                                · skip
                                  have hb54f := eq_of_beq hb54
                                  refine G.yes rfl ?_
                                  refine G.seqK fun K87 hK88 => ?_
                                  refine G.region ?_
                                  refine GL.run (j := 1) 1 [2] [(2, .int .i64 8)] (by kernel_rfl) rfl ?_
                                  refine GL.k rfl hK88 (fun _ _ h => h) ?_
                                  refine G.ret ?_
                                  intro F_ hF_ hM_
                                  refine hRet _ _ (bodyPost_1 rfl (RV.tmp rfl) ?_ F_ hF_ hM_)
                                  have e0 : b.toNat = 12 := by omega
                                  rw [e0]
                                  exact ⟨rfl, H.sub (List.nil_sublist _)⟩
                              · skip
                                have hb51f := eq_of_beq hb51
                                refine G.yes rfl ?_
                                refine G.seqK fun K89 hK90 => ?_
                                refine G.region ?_
                                refine GL.run (j := 1) 1 [2] [(2, .int .i64 72)] (by kernel_rfl) rfl ?_
                                refine GL.k rfl hK90 (fun _ _ h => h) ?_
                                refine G.ret ?_
                                intro F_ hF_ hM_
                                refine hRet _ _ (bodyPost_1 rfl (RV.tmp rfl) ?_ F_ hF_ hM_)
                                have e0 : b.toNat = 18 := by omega
                                rw [e0]
                                exact ⟨rfl, H.sub (List.nil_sublist _)⟩
                            · skip
                              have hb50f := eq_of_beq hb50
                              refine G.yes rfl ?_
                              refine G.skipK hK44 (fun _ _ h => h) ?_
                              refine G.yes rfl ?_
                              refine G.seqK fun K91 hK92 => ?_
                              refine G.region ?_
                              refine GL.run (j := 1) 1 [2] [(2, .int .i64 72)] (by kernel_rfl) rfl ?_
                              refine GL.k rfl hK92 (fun _ _ h => h) ?_
                              refine G.ret ?_
                              intro F_ hF_ hM_
                              refine hRet _ _ (bodyPost_1 rfl (RV.tmp rfl) ?_ F_ hF_ hM_)
                              have e0 : b.toNat = 14 := by omega
                              rw [e0]
                              exact ⟨rfl, H.sub (List.nil_sublist _)⟩
                          · skip
                            have hb47f := eq_of_beq hb47
                            refine G.yes rfl ?_
                            refine G.skipK hK44 (fun _ _ h => h) ?_
                            refine G.yes rfl ?_
                            refine G.seqK fun K93 hK94 => ?_
                            refine G.region ?_
                            refine GL.run (j := 1) 1 [2] [(2, .int .i64 72)] (by kernel_rfl) rfl ?_
                            refine GL.k rfl hK94 (fun _ _ h => h) ?_
                            refine G.ret ?_
                            intro F_ hF_ hM_
                            refine hRet _ _ (bodyPost_1 rfl (RV.tmp rfl) ?_ F_ hF_ hM_)
                            have e0 : b.toNat = 11 := by omega
                            rw [e0]
                            exact ⟨rfl, H.sub (List.nil_sublist _)⟩
                        · skip
                          have hb42f := eq_of_beq hb42
                          refine G.yes rfl ?_
                          refine G.seqK fun K95 hK96 => ?_
                          refine G.region ?_
                          refine GL.run (j := 1) 1 [2] [(2, .int .i64 64)] (by kernel_rfl) rfl ?_
                          refine GL.k rfl hK96 (fun _ _ h => h) ?_
                          refine G.ret ?_
                          intro F_ hF_ hM_
                          refine hRet _ _ (bodyPost_1 rfl (RV.tmp rfl) ?_ F_ hF_ hM_)
                          have e0 : b.toNat = 9 := by omega
                          rw [e0]
                          exact ⟨rfl, H.sub (List.nil_sublist _)⟩
                      · skip
                        have hb39f := eq_of_beq hb39
                        refine G.yes rfl ?_
                        refine G.seqK fun K97 hK98 => ?_
                        refine G.region ?_
                        refine GL.run (j := 1) 1 [2] [(2, .int .i64 21)] (by kernel_rfl) rfl ?_
                        refine GL.k rfl hK98 (fun _ _ h => h) ?_
                        refine G.ret ?_
                        intro F_ hF_ hM_
                        refine hRet _ _ (bodyPost_1 rfl (RV.tmp rfl) ?_ F_ hF_ hM_)
                        have e0 : b.toNat = 6 := by omega
                        rw [e0]
                        exact ⟨rfl, H.sub (List.nil_sublist _)⟩
                    · skip
                      have hb36f := eq_of_beq hb36
                      refine G.yes rfl ?_
                      refine G.seqK fun K99 hK100 => ?_
                      refine G.region ?_
                      refine GL.run (j := 1) 1 [2] [(2, .int .i64 7)] (by kernel_rfl) rfl ?_
                      refine GL.k rfl hK100 (fun _ _ h => h) ?_
                      refine G.ret ?_
                      intro F_ hF_ hM_
                      refine hRet _ _ (bodyPost_1 rfl (RV.tmp rfl) ?_ F_ hF_ hM_)
                      have e0 : b.toNat = 10 := by omega
                      rw [e0]
                      exact ⟨rfl, H.sub (List.nil_sublist _)⟩
                  · skip
                    have hb35f := eq_of_beq hb35
                    refine G.yes rfl ?_
                    refine G.skipK hK32 (fun _ _ h => h) ?_
                    refine G.yes rfl ?_
                    refine G.seqK fun K101 hK102 => ?_
                    refine G.region ?_
                    refine GL.run (j := 1) 1 [2] [(2, .int .i64 7)] (by kernel_rfl) rfl ?_
                    refine GL.k rfl hK102 (fun _ _ h => h) ?_
                    refine G.ret ?_
                    intro F_ hF_ hM_
                    refine hRet _ _ (bodyPost_1 rfl (RV.tmp rfl) ?_ F_ hF_ hM_)
                    have e0 : b.toNat = 5 := by omega
                    rw [e0]
                    exact ⟨rfl, H.sub (List.nil_sublist _)⟩
                · skip
                  have hb30f := eq_of_beq hb30
                  refine G.yes rfl ?_
                  refine G.seqK fun K103 hK104 => ?_
                  refine G.region ?_
                  refine GL.run (j := 1) 1 [2] [(2, .int .i64 5)] (by kernel_rfl) rfl ?_
                  refine GL.k rfl hK104 (fun _ _ h => h) ?_
                  refine G.ret ?_
                  intro F_ hF_ hM_
                  refine hRet _ _ (bodyPost_1 rfl (RV.tmp rfl) ?_ F_ hF_ hM_)
                  have e0 : b.toNat = 22 := by omega
                  rw [e0]
                  exact ⟨rfl, H.sub (List.nil_sublist _)⟩
              · skip
                have hb29f := eq_of_beq hb29
                refine G.yes rfl ?_
                refine G.skipK hK14 (fun _ _ h => h) ?_
                refine G.yes rfl ?_
                refine G.seqK fun K105 hK106 => ?_
                refine G.region ?_
                refine GL.run (j := 1) 1 [2] [(2, .int .i64 5)] (by kernel_rfl) rfl ?_
                refine GL.k rfl hK106 (fun _ _ h => h) ?_
                refine G.ret ?_
                intro F_ hF_ hM_
                refine hRet _ _ (bodyPost_1 rfl (RV.tmp rfl) ?_ F_ hF_ hM_)
                have e0 : b.toNat = 16 := by omega
                rw [e0]
                exact ⟨rfl, H.sub (List.nil_sublist _)⟩
            · skip
              have hb26f := eq_of_beq hb26
              refine G.yes rfl ?_
              refine G.skipK hK14 (fun _ _ h => h) ?_
              refine G.yes rfl ?_
              refine G.seqK fun K107 hK108 => ?_
              refine G.region ?_
              refine GL.run (j := 1) 1 [2] [(2, .int .i64 5)] (by kernel_rfl) rfl ?_
              refine GL.k rfl hK108 (fun _ _ h => h) ?_
              refine G.ret ?_
              intro F_ hF_ hM_
              refine hRet _ _ (bodyPost_1 rfl (RV.tmp rfl) ?_ F_ hF_ hM_)
              have e0 : b.toNat = 8 := by omega
              rw [e0]
              exact ⟨rfl, H.sub (List.nil_sublist _)⟩
          · skip
            have hb23f := eq_of_beq hb23
            refine G.yes rfl ?_
            refine G.skipK hK14 (fun _ _ h => h) ?_
            refine G.yes rfl ?_
            refine G.seqK fun K109 hK110 => ?_
            refine G.region ?_
            refine GL.run (j := 1) 1 [2] [(2, .int .i64 5)] (by kernel_rfl) rfl ?_
            refine GL.k rfl hK110 (fun _ _ h => h) ?_
            refine G.ret ?_
            intro F_ hF_ hM_
            refine hRet _ _ (bodyPost_1 rfl (RV.tmp rfl) ?_ F_ hF_ hM_)
            have e0 : b.toNat = 7 := by omega
            rw [e0]
            exact ⟨rfl, H.sub (List.nil_sublist _)⟩
        · skip
          have hb20f := eq_of_beq hb20
          refine G.yes rfl ?_
          refine G.skipK hK14 (fun _ _ h => h) ?_
          refine G.yes rfl ?_
          refine G.seqK fun K111 hK112 => ?_
          refine G.region ?_
          refine GL.run (j := 1) 1 [2] [(2, .int .i64 5)] (by kernel_rfl) rfl ?_
          refine GL.k rfl hK112 (fun _ _ h => h) ?_
          refine G.ret ?_
          intro F_ hF_ hM_
          refine hRet _ _ (bodyPost_1 rfl (RV.tmp rfl) ?_ F_ hF_ hM_)
          have e0 : b.toNat = 4 := by omega
          rw [e0]
          exact ⟨rfl, H.sub (List.nil_sublist _)⟩
      · skip
        have hb17f := eq_of_beq hb17
        refine G.yes rfl ?_
        refine G.skipK hK14 (fun _ _ h => h) ?_
        refine G.yes rfl ?_
        refine G.seqK fun K113 hK114 => ?_
        refine G.region ?_
        refine GL.run (j := 1) 1 [2] [(2, .int .i64 5)] (by kernel_rfl) rfl ?_
        refine GL.k rfl hK114 (fun _ _ h => h) ?_
        refine G.ret ?_
        intro F_ hF_ hM_
        refine hRet _ _ (bodyPost_1 rfl (RV.tmp rfl) ?_ F_ hF_ hM_)
        have e0 : b.toNat = 3 := by omega
        rw [e0]
        exact ⟨rfl, H.sub (List.nil_sublist _)⟩
    · skip
      have hb12f := eq_of_beq hb12
      refine G.yes rfl ?_
      refine G.seqK fun K115 hK116 => ?_
      refine G.region ?_
      refine GL.run (j := 1) 1 [2] [(2, .int .i64 4)] (by kernel_rfl) rfl ?_
      refine GL.k rfl hK116 (fun _ _ h => h) ?_
      refine G.ret ?_
      intro F_ hF_ hM_
      refine hRet _ _ (bodyPost_1 rfl (RV.tmp rfl) ?_ F_ hF_ hM_)
      have e0 : b.toNat = 2 := by omega
      rw [e0]
      exact ⟨rfl, H.sub (List.nil_sublist _)⟩
  · skip
    have hb11f := eq_of_beq hb11
    refine G.yes rfl ?_
    refine G.skipK hK8 (fun _ _ h => h) ?_
    refine G.yes rfl ?_
    refine G.seqK fun K117 hK118 => ?_
    refine G.region ?_
    refine GL.run (j := 1) 1 [2] [(2, .int .i64 4)] (by kernel_rfl) rfl ?_
    refine GL.k rfl hK118 (fun _ _ h => h) ?_
    refine G.ret ?_
    intro F_ hF_ hM_
    refine hRet _ _ (bodyPost_1 rfl (RV.tmp rfl) ?_ F_ hF_ hM_)
    have e0 : b.toNat = 1 := by omega
    rw [e0]
    exact ⟨rfl, H.sub (List.nil_sublist _)⟩
theorem set_calls (o wh t : UInt8) (am id : Nat) (ad : Nat → UInt8) (ag : Bool) (Bd : Option Addr) (bd : List UInt8) (bc : Nat) (w : World) (ham : am < K) (hid : id < K) (hBd : RdS w Bd (by8 bd)) (hbc : bd.length ≤ 9000) : Calls Try.prog 18 #[.agg #[.int .u8 (o.toNat : Int), .int .u8 (wh.toNat : Int), .int .u8 (t.toNat : Int), .int .u64 (am : Int), .int .u64 (id : Int), .int .u8 ((ad 0).toNat : Int), .int .u8 ((ad 1).toNat : Int), .int .u8 ((ad 2).toNat : Int), .int .u8 ((ad 3).toNat : Int), .int .u8 ((ad 4).toNat : Int), .int .u8 ((ad 5).toNat : Int), .int .u8 ((ad 6).toNat : Int), .int .u8 ((ad 7).toNat : Int), .int .u8 ((ad 8).toNat : Int), .int .u8 ((ad 9).toNat : Int), .int .u8 ((ad 10).toNat : Int), .int .u8 ((ad 11).toNat : Int), .int .u8 ((ad 12).toNat : Int), .int .u8 ((ad 13).toNat : Int), .int .u8 ((ad 14).toNat : Int), .int .u8 ((ad 15).toNat : Int), .int .u8 ((ad 16).toNat : Int), .int .u8 ((ad 17).toNat : Int), .int .u8 ((ad 18).toNat : Int), .int .u8 ((ad 19).toNat : Int), .bool ag, .slice Bd bd.length bc]] w fun e w' => e = .returned (.int .i64 ((cmdM wh t am id ad ag bd : Nat) : Int)) ∧ Hp w [] [] w' := by
  refine calls_G (args := [.agg #[.int .u8 (o.toNat : Int), .int .u8 (wh.toNat : Int), .int .u8 (t.toNat : Int), .int .u64 (am : Int), .int .u64 (id : Int), .int .u8 ((ad 0).toNat : Int), .int .u8 ((ad 1).toNat : Int), .int .u8 ((ad 2).toNat : Int), .int .u8 ((ad 3).toNat : Int), .int .u8 ((ad 4).toNat : Int), .int .u8 ((ad 5).toNat : Int), .int .u8 ((ad 6).toNat : Int), .int .u8 ((ad 7).toNat : Int), .int .u8 ((ad 8).toNat : Int), .int .u8 ((ad 9).toNat : Int), .int .u8 ((ad 10).toNat : Int), .int .u8 ((ad 11).toNat : Int), .int .u8 ((ad 12).toNat : Int), .int .u8 ((ad 13).toNat : Int), .int .u8 ((ad 14).toNat : Int), .int .u8 ((ad 15).toNat : Int), .int .u8 ((ad 16).toNat : Int), .int .u8 ((ad 17).toNat : Int), .int .u8 ((ad 18).toNat : Int), .int .u8 ((ad 19).toNat : Int), .bool ag, .slice Bd bd.length bc]]) Try.func18 rfl Try.ntmps18 rfl ?_
  intro Q0 hRet hNor hPan
  have H := Hp.start w
  have H : Hp w [] [] w := H
  refine G.seqK fun K1 hK2 => ?_
  refine G.region ?_
  obtain ⟨p3, w4, r5, H6⟩ := H.box (P := Try.prog) 28 [.int .u8 (o.toNat : Int), .int .u8 (wh.toNat : Int), .int .u8 (t.toNat : Int), .int .u64 (am : Int), .int .u64 (id : Int), .int .u8 ((ad 0).toNat : Int), .int .u8 ((ad 1).toNat : Int), .int .u8 ((ad 2).toNat : Int), .int .u8 ((ad 3).toNat : Int), .int .u8 ((ad 4).toNat : Int), .int .u8 ((ad 5).toNat : Int), .int .u8 ((ad 6).toNat : Int), .int .u8 ((ad 7).toNat : Int), .int .u8 ((ad 8).toNat : Int), .int .u8 ((ad 9).toNat : Int), .int .u8 ((ad 10).toNat : Int), .int .u8 ((ad 11).toNat : Int), .int .u8 ((ad 12).toNat : Int), .int .u8 ((ad 13).toNat : Int), .int .u8 ((ad 14).toNat : Int), .int .u8 ((ad 15).toNat : Int), .int .u8 ((ad 16).toNat : Int), .int .u8 ((ad 17).toNat : Int), .int .u8 ((ad 18).toNat : Int), .int .u8 ((ad 19).toNat : Int), .bool ag, .slice Bd bd.length bc] (.agg #[.int .u8 (o.toNat : Int), .int .u8 (wh.toNat : Int), .int .u8 (t.toNat : Int), .int .u64 (am : Int), .int .u64 (id : Int), .int .u8 ((ad 0).toNat : Int), .int .u8 ((ad 1).toNat : Int), .int .u8 ((ad 2).toNat : Int), .int .u8 ((ad 3).toNat : Int), .int .u8 ((ad 4).toNat : Int), .int .u8 ((ad 5).toNat : Int), .int .u8 ((ad 6).toNat : Int), .int .u8 ((ad 7).toNat : Int), .int .u8 ((ad 8).toNat : Int), .int .u8 ((ad 9).toNat : Int), .int .u8 ((ad 10).toNat : Int), .int .u8 ((ad 11).toNat : Int), .int .u8 ((ad 12).toNat : Int), .int .u8 ((ad 13).toNat : Int), .int .u8 ((ad 14).toNat : Int), .int .u8 ((ad 15).toNat : Int), .int .u8 ((ad 16).toNat : Int), .int .u8 ((ad 17).toNat : Int), .int .u8 ((ad 18).toNat : Int), .int .u8 ((ad 19).toNat : Int), .bool ag, .slice Bd bd.length bc]) rfl
  have H6 : Hp w [] [.blk p3 [.int .u8 (o.toNat : Int), .int .u8 (wh.toNat : Int), .int .u8 (t.toNat : Int), .int .u64 (am : Int), .int .u64 (id : Int), .int .u8 ((ad 0).toNat : Int), .int .u8 ((ad 1).toNat : Int), .int .u8 ((ad 2).toNat : Int), .int .u8 ((ad 3).toNat : Int), .int .u8 ((ad 4).toNat : Int), .int .u8 ((ad 5).toNat : Int), .int .u8 ((ad 6).toNat : Int), .int .u8 ((ad 7).toNat : Int), .int .u8 ((ad 8).toNat : Int), .int .u8 ((ad 9).toNat : Int), .int .u8 ((ad 10).toNat : Int), .int .u8 ((ad 11).toNat : Int), .int .u8 ((ad 12).toNat : Int), .int .u8 ((ad 13).toNat : Int), .int .u8 ((ad 14).toNat : Int), .int .u8 ((ad 15).toNat : Int), .int .u8 ((ad 16).toNat : Int), .int .u8 ((ad 17).toNat : Int), .int .u8 ((ad 18).toNat : Int), .int .u8 ((ad 19).toNat : Int), .bool ag, .slice Bd bd.length bc] 28] w4 := H6
  refine GL.sem (j := 1) (r5) [1] [(1, pt p3 0)] (by kernel_rfl) (by kernel_rfl) rfl ?_
  refine GL.run (j := 2) 1 [1] [(1, pt p3 0)] (by kernel_rfl) rfl ?_
  refine GL.k rfl hK2 (fun _ _ h => h) ?_
  refine G.seqK fun K7 hK8 => ?_
  refine G.region ?_
  refine GL.run (j := 1) 1 [1, 3] [(1, pt p3 0), (3, .int .i64 0)] (by kernel_rfl) rfl ?_
  refine GL.k rfl hK8 (fun _ _ h => h) ?_
  refine G.seqK fun K9 hK10 => ?_
  refine G.seqK fun K11 hK12 => ?_
  refine G.draw H6 (by kernel_rfl) (by kernel_rfl) ?_
  refine GQ.run (j := 1) 1 [1, 3, 6] [(1, pt p3 0), (3, .int .i64 0), (6, pt p3 1)] (by kernel_rfl) rfl ?_
  refine GQ.sem (j := 2) (fun w_ H_ => H_.ld (o := 1) (ty := 22) (v := .int .u8 (wh.toNat : Int)) 0 rfl (by kernel_rfl) rfl) [1, 3, 7] [(1, pt p3 0), (3, .int .i64 0), (7, .int .u8 (wh.toNat : Int))] (by kernel_rfl) (by kernel_rfl) rfl ?_
  refine GQ.run (j := 4) 2 [1, 3, 8, 9] [(1, pt p3 0), (3, .int .i64 0), (8, .bool (decide (0 < (wh.toNat : Int)))), (9, pt p3 2)] (by kernel_rfl) rfl ?_
  refine GQ.sem (j := 5) (fun w_ H_ => H_.ld (o := 2) (ty := 22) (v := .int .u8 (t.toNat : Int)) 0 rfl (by kernel_rfl) rfl) [1, 3, 8, 10] [(1, pt p3 0), (3, .int .i64 0), (8, .bool (decide (0 < (wh.toNat : Int)))), (10, .int .u8 (t.toNat : Int))] (by kernel_rfl) (by kernel_rfl) rfl ?_
  refine GQ.run (j := 7) 2 [1, 3, 8, 11, 12] [(1, pt p3 0), (3, .int .i64 0), (8, .bool (decide (0 < (wh.toNat : Int)))), (11, .bool (decide (0 < (t.toNat : Int)))), (12, pt p3 3)] (by kernel_rfl) rfl ?_
  refine GQ.sem (j := 8) (fun w_ H_ => H_.ld (o := 3) (ty := 23) (v := .int .u64 (am : Int)) 0 rfl (by kernel_rfl) rfl) [1, 3, 8, 11, 13] [(1, pt p3 0), (3, .int .i64 0), (8, .bool (decide (0 < (wh.toNat : Int)))), (11, .bool (decide (0 < (t.toNat : Int)))), (13, .int .u64 (am : Int))] (by kernel_rfl) (by kernel_rfl) rfl ?_
  refine GQ.run (j := 10) 2 [1, 3, 8, 11, 14, 15] [(1, pt p3 0), (3, .int .i64 0), (8, .bool (decide (0 < (wh.toNat : Int)))), (11, .bool (decide (0 < (t.toNat : Int)))), (14, .bool (decide (0 < (am : Int)))), (15, pt p3 4)] (by kernel_rfl) rfl ?_
  refine GQ.sem (j := 11) (fun w_ H_ => H_.ld (o := 4) (ty := 23) (v := .int .u64 (id : Int)) 0 rfl (by kernel_rfl) rfl) [1, 3, 8, 11, 14, 16] [(1, pt p3 0), (3, .int .i64 0), (8, .bool (decide (0 < (wh.toNat : Int)))), (11, .bool (decide (0 < (t.toNat : Int)))), (14, .bool (decide (0 < (am : Int)))), (16, .int .u64 (id : Int))] (by kernel_rfl) (by kernel_rfl) rfl ?_
  refine GQ.run (j := 13) 2 [1, 3, 8, 11, 14, 17, 18] [(1, pt p3 0), (3, .int .i64 0), (8, .bool (decide (0 < (wh.toNat : Int)))), (11, .bool (decide (0 < (t.toNat : Int)))), (14, .bool (decide (0 < (am : Int)))), (17, .bool (decide (0 < (id : Int)))), (18, pt p3 5)] (by kernel_rfl) rfl ?_
  refine GQ.sem (j := 14) (fun w_ H_ => H_.ldA (o := 5) (ty := 25) (m := 20) (sub := [.int .u8 ((ad 0).toNat : Int), .int .u8 ((ad 1).toNat : Int), .int .u8 ((ad 2).toNat : Int), .int .u8 ((ad 3).toNat : Int), .int .u8 ((ad 4).toNat : Int), .int .u8 ((ad 5).toNat : Int), .int .u8 ((ad 6).toNat : Int), .int .u8 ((ad 7).toNat : Int), .int .u8 ((ad 8).toNat : Int), .int .u8 ((ad 9).toNat : Int), .int .u8 ((ad 10).toNat : Int), .int .u8 ((ad 11).toNat : Int), .int .u8 ((ad 12).toNat : Int), .int .u8 ((ad 13).toNat : Int), .int .u8 ((ad 14).toNat : Int), .int .u8 ((ad 15).toNat : Int), .int .u8 ((ad 16).toNat : Int), .int .u8 ((ad 17).toNat : Int), .int .u8 ((ad 18).toNat : Int), .int .u8 ((ad 19).toNat : Int)]) 0 rfl (by kernel_rfl) rfl rfl) [1, 3, 8, 11, 14, 17, 19] [(1, pt p3 0), (3, .int .i64 0), (8, .bool (decide (0 < (wh.toNat : Int)))), (11, .bool (decide (0 < (t.toNat : Int)))), (14, .bool (decide (0 < (am : Int)))), (17, .bool (decide (0 < (id : Int)))), (19, .agg #[.int .u8 ((ad 0).toNat : Int), .int .u8 ((ad 1).toNat : Int), .int .u8 ((ad 2).toNat : Int), .int .u8 ((ad 3).toNat : Int), .int .u8 ((ad 4).toNat : Int), .int .u8 ((ad 5).toNat : Int), .int .u8 ((ad 6).toNat : Int), .int .u8 ((ad 7).toNat : Int), .int .u8 ((ad 8).toNat : Int), .int .u8 ((ad 9).toNat : Int), .int .u8 ((ad 10).toNat : Int), .int .u8 ((ad 11).toNat : Int), .int .u8 ((ad 12).toNat : Int), .int .u8 ((ad 13).toNat : Int), .int .u8 ((ad 14).toNat : Int), .int .u8 ((ad 15).toNat : Int), .int .u8 ((ad 16).toNat : Int), .int .u8 ((ad 17).toNat : Int), .int .u8 ((ad 18).toNat : Int), .int .u8 ((ad 19).toNat : Int)])] (by kernel_rfl) (by kernel_rfl) rfl ?_
  refine GQ.run (j := 15) 1 [1, 3, 8, 11, 14, 17, 19, 20] [(1, pt p3 0), (3, .int .i64 0), (8, .bool (decide (0 < (wh.toNat : Int)))), (11, .bool (decide (0 < (t.toNat : Int)))), (14, .bool (decide (0 < (am : Int)))), (17, .bool (decide (0 < (id : Int)))), (19, .agg #[.int .u8 ((ad 0).toNat : Int), .int .u8 ((ad 1).toNat : Int), .int .u8 ((ad 2).toNat : Int), .int .u8 ((ad 3).toNat : Int), .int .u8 ((ad 4).toNat : Int), .int .u8 ((ad 5).toNat : Int), .int .u8 ((ad 6).toNat : Int), .int .u8 ((ad 7).toNat : Int), .int .u8 ((ad 8).toNat : Int), .int .u8 ((ad 9).toNat : Int), .int .u8 ((ad 10).toNat : Int), .int .u8 ((ad 11).toNat : Int), .int .u8 ((ad 12).toNat : Int), .int .u8 ((ad 13).toNat : Int), .int .u8 ((ad 14).toNat : Int), .int .u8 ((ad 15).toNat : Int), .int .u8 ((ad 16).toNat : Int), .int .u8 ((ad 17).toNat : Int), .int .u8 ((ad 18).toNat : Int), .int .u8 ((ad 19).toNat : Int)]), (20, .agg #[.int .u8 0, .int .u8 0, .int .u8 0, .int .u8 0, .int .u8 0, .int .u8 0, .int .u8 0, .int .u8 0, .int .u8 0, .int .u8 0, .int .u8 0, .int .u8 0, .int .u8 0, .int .u8 0, .int .u8 0, .int .u8 0, .int .u8 0, .int .u8 0, .int .u8 0, .int .u8 0])] (by kernel_rfl) rfl ?_
  refine GQ.sem (j := 16) (fun w_ H_ => run_arr_neq (P := Try.prog) (t := 25) (n := 20) (k := .u8) (x := (.tmp 19)) (y := (.tmp 20)) (by kernel_rfl) [((ad 0).toNat : Int), ((ad 1).toNat : Int), ((ad 2).toNat : Int), ((ad 3).toNat : Int), ((ad 4).toNat : Int), ((ad 5).toNat : Int), ((ad 6).toNat : Int), ((ad 7).toNat : Int), ((ad 8).toNat : Int), ((ad 9).toNat : Int), ((ad 10).toNat : Int), ((ad 11).toNat : Int), ((ad 12).toNat : Int), ((ad 13).toNat : Int), ((ad 14).toNat : Int), ((ad 15).toNat : Int), ((ad 16).toNat : Int), ((ad 17).toNat : Int), ((ad 18).toNat : Int), ((ad 19).toNat : Int)] [0, 0, 0, 0, 0, 0, 0, 0, 0, 0, 0, 0, 0, 0, 0, 0, 0, 0, 0, 0] rfl rfl _) [1, 3, 8, 11, 14, 17, 21] [(1, pt p3 0), (3, .int .i64 0), (8, .bool (decide (0 < (wh.toNat : Int)))), (11, .bool (decide (0 < (t.toNat : Int)))), (14, .bool (decide (0 < (am : Int)))), (17, .bool (decide (0 < (id : Int)))), (21, .bool (!(decide (([((ad 0).toNat : Int), ((ad 1).toNat : Int), ((ad 2).toNat : Int), ((ad 3).toNat : Int), ((ad 4).toNat : Int), ((ad 5).toNat : Int), ((ad 6).toNat : Int), ((ad 7).toNat : Int), ((ad 8).toNat : Int), ((ad 9).toNat : Int), ((ad 10).toNat : Int), ((ad 11).toNat : Int), ((ad 12).toNat : Int), ((ad 13).toNat : Int), ((ad 14).toNat : Int), ((ad 15).toNat : Int), ((ad 16).toNat : Int), ((ad 17).toNat : Int), ((ad 18).toNat : Int), ((ad 19).toNat : Int)] : List Int) = [0, 0, 0, 0, 0, 0, 0, 0, 0, 0, 0, 0, 0, 0, 0, 0, 0, 0, 0, 0]))))] (by kernel_rfl) (by kernel_rfl) rfl ?_
  refine GQ.run (j := 17) 1 [1, 3, 8, 11, 14, 17, 21, 22] [(1, pt p3 0), (3, .int .i64 0), (8, .bool (decide (0 < (wh.toNat : Int)))), (11, .bool (decide (0 < (t.toNat : Int)))), (14, .bool (decide (0 < (am : Int)))), (17, .bool (decide (0 < (id : Int)))), (21, .bool (!(decide (([((ad 0).toNat : Int), ((ad 1).toNat : Int), ((ad 2).toNat : Int), ((ad 3).toNat : Int), ((ad 4).toNat : Int), ((ad 5).toNat : Int), ((ad 6).toNat : Int), ((ad 7).toNat : Int), ((ad 8).toNat : Int), ((ad 9).toNat : Int), ((ad 10).toNat : Int), ((ad 11).toNat : Int), ((ad 12).toNat : Int), ((ad 13).toNat : Int), ((ad 14).toNat : Int), ((ad 15).toNat : Int), ((ad 16).toNat : Int), ((ad 17).toNat : Int), ((ad 18).toNat : Int), ((ad 19).toNat : Int)] : List Int) = [0, 0, 0, 0, 0, 0, 0, 0, 0, 0, 0, 0, 0, 0, 0, 0, 0, 0, 0, 0])))), (22, pt p3 25)] (by kernel_rfl) rfl ?_
  refine GQ.sem (j := 18) (fun w_ H_ => H_.ld (o := 25) (ty := 4) (v := .bool ag) 0 rfl (by kernel_rfl) rfl) [1, 3, 8, 11, 14, 17, 21, 23] [(1, pt p3 0), (3, .int .i64 0), (8, .bool (decide (0 < (wh.toNat : Int)))), (11, .bool (decide (0 < (t.toNat : Int)))), (14, .bool (decide (0 < (am : Int)))), (17, .bool (decide (0 < (id : Int)))), (21, .bool (!(decide (([((ad 0).toNat : Int), ((ad 1).toNat : Int), ((ad 2).toNat : Int), ((ad 3).toNat : Int), ((ad 4).toNat : Int), ((ad 5).toNat : Int), ((ad 6).toNat : Int), ((ad 7).toNat : Int), ((ad 8).toNat : Int), ((ad 9).toNat : Int), ((ad 10).toNat : Int), ((ad 11).toNat : Int), ((ad 12).toNat : Int), ((ad 13).toNat : Int), ((ad 14).toNat : Int), ((ad 15).toNat : Int), ((ad 16).toNat : Int), ((ad 17).toNat : Int), ((ad 18).toNat : Int), ((ad 19).toNat : Int)] : List Int) = [0, 0, 0, 0, 0, 0, 0, 0, 0, 0, 0, 0, 0, 0, 0, 0, 0, 0, 0, 0])))), (23, .bool ag)] (by kernel_rfl) (by kernel_rfl) rfl ?_
  refine GQ.run (j := 19) 1 [3, 8, 11, 14, 17, 21, 23, 24] [(3, .int .i64 0), (8, .bool (decide (0 < (wh.toNat : Int)))), (11, .bool (decide (0 < (t.toNat : Int)))), (14, .bool (decide (0 < (am : Int)))), (17, .bool (decide (0 < (id : Int)))), (21, .bool (!(decide (([((ad 0).toNat : Int), ((ad 1).toNat : Int), ((ad 2).toNat : Int), ((ad 3).toNat : Int), ((ad 4).toNat : Int), ((ad 5).toNat : Int), ((ad 6).toNat : Int), ((ad 7).toNat : Int), ((ad 8).toNat : Int), ((ad 9).toNat : Int), ((ad 10).toNat : Int), ((ad 11).toNat : Int), ((ad 12).toNat : Int), ((ad 13).toNat : Int), ((ad 14).toNat : Int), ((ad 15).toNat : Int), ((ad 16).toNat : Int), ((ad 17).toNat : Int), ((ad 18).toNat : Int), ((ad 19).toNat : Int)] : List Int) = [0, 0, 0, 0, 0, 0, 0, 0, 0, 0, 0, 0, 0, 0, 0, 0, 0, 0, 0, 0])))), (23, .bool ag), (24, pt p3 26)] (by kernel_rfl) rfl ?_
  refine GQ.sem (j := 20) (fun w_ H_ => H_.ld (o := 26) (ty := 26) (v := .slice Bd bd.length bc) 0 rfl (by kernel_rfl) rfl) [3, 8, 11, 14, 17, 21, 23, 25] [(3, .int .i64 0), (8, .bool (decide (0 < (wh.toNat : Int)))), (11, .bool (decide (0 < (t.toNat : Int)))), (14, .bool (decide (0 < (am : Int)))), (17, .bool (decide (0 < (id : Int)))), (21, .bool (!(decide (([((ad 0).toNat : Int), ((ad 1).toNat : Int), ((ad 2).toNat : Int), ((ad 3).toNat : Int), ((ad 4).toNat : Int), ((ad 5).toNat : Int), ((ad 6).toNat : Int), ((ad 7).toNat : Int), ((ad 8).toNat : Int), ((ad 9).toNat : Int), ((ad 10).toNat : Int), ((ad 11).toNat : Int), ((ad 12).toNat : Int), ((ad 13).toNat : Int), ((ad 14).toNat : Int), ((ad 15).toNat : Int), ((ad 16).toNat : Int), ((ad 17).toNat : Int), ((ad 18).toNat : Int), ((ad 19).toNat : Int)] : List Int) = [0, 0, 0, 0, 0, 0, 0, 0, 0, 0, 0, 0, 0, 0, 0, 0, 0, 0, 0, 0])))), (23, .bool ag), (25, .slice Bd bd.length bc)] (by kernel_rfl) (by kernel_rfl) rfl ?_
  refine GQ.run (j := 24) 4 [3, 28, 29] [(3, .int .i64 0), (28, .agg #[.bool (decide (0 < (wh.toNat : Int))), .bool (decide (0 < (t.toNat : Int))), .bool (decide (0 < (am : Int))), .bool (decide (0 < (id : Int))), .bool (!(decide (([((ad 0).toNat : Int), ((ad 1).toNat : Int), ((ad 2).toNat : Int), ((ad 3).toNat : Int), ((ad 4).toNat : Int), ((ad 5).toNat : Int), ((ad 6).toNat : Int), ((ad 7).toNat : Int), ((ad 8).toNat : Int), ((ad 9).toNat : Int), ((ad 10).toNat : Int), ((ad 11).toNat : Int), ((ad 12).toNat : Int), ((ad 13).toNat : Int), ((ad 14).toNat : Int), ((ad 15).toNat : Int), ((ad 16).toNat : Int), ((ad 17).toNat : Int), ((ad 18).toNat : Int), ((ad 19).toNat : Int)] : List Int) = [0, 0, 0, 0, 0, 0, 0, 0, 0, 0, 0, 0, 0, 0, 0, 0, 0, 0, 0, 0]))), .bool ag, .bool (decide (0 < (bd.length : Int)))]), (29, .int .i64 0)] (by kernel_rfl) rfl ?_
  refine GQ.k rfl hK12 (fun _ _ h => h) (fun w13 H14 => ?_)
  refine G.block ?_
  obtain ⟨i0, hi0⟩ : ∃ b : Bool, b = decide (0 < wh.toNat) := ⟨_, rfl⟩
  have ei0 : (decide (0 < (wh.toNat : Int))) = i0 := by rw [hi0]; exact decide_eq_decide.2 (by omega)
  obtain ⟨i1, hi1⟩ : ∃ b : Bool, b = decide (0 < t.toNat) := ⟨_, rfl⟩
  have ei1 : (decide (0 < (t.toNat : Int))) = i1 := by rw [hi1]; exact decide_eq_decide.2 (by omega)
  obtain ⟨i2, hi2⟩ : ∃ b : Bool, b = decide (0 < am) := ⟨_, rfl⟩
  have ei2 : (decide (0 < (am : Int))) = i2 := by rw [hi2]; exact decide_eq_decide.2 (by omega)
  obtain ⟨i3, hi3⟩ : ∃ b : Bool, b = decide (0 < id) := ⟨_, rfl⟩
  have ei3 : (decide (0 < (id : Int))) = i3 := by rw [hi3]; exact decide_eq_decide.2 (by omega)
  obtain ⟨i4, hi4⟩ : ∃ b : Bool, b = adSet ad := ⟨_, rfl⟩
  have ei4 : (!(decide (([((ad 0).toNat : Int), ((ad 1).toNat : Int), ((ad 2).toNat : Int), ((ad 3).toNat : Int), ((ad 4).toNat : Int), ((ad 5).toNat : Int), ((ad 6).toNat : Int), ((ad 7).toNat : Int), ((ad 8).toNat : Int), ((ad 9).toNat : Int), ((ad 10).toNat : Int), ((ad 11).toNat : Int), ((ad 12).toNat : Int), ((ad 13).toNat : Int), ((ad 14).toNat : Int), ((ad 15).toNat : Int), ((ad 16).toNat : Int), ((ad 17).toNat : Int), ((ad 18).toNat : Int), ((ad 19).toNat : Int)] : List Int) = [0, 0, 0, 0, 0, 0, 0, 0, 0, 0, 0, 0, 0, 0, 0, 0, 0, 0, 0, 0]))) = i4 := by rw [hi4]; exact by rw [adSet, decide_eq_decide.2 (adInts ad)]
  obtain ⟨i5, hi5⟩ : ∃ b : Bool, b = ag := ⟨_, rfl⟩
  have ei5 : ag = i5 := hi5.symm
  obtain ⟨i6, hi6⟩ : ∃ b : Bool, b = decide (0 < bd.length) := ⟨_, rfl⟩
  have ei6 : (decide (0 < (bd.length : Int))) = i6 := by rw [hi6]; exact decide_eq_decide.2 (by omega)
  refine G.eq (M' := [(3, .int .i64 0), (28, .agg #[.bool i0, .bool i1, .bool i2, .bool i3, .bool i4, .bool i5, .bool i6]), (29, .int .i64 0)]) (by rw [ei0, ei1, ei2, ei3, ei4, ei5, ei6]) ?_
  refine G.unroll 7 ?_
  refine G.seqK fun K15 hK16 => ?_
  refine G.region ?_
  refine GL.run (j := 1) 1 [3, 28, 29, 30] [(3, .int .i64 0), (28, .agg #[.bool i0, .bool i1, .bool i2, .bool i3, .bool i4, .bool i5, .bool i6]), (29, .int .i64 0), (30, .bool true)] (by kernel_rfl) rfl ?_
  refine GL.k rfl hK16 (fun _ _ h => h) ?_
  refine G.seqK fun K17 hK18 => ?_
  refine G.yes rfl ?_
  refine G.skipK hK18 (fun _ _ h => h) ?_
  refine G.seqJ (X := Nat) (fun q0 => [(3, .int .i64 (q0 : Int)), (28, .agg #[.bool i0, .bool i1, .bool i2, .bool i3, .bool i4, .bool i5, .bool i6]), (29, .int .i64 0)]) (fun q0 w_ => (q0 = 0 + bit1 i0 0 ∧ q0 < 2) ∧ Hp w [] [.blk p3 [.int .u8 (o.toNat : Int), .int .u8 (wh.toNat : Int), .int .u8 (t.toNat : Int), .int .u64 (am : Int), .int .u64 (id : Int), .int .u8 ((ad 0).toNat : Int), .int .u8 ((ad 1).toNat : Int), .int .u8 ((ad 2).toNat : Int), .int .u8 ((ad 3).toNat : Int), .int .u8 ((ad 4).toNat : Int), .int .u8 ((ad 5).toNat : Int), .int .u8 ((ad 6).toNat : Int), .int .u8 ((ad 7).toNat : Int), .int .u8 ((ad 8).toNat : Int), .int .u8 ((ad 9).toNat : Int), .int .u8 ((ad 10).toNat : Int), .int .u8 ((ad 11).toNat : Int), .int .u8 ((ad 12).toNat : Int), .int .u8 ((ad 13).toNat : Int), .int .u8 ((ad 14).toNat : Int), .int .u8 ((ad 15).toNat : Int), .int .u8 ((ad 16).toNat : Int), .int .u8 ((ad 17).toNat : Int), .int .u8 ((ad 18).toNat : Int), .int .u8 ((ad 19).toNat : Int), .bool ag, .slice Bd bd.length bc] 28] w_) (fun J19 K20 hK21 => ?_) ?_
  · skip
    refine G.block ?_
    refine G.seqK fun K22 hK23 => ?_
    refine G.region ?_
    refine GL.run (j := 4) 4 [3, 4, 5, 28, 29] [(3, .int .i64 0), (4, .int .i64 0), (5, .bool i0), (28, .agg #[.bool i0, .bool i1, .bool i2, .bool i3, .bool i4, .bool i5, .bool i6]), (29, .int .i64 0)] (by kernel_rfl) rfl ?_
    refine GL.k rfl hK23 (fun _ _ h => h) ?_
    refine G.seqK fun K24 hK25 => ?_
    refine G.region ?_
    refine GL.run (j := 1) 1 [3, 4, 28, 29, 33] [(3, .int .i64 0), (4, .int .i64 0), (28, .agg #[.bool i0, .bool i1, .bool i2, .bool i3, .bool i4, .bool i5, .bool i6]), (29, .int .i64 0), (33, .bool i0)] (by kernel_rfl) rfl ?_
    refine GL.k rfl hK25 (fun _ _ h => h) ?_
    rcases (Bool.eq_false_or_eq_true i0).symm with hb26 | hb26
    · skip
      refine G.eq (M' := [(3, .int .i64 0), (4, .int .i64 0), (28, .agg #[.bool false, .bool i1, .bool i2, .bool i3, .bool i4, .bool i5, .bool i6]), (29, .int .i64 0), (33, .bool false)]) (by first | (rw [hb26]; done) | (rw [hb26]; rfl)) ?_
      refine G.no rfl ?_
      refine G.skipK hK21 (fun _ _ h => h) ?_
      refine G.fit [3, 28, 29] (M' := [(3, .int .i64 0), (28, .agg #[.bool false, .bool i1, .bool i2, .bool i3, .bool i4, .bool i5, .bool i6]), (29, .int .i64 0)]) (by kernel_rfl) ?_
      refine G.eq (M' := [(3, .int .i64 0), (28, .agg #[.bool i0, .bool i1, .bool i2, .bool i3, .bool i4, .bool i5, .bool i6]), (29, .int .i64 0)]) (by rw [(by assumption : i0 = false)]) ?_
      exact J19 0 _ ⟨⟨by simp [bit1, (by assumption : i0 = false)], by omega⟩, H14⟩
    · skip
      refine G.eq (M' := [(3, .int .i64 0), (4, .int .i64 0), (28, .agg #[.bool true, .bool i1, .bool i2, .bool i3, .bool i4, .bool i5, .bool i6]), (29, .int .i64 0), (33, .bool true)]) (by first | (rw [hb26]; done) | (rw [hb26]; rfl)) ?_
      refine G.yes rfl ?_
      refine G.region ?_
      refine GL.run (j := 5) 5 [3, 28, 29] [(3, .int .i64 1), (28, .agg #[.bool true, .bool i1, .bool i2, .bool i3, .bool i4, .bool i5, .bool i6]), (29, .int .i64 0)] (by kernel_rfl) rfl ?_
      refine GL.k rfl hK21 (fun _ _ h => h) ?_
      refine G.fit [3, 28, 29] (M' := [(3, .int .i64 1), (28, .agg #[.bool true, .bool i1, .bool i2, .bool i3, .bool i4, .bool i5, .bool i6]), (29, .int .i64 0)]) (by kernel_rfl) ?_
      refine G.eq (M' := [(3, .int .i64 1), (28, .agg #[.bool i0, .bool i1, .bool i2, .bool i3, .bool i4, .bool i5, .bool i6]), (29, .int .i64 0)]) (by rw [(by assumption : i0 = true)]) ?_
      exact J19 1 _ ⟨⟨by simp [bit1, (by assumption : i0 = true)], by omega⟩, H14⟩
  · skip
    rintro q0 w27 ⟨hi28, H29⟩
    refine G.eq (M' := [(3, .int .i64 (q0 : Int)), (28, .agg #[.bool i0, .bool i1, .bool i2, .bool i3, .bool i4, .bool i5, .bool i6]), (29, .int .i64 0)]) rfl ?_
    have H29 : Hp w [] [.blk p3 [.int .u8 (o.toNat : Int), .int .u8 (wh.toNat : Int), .int .u8 (t.toNat : Int), .int .u64 (am : Int), .int .u64 (id : Int), .int .u8 ((ad 0).toNat : Int), .int .u8 ((ad 1).toNat : Int), .int .u8 ((ad 2).toNat : Int), .int .u8 ((ad 3).toNat : Int), .int .u8 ((ad 4).toNat : Int), .int .u8 ((ad 5).toNat : Int), .int .u8 ((ad 6).toNat : Int), .int .u8 ((ad 7).toNat : Int), .int .u8 ((ad 8).toNat : Int), .int .u8 ((ad 9).toNat : Int), .int .u8 ((ad 10).toNat : Int), .int .u8 ((ad 11).toNat : Int), .int .u8 ((ad 12).toNat : Int), .int .u8 ((ad 13).toNat : Int), .int .u8 ((ad 14).toNat : Int), .int .u8 ((ad 15).toNat : Int), .int .u8 ((ad 16).toNat : Int), .int .u8 ((ad 17).toNat : Int), .int .u8 ((ad 18).toNat : Int), .int .u8 ((ad 19).toNat : Int), .bool ag, .slice Bd bd.length bc] 28] w27 := H29
    obtain ⟨hq0, lq0⟩ := hi28
    refine G.region ?_
    refine GL.run (j := 2) 2 [3, 28, 29] [(3, .int .i64 (q0 : Int)), (28, .agg #[.bool i0, .bool i1, .bool i2, .bool i3, .bool i4, .bool i5, .bool i6]), (29, .int .i64 1)] (by kernel_rfl) rfl ?_
    refine GL.round rfl ?_
    refine G.seqK fun K30 hK31 => ?_
    refine G.region ?_
    refine GL.run (j := 1) 1 [3, 28, 29, 30] [(3, .int .i64 (q0 : Int)), (28, .agg #[.bool i0, .bool i1, .bool i2, .bool i3, .bool i4, .bool i5, .bool i6]), (29, .int .i64 1), (30, .bool true)] (by kernel_rfl) rfl ?_
    refine GL.k rfl hK31 (fun _ _ h => h) ?_
    refine G.seqK fun K32 hK33 => ?_
    refine G.yes rfl ?_
    refine G.skipK hK33 (fun _ _ h => h) ?_
    refine G.seqJ (X := Nat) (fun q1 => [(3, .int .i64 (q1 : Int)), (28, .agg #[.bool i0, .bool i1, .bool i2, .bool i3, .bool i4, .bool i5, .bool i6]), (29, .int .i64 1)]) (fun q1 w_ => (q1 = q0 + bit1 i1 1 ∧ q1 < 4) ∧ Hp w [] [.blk p3 [.int .u8 (o.toNat : Int), .int .u8 (wh.toNat : Int), .int .u8 (t.toNat : Int), .int .u64 (am : Int), .int .u64 (id : Int), .int .u8 ((ad 0).toNat : Int), .int .u8 ((ad 1).toNat : Int), .int .u8 ((ad 2).toNat : Int), .int .u8 ((ad 3).toNat : Int), .int .u8 ((ad 4).toNat : Int), .int .u8 ((ad 5).toNat : Int), .int .u8 ((ad 6).toNat : Int), .int .u8 ((ad 7).toNat : Int), .int .u8 ((ad 8).toNat : Int), .int .u8 ((ad 9).toNat : Int), .int .u8 ((ad 10).toNat : Int), .int .u8 ((ad 11).toNat : Int), .int .u8 ((ad 12).toNat : Int), .int .u8 ((ad 13).toNat : Int), .int .u8 ((ad 14).toNat : Int), .int .u8 ((ad 15).toNat : Int), .int .u8 ((ad 16).toNat : Int), .int .u8 ((ad 17).toNat : Int), .int .u8 ((ad 18).toNat : Int), .int .u8 ((ad 19).toNat : Int), .bool ag, .slice Bd bd.length bc] 28] w_) (fun J34 K35 hK36 => ?_) ?_
    · skip
      refine G.block ?_
      refine G.seqK fun K37 hK38 => ?_
      refine G.region ?_
      refine GL.run (j := 4) 4 [3, 4, 5, 28, 29] [(3, .int .i64 (q0 : Int)), (4, .int .i64 1), (5, .bool i1), (28, .agg #[.bool i0, .bool i1, .bool i2, .bool i3, .bool i4, .bool i5, .bool i6]), (29, .int .i64 1)] (by kernel_rfl) rfl ?_
      refine GL.k rfl hK38 (fun _ _ h => h) ?_
      refine G.seqK fun K39 hK40 => ?_
      refine G.region ?_
      refine GL.run (j := 1) 1 [3, 4, 28, 29, 33] [(3, .int .i64 (q0 : Int)), (4, .int .i64 1), (28, .agg #[.bool i0, .bool i1, .bool i2, .bool i3, .bool i4, .bool i5, .bool i6]), (29, .int .i64 1), (33, .bool i1)] (by kernel_rfl) rfl ?_
      refine GL.k rfl hK40 (fun _ _ h => h) ?_
      rcases (Bool.eq_false_or_eq_true i1).symm with hb41 | hb41
      · skip
        refine G.eq (M' := [(3, .int .i64 (q0 : Int)), (4, .int .i64 1), (28, .agg #[.bool i0, .bool false, .bool i2, .bool i3, .bool i4, .bool i5, .bool i6]), (29, .int .i64 1), (33, .bool false)]) (by first | (rw [hb41]; done) | (rw [hb41]; rfl)) ?_
        refine G.no rfl ?_
        refine G.skipK hK36 (fun _ _ h => h) ?_
        refine G.fit [3, 28, 29] (M' := [(3, .int .i64 (q0 : Int)), (28, .agg #[.bool i0, .bool false, .bool i2, .bool i3, .bool i4, .bool i5, .bool i6]), (29, .int .i64 1)]) (by kernel_rfl) ?_
        refine G.eq (M' := [(3, .int .i64 (q0 : Int)), (28, .agg #[.bool i0, .bool i1, .bool i2, .bool i3, .bool i4, .bool i5, .bool i6]), (29, .int .i64 1)]) (by rw [(by assumption : i1 = false)]) ?_
        exact J34 q0 _ ⟨⟨by simp [bit1, (by assumption : i1 = false)], by omega⟩, H29⟩
      · skip
        refine G.eq (M' := [(3, .int .i64 (q0 : Int)), (4, .int .i64 1), (28, .agg #[.bool i0, .bool true, .bool i2, .bool i3, .bool i4, .bool i5, .bool i6]), (29, .int .i64 1), (33, .bool true)]) (by first | (rw [hb41]; done) | (rw [hb41]; rfl)) ?_
        refine G.yes rfl ?_
        refine G.region ?_
        refine GL.run (j := 5) 5 [3, 28, 29] [(3, .int .i64 (Go.bits .or .i64 (q0 : Int) 2)), (28, .agg #[.bool i0, .bool true, .bool i2, .bool i3, .bool i4, .bool i5, .bool i6]), (29, .int .i64 1)] (by kernel_rfl) rfl ?_
        have e42 : (Go.bits .or .i64 (q0 : Int) 2) = ((q0 + 2 ^ 1 : Nat) : Int) := i_or (k := 1) (by decide) (by omega)
        refine GL.eq (M' := [(3, .int .i64 ((q0 + 2 ^ 1 : Nat) : Int)), (28, .agg #[.bool i0, .bool true, .bool i2, .bool i3, .bool i4, .bool i5, .bool i6]), (29, .int .i64 1)]) (by rw [e42]) ?_
        clear e42
        refine GL.k rfl hK36 (fun _ _ h => h) ?_
        refine G.fit [3, 28, 29] (M' := [(3, .int .i64 ((q0 + 2 ^ 1 : Nat) : Int)), (28, .agg #[.bool i0, .bool true, .bool i2, .bool i3, .bool i4, .bool i5, .bool i6]), (29, .int .i64 1)]) (by kernel_rfl) ?_
        refine G.eq (M' := [(3, .int .i64 ((q0 + 2 ^ 1 : Nat) : Int)), (28, .agg #[.bool i0, .bool i1, .bool i2, .bool i3, .bool i4, .bool i5, .bool i6]), (29, .int .i64 1)]) (by rw [(by assumption : i1 = true)]) ?_
        exact J34 (q0 + 2 ^ 1) _ ⟨⟨by simp [bit1, (by assumption : i1 = true)], by omega⟩, H29⟩
    · skip
      rintro q1 w43 ⟨hi44, H45⟩
      refine G.eq (M' := [(3, .int .i64 (q1 : Int)), (28, .agg #[.bool i0, .bool i1, .bool i2, .bool i3, .bool i4, .bool i5, .bool i6]), (29, .int .i64 1)]) rfl ?_
      have H45 : Hp w [] [.blk p3 [.int .u8 (o.toNat : Int), .int .u8 (wh.toNat : Int), .int .u8 (t.toNat : Int), .int .u64 (am : Int), .int .u64 (id : Int), .int .u8 ((ad 0).toNat : Int), .int .u8 ((ad 1).toNat : Int), .int .u8 ((ad 2).toNat : Int), .int .u8 ((ad 3).toNat : Int), .int .u8 ((ad 4).toNat : Int), .int .u8 ((ad 5).toNat : Int), .int .u8 ((ad 6).toNat : Int), .int .u8 ((ad 7).toNat : Int), .int .u8 ((ad 8).toNat : Int), .int .u8 ((ad 9).toNat : Int), .int .u8 ((ad 10).toNat : Int), .int .u8 ((ad 11).toNat : Int), .int .u8 ((ad 12).toNat : Int), .int .u8 ((ad 13).toNat : Int), .int .u8 ((ad 14).toNat : Int), .int .u8 ((ad 15).toNat : Int), .int .u8 ((ad 16).toNat : Int), .int .u8 ((ad 17).toNat : Int), .int .u8 ((ad 18).toNat : Int), .int .u8 ((ad 19).toNat : Int), .bool ag, .slice Bd bd.length bc] 28] w43 := H45
      obtain ⟨hq1, lq1⟩ := hi44
      refine G.region ?_
      refine GL.run (j := 2) 2 [3, 28, 29] [(3, .int .i64 (q1 : Int)), (28, .agg #[.bool i0, .bool i1, .bool i2, .bool i3, .bool i4, .bool i5, .bool i6]), (29, .int .i64 2)] (by kernel_rfl) rfl ?_
      refine GL.round rfl ?_
      refine G.seqK fun K46 hK47 => ?_
      refine G.region ?_
      refine GL.run (j := 1) 1 [3, 28, 29, 30] [(3, .int .i64 (q1 : Int)), (28, .agg #[.bool i0, .bool i1, .bool i2, .bool i3, .bool i4, .bool i5, .bool i6]), (29, .int .i64 2), (30, .bool true)] (by kernel_rfl) rfl ?_
      refine GL.k rfl hK47 (fun _ _ h => h) ?_
      refine G.seqK fun K48 hK49 => ?_
      refine G.yes rfl ?_
      refine G.skipK hK49 (fun _ _ h => h) ?_
      refine G.seqJ (X := Nat) (fun q2 => [(3, .int .i64 (q2 : Int)), (28, .agg #[.bool i0, .bool i1, .bool i2, .bool i3, .bool i4, .bool i5, .bool i6]), (29, .int .i64 2)]) (fun q2 w_ => (q2 = q1 + bit1 i2 2 ∧ q2 < 8) ∧ Hp w [] [.blk p3 [.int .u8 (o.toNat : Int), .int .u8 (wh.toNat : Int), .int .u8 (t.toNat : Int), .int .u64 (am : Int), .int .u64 (id : Int), .int .u8 ((ad 0).toNat : Int), .int .u8 ((ad 1).toNat : Int), .int .u8 ((ad 2).toNat : Int), .int .u8 ((ad 3).toNat : Int), .int .u8 ((ad 4).toNat : Int), .int .u8 ((ad 5).toNat : Int), .int .u8 ((ad 6).toNat : Int), .int .u8 ((ad 7).toNat : Int), .int .u8 ((ad 8).toNat : Int), .int .u8 ((ad 9).toNat : Int), .int .u8 ((ad 10).toNat : Int), .int .u8 ((ad 11).toNat : Int), .int .u8 ((ad 12).toNat : Int), .int .u8 ((ad 13).toNat : Int), .int .u8 ((ad 14).toNat : Int), .int .u8 ((ad 15).toNat : Int), .int .u8 ((ad 16).toNat : Int), .int .u8 ((ad 17).toNat : Int), .int .u8 ((ad 18).toNat : Int), .int .u8 ((ad 19).toNat : Int), .bool ag, .slice Bd bd.length bc] 28] w_) (fun J50 K51 hK52 => ?_) ?_
      · skip
        refine G.block ?_
        refine G.seqK fun K53 hK54 => ?_
        refine G.region ?_
        refine GL.run (j := 4) 4 [3, 4, 5, 28, 29] [(3, .int .i64 (q1 : Int)), (4, .int .i64 2), (5, .bool i2), (28, .agg #[.bool i0, .bool i1, .bool i2, .bool i3, .bool i4, .bool i5, .bool i6]), (29, .int .i64 2)] (by kernel_rfl) rfl ?_
        refine GL.k rfl hK54 (fun _ _ h => h) ?_
        refine G.seqK fun K55 hK56 => ?_
        refine G.region ?_
        refine GL.run (j := 1) 1 [3, 4, 28, 29, 33] [(3, .int .i64 (q1 : Int)), (4, .int .i64 2), (28, .agg #[.bool i0, .bool i1, .bool i2, .bool i3, .bool i4, .bool i5, .bool i6]), (29, .int .i64 2), (33, .bool i2)] (by kernel_rfl) rfl ?_
        refine GL.k rfl hK56 (fun _ _ h => h) ?_
        rcases (Bool.eq_false_or_eq_true i2).symm with hb57 | hb57
        · skip
          refine G.eq (M' := [(3, .int .i64 (q1 : Int)), (4, .int .i64 2), (28, .agg #[.bool i0, .bool i1, .bool false, .bool i3, .bool i4, .bool i5, .bool i6]), (29, .int .i64 2), (33, .bool false)]) (by first | (rw [hb57]; done) | (rw [hb57]; rfl)) ?_
          refine G.no rfl ?_
          refine G.skipK hK52 (fun _ _ h => h) ?_
          refine G.fit [3, 28, 29] (M' := [(3, .int .i64 (q1 : Int)), (28, .agg #[.bool i0, .bool i1, .bool false, .bool i3, .bool i4, .bool i5, .bool i6]), (29, .int .i64 2)]) (by kernel_rfl) ?_
          refine G.eq (M' := [(3, .int .i64 (q1 : Int)), (28, .agg #[.bool i0, .bool i1, .bool i2, .bool i3, .bool i4, .bool i5, .bool i6]), (29, .int .i64 2)]) (by rw [(by assumption : i2 = false)]) ?_
          exact J50 q1 _ ⟨⟨by simp [bit1, (by assumption : i2 = false)], by omega⟩, H45⟩
        · skip
          refine G.eq (M' := [(3, .int .i64 (q1 : Int)), (4, .int .i64 2), (28, .agg #[.bool i0, .bool i1, .bool true, .bool i3, .bool i4, .bool i5, .bool i6]), (29, .int .i64 2), (33, .bool true)]) (by first | (rw [hb57]; done) | (rw [hb57]; rfl)) ?_
          refine G.yes rfl ?_
          refine G.region ?_
          refine GL.run (j := 5) 5 [3, 28, 29] [(3, .int .i64 (Go.bits .or .i64 (q1 : Int) 4)), (28, .agg #[.bool i0, .bool i1, .bool true, .bool i3, .bool i4, .bool i5, .bool i6]), (29, .int .i64 2)] (by kernel_rfl) rfl ?_
          have e58 : (Go.bits .or .i64 (q1 : Int) 4) = ((q1 + 2 ^ 2 : Nat) : Int) := i_or (k := 2) (by decide) (by omega)
          refine GL.eq (M' := [(3, .int .i64 ((q1 + 2 ^ 2 : Nat) : Int)), (28, .agg #[.bool i0, .bool i1, .bool true, .bool i3, .bool i4, .bool i5, .bool i6]), (29, .int .i64 2)]) (by rw [e58]) ?_
          clear e58
          refine GL.k rfl hK52 (fun _ _ h => h) ?_
          refine G.fit [3, 28, 29] (M' := [(3, .int .i64 ((q1 + 2 ^ 2 : Nat) : Int)), (28, .agg #[.bool i0, .bool i1, .bool true, .bool i3, .bool i4, .bool i5, .bool i6]), (29, .int .i64 2)]) (by kernel_rfl) ?_
          refine G.eq (M' := [(3, .int .i64 ((q1 + 2 ^ 2 : Nat) : Int)), (28, .agg #[.bool i0, .bool i1, .bool i2, .bool i3, .bool i4, .bool i5, .bool i6]), (29, .int .i64 2)]) (by rw [(by assumption : i2 = true)]) ?_
          exact J50 (q1 + 2 ^ 2) _ ⟨⟨by simp [bit1, (by assumption : i2 = true)], by omega⟩, H45⟩
      · skip
        rintro q2 w59 ⟨hi60, H61⟩
        refine G.eq (M' := [(3, .int .i64 (q2 : Int)), (28, .agg #[.bool i0, .bool i1, .bool i2, .bool i3, .bool i4, .bool i5, .bool i6]), (29, .int .i64 2)]) rfl ?_
        have H61 : Hp w [] [.blk p3 [.int .u8 (o.toNat : Int), .int .u8 (wh.toNat : Int), .int .u8 (t.toNat : Int), .int .u64 (am : Int), .int .u64 (id : Int), .int .u8 ((ad 0).toNat : Int), .int .u8 ((ad 1).toNat : Int), .int .u8 ((ad 2).toNat : Int), .int .u8 ((ad 3).toNat : Int), .int .u8 ((ad 4).toNat : Int), .int .u8 ((ad 5).toNat : Int), .int .u8 ((ad 6).toNat : Int), .int .u8 ((ad 7).toNat : Int), .int .u8 ((ad 8).toNat : Int), .int .u8 ((ad 9).toNat : Int), .int .u8 ((ad 10).toNat : Int), .int .u8 ((ad 11).toNat : Int), .int .u8 ((ad 12).toNat : Int), .int .u8 ((ad 13).toNat : Int), .int .u8 ((ad 14).toNat : Int), .int .u8 ((ad 15).toNat : Int), .int .u8 ((ad 16).toNat : Int), .int .u8 ((ad 17).toNat : Int), .int .u8 ((ad 18).toNat : Int), .int .u8 ((ad 19).toNat : Int), .bool ag, .slice Bd bd.length bc] 28] w59 := H61
        obtain ⟨hq2, lq2⟩ := hi60
        refine G.region ?_
        refine GL.run (j := 2) 2 [3, 28, 29] [(3, .int .i64 (q2 : Int)), (28, .agg #[.bool i0, .bool i1, .bool i2, .bool i3, .bool i4, .bool i5, .bool i6]), (29, .int .i64 3)] (by kernel_rfl) rfl ?_
        refine GL.round rfl ?_
        refine G.seqK fun K62 hK63 => ?_
        refine G.region ?_
        refine GL.run (j := 1) 1 [3, 28, 29, 30] [(3, .int .i64 (q2 : Int)), (28, .agg #[.bool i0, .bool i1, .bool i2, .bool i3, .bool i4, .bool i5, .bool i6]), (29, .int .i64 3), (30, .bool true)] (by kernel_rfl) rfl ?_
        refine GL.k rfl hK63 (fun _ _ h => h) ?_
        refine G.seqK fun K64 hK65 => ?_
        refine G.yes rfl ?_
        refine G.skipK hK65 (fun _ _ h => h) ?_
        refine G.seqJ (X := Nat) (fun q3 => [(3, .int .i64 (q3 : Int)), (28, .agg #[.bool i0, .bool i1, .bool i2, .bool i3, .bool i4, .bool i5, .bool i6]), (29, .int .i64 3)]) (fun q3 w_ => (q3 = q2 + bit1 i3 3 ∧ q3 < 16) ∧ Hp w [] [.blk p3 [.int .u8 (o.toNat : Int), .int .u8 (wh.toNat : Int), .int .u8 (t.toNat : Int), .int .u64 (am : Int), .int .u64 (id : Int), .int .u8 ((ad 0).toNat : Int), .int .u8 ((ad 1).toNat : Int), .int .u8 ((ad 2).toNat : Int), .int .u8 ((ad 3).toNat : Int), .int .u8 ((ad 4).toNat : Int), .int .u8 ((ad 5).toNat : Int), .int .u8 ((ad 6).toNat : Int), .int .u8 ((ad 7).toNat : Int), .int .u8 ((ad 8).toNat : Int), .int .u8 ((ad 9).toNat : Int), .int .u8 ((ad 10).toNat : Int), .int .u8 ((ad 11).toNat : Int), .int .u8 ((ad 12).toNat : Int), .int .u8 ((ad 13).toNat : Int), .int .u8 ((ad 14).toNat : Int), .int .u8 ((ad 15).toNat : Int), .int .u8 ((ad 16).toNat : Int), .int .u8 ((ad 17).toNat : Int), .int .u8 ((ad 18).toNat : Int), .int .u8 ((ad 19).toNat : Int), .bool ag, .slice Bd bd.length bc] 28] w_) (fun J66 K67 hK68 => ?_) ?_
        · skip
          refine G.block ?_
          refine G.seqK fun K69 hK70 => ?_
          refine G.region ?_
          refine GL.run (j := 4) 4 [3, 4, 5, 28, 29] [(3, .int .i64 (q2 : Int)), (4, .int .i64 3), (5, .bool i3), (28, .agg #[.bool i0, .bool i1, .bool i2, .bool i3, .bool i4, .bool i5, .bool i6]), (29, .int .i64 3)] (by kernel_rfl) rfl ?_
          refine GL.k rfl hK70 (fun _ _ h => h) ?_
          refine G.seqK fun K71 hK72 => ?_
          refine G.region ?_
          refine GL.run (j := 1) 1 [3, 4, 28, 29, 33] [(3, .int .i64 (q2 : Int)), (4, .int .i64 3), (28, .agg #[.bool i0, .bool i1, .bool i2, .bool i3, .bool i4, .bool i5, .bool i6]), (29, .int .i64 3), (33, .bool i3)] (by kernel_rfl) rfl ?_
          refine GL.k rfl hK72 (fun _ _ h => h) ?_
          rcases (Bool.eq_false_or_eq_true i3).symm with hb73 | hb73
          · skip
            refine G.eq (M' := [(3, .int .i64 (q2 : Int)), (4, .int .i64 3), (28, .agg #[.bool i0, .bool i1, .bool i2, .bool false, .bool i4, .bool i5, .bool i6]), (29, .int .i64 3), (33, .bool false)]) (by first | (rw [hb73]; done) | (rw [hb73]; rfl)) ?_
            refine G.no rfl ?_
            refine G.skipK hK68 (fun _ _ h => h) ?_
            refine G.fit [3, 28, 29] (M' := [(3, .int .i64 (q2 : Int)), (28, .agg #[.bool i0, .bool i1, .bool i2, .bool false, .bool i4, .bool i5, .bool i6]), (29, .int .i64 3)]) (by kernel_rfl) ?_
            refine G.eq (M' := [(3, .int .i64 (q2 : Int)), (28, .agg #[.bool i0, .bool i1, .bool i2, .bool i3, .bool i4, .bool i5, .bool i6]), (29, .int .i64 3)]) (by rw [(by assumption : i3 = false)]) ?_
            exact J66 q2 _ ⟨⟨by simp [bit1, (by assumption : i3 = false)], by omega⟩, H61⟩
          · skip
            refine G.eq (M' := [(3, .int .i64 (q2 : Int)), (4, .int .i64 3), (28, .agg #[.bool i0, .bool i1, .bool i2, .bool true, .bool i4, .bool i5, .bool i6]), (29, .int .i64 3), (33, .bool true)]) (by first | (rw [hb73]; done) | (rw [hb73]; rfl)) ?_
            refine G.yes rfl ?_
            refine G.region ?_
            refine GL.run (j := 5) 5 [3, 28, 29] [(3, .int .i64 (Go.bits .or .i64 (q2 : Int) 8)), (28, .agg #[.bool i0, .bool i1, .bool i2, .bool true, .bool i4, .bool i5, .bool i6]), (29, .int .i64 3)] (by kernel_rfl) rfl ?_
            have e74 : (Go.bits .or .i64 (q2 : Int) 8) = ((q2 + 2 ^ 3 : Nat) : Int) := i_or (k := 3) (by decide) (by omega)
            refine GL.eq (M' := [(3, .int .i64 ((q2 + 2 ^ 3 : Nat) : Int)), (28, .agg #[.bool i0, .bool i1, .bool i2, .bool true, .bool i4, .bool i5, .bool i6]), (29, .int .i64 3)]) (by rw [e74]) ?_
            clear e74
            refine GL.k rfl hK68 (fun _ _ h => h) ?_
            refine G.fit [3, 28, 29] (M' := [(3, .int .i64 ((q2 + 2 ^ 3 : Nat) : Int)), (28, .agg #[.bool i0, .bool i1, .bool i2, .bool true, .bool i4, .bool i5, .bool i6]), (29, .int .i64 3)]) (by kernel_rfl) ?_
            refine G.eq (M' := [(3, .int .i64 ((q2 + 2 ^ 3 : Nat) : Int)), (28, .agg #[.bool i0, .bool i1, .bool i2, .bool i3, .bool i4, .bool i5, .bool i6]), (29, .int .i64 3)]) (by rw [(by assumption : i3 = true)]) ?_
            exact J66 (q2 + 2 ^ 3) _ ⟨⟨by simp [bit1, (by assumption : i3 = true)], by omega⟩, H61⟩
        · skip
          rintro q3 w75 ⟨hi76, H77⟩
          refine G.eq (M' := [(3, .int .i64 (q3 : Int)), (28, .agg #[.bool i0, .bool i1, .bool i2, .bool i3, .bool i4, .bool i5, .bool i6]), (29, .int .i64 3)]) rfl ?_
          have H77 : Hp w [] [.blk p3 [.int .u8 (o.toNat : Int), .int .u8 (wh.toNat : Int), .int .u8 (t.toNat : Int), .int .u64 (am : Int), .int .u64 (id : Int), .int .u8 ((ad 0).toNat : Int), .int .u8 ((ad 1).toNat : Int), .int .u8 ((ad 2).toNat : Int), .int .u8 ((ad 3).toNat : Int), .int .u8 ((ad 4).toNat : Int), .int .u8 ((ad 5).toNat : Int), .int .u8 ((ad 6).toNat : Int), .int .u8 ((ad 7).toNat : Int), .int .u8 ((ad 8).toNat : Int), .int .u8 ((ad 9).toNat : Int), .int .u8 ((ad 10).toNat : Int), .int .u8 ((ad 11).toNat : Int), .int .u8 ((ad 12).toNat : Int), .int .u8 ((ad 13).toNat : Int), .int .u8 ((ad 14).toNat : Int), .int .u8 ((ad 15).toNat : Int), .int .u8 ((ad 16).toNat : Int), .int .u8 ((ad 17).toNat : Int), .int .u8 ((ad 18).toNat : Int), .int .u8 ((ad 19).toNat : Int), .bool ag, .slice Bd bd.length bc] 28] w75 := H77
          obtain ⟨hq3, lq3⟩ := hi76
          refine G.region ?_
          refine GL.run (j := 2) 2 [3, 28, 29] [(3, .int .i64 (q3 : Int)), (28, .agg #[.bool i0, .bool i1, .bool i2, .bool i3, .bool i4, .bool i5, .bool i6]), (29, .int .i64 4)] (by kernel_rfl) rfl ?_
          refine GL.round rfl ?_
          refine G.seqK fun K78 hK79 => ?_
          refine G.region ?_
          refine GL.run (j := 1) 1 [3, 28, 29, 30] [(3, .int .i64 (q3 : Int)), (28, .agg #[.bool i0, .bool i1, .bool i2, .bool i3, .bool i4, .bool i5, .bool i6]), (29, .int .i64 4), (30, .bool true)] (by kernel_rfl) rfl ?_
          refine GL.k rfl hK79 (fun _ _ h => h) ?_
          refine G.seqK fun K80 hK81 => ?_
          refine G.yes rfl ?_
          refine G.skipK hK81 (fun _ _ h => h) ?_
          refine G.seqJ (X := Nat) (fun q4 => [(3, .int .i64 (q4 : Int)), (28, .agg #[.bool i0, .bool i1, .bool i2, .bool i3, .bool i4, .bool i5, .bool i6]), (29, .int .i64 4)]) (fun q4 w_ => (q4 = q3 + bit1 i4 4 ∧ q4 < 32) ∧ Hp w [] [.blk p3 [.int .u8 (o.toNat : Int), .int .u8 (wh.toNat : Int), .int .u8 (t.toNat : Int), .int .u64 (am : Int), .int .u64 (id : Int), .int .u8 ((ad 0).toNat : Int), .int .u8 ((ad 1).toNat : Int), .int .u8 ((ad 2).toNat : Int), .int .u8 ((ad 3).toNat : Int), .int .u8 ((ad 4).toNat : Int), .int .u8 ((ad 5).toNat : Int), .int .u8 ((ad 6).toNat : Int), .int .u8 ((ad 7).toNat : Int), .int .u8 ((ad 8).toNat : Int), .int .u8 ((ad 9).toNat : Int), .int .u8 ((ad 10).toNat : Int), .int .u8 ((ad 11).toNat : Int), .int .u8 ((ad 12).toNat : Int), .int .u8 ((ad 13).toNat : Int), .int .u8 ((ad 14).toNat : Int), .int .u8 ((ad 15).toNat : Int), .int .u8 ((ad 16).toNat : Int), .int .u8 ((ad 17).toNat : Int), .int .u8 ((ad 18).toNat : Int), .int .u8 ((ad 19).toNat : Int), .bool ag, .slice Bd bd.length bc] 28] w_) (fun J82 K83 hK84 => ?_) ?_
          · skip
            refine G.block ?_
            refine G.seqK fun K85 hK86 => ?_
            refine G.region ?_
            refine GL.run (j := 4) 4 [3, 4, 5, 28, 29] [(3, .int .i64 (q3 : Int)), (4, .int .i64 4), (5, .bool i4), (28, .agg #[.bool i0, .bool i1, .bool i2, .bool i3, .bool i4, .bool i5, .bool i6]), (29, .int .i64 4)] (by kernel_rfl) rfl ?_
            refine GL.k rfl hK86 (fun _ _ h => h) ?_
            refine G.seqK fun K87 hK88 => ?_
            refine G.region ?_
            refine GL.run (j := 1) 1 [3, 4, 28, 29, 33] [(3, .int .i64 (q3 : Int)), (4, .int .i64 4), (28, .agg #[.bool i0, .bool i1, .bool i2, .bool i3, .bool i4, .bool i5, .bool i6]), (29, .int .i64 4), (33, .bool i4)] (by kernel_rfl) rfl ?_
            refine GL.k rfl hK88 (fun _ _ h => h) ?_
            rcases (Bool.eq_false_or_eq_true i4).symm with hb89 | hb89
            · skip
              refine G.eq (M' := [(3, .int .i64 (q3 : Int)), (4, .int .i64 4), (28, .agg #[.bool i0, .bool i1, .bool i2, .bool i3, .bool false, .bool i5, .bool i6]), (29, .int .i64 4), (33, .bool false)]) (by first | (rw [hb89]; done) | (rw [hb89]; rfl)) ?_
              refine G.no rfl ?_
              refine G.skipK hK84 (fun _ _ h => h) ?_
              refine G.fit [3, 28, 29] (M' := [(3, .int .i64 (q3 : Int)), (28, .agg #[.bool i0, .bool i1, .bool i2, .bool i3, .bool false, .bool i5, .bool i6]), (29, .int .i64 4)]) (by kernel_rfl) ?_
              refine G.eq (M' := [(3, .int .i64 (q3 : Int)), (28, .agg #[.bool i0, .bool i1, .bool i2, .bool i3, .bool i4, .bool i5, .bool i6]), (29, .int .i64 4)]) (by rw [(by assumption : i4 = false)]) ?_
              exact J82 q3 _ ⟨⟨by simp [bit1, (by assumption : i4 = false)], by omega⟩, H77⟩
            · skip
              refine G.eq (M' := [(3, .int .i64 (q3 : Int)), (4, .int .i64 4), (28, .agg #[.bool i0, .bool i1, .bool i2, .bool i3, .bool true, .bool i5, .bool i6]), (29, .int .i64 4), (33, .bool true)]) (by first | (rw [hb89]; done) | (rw [hb89]; rfl)) ?_
              refine G.yes rfl ?_
              refine G.region ?_
              refine GL.run (j := 5) 5 [3, 28, 29] [(3, .int .i64 (Go.bits .or .i64 (q3 : Int) 16)), (28, .agg #[.bool i0, .bool i1, .bool i2, .bool i3, .bool true, .bool i5, .bool i6]), (29, .int .i64 4)] (by kernel_rfl) rfl ?_
              have e90 : (Go.bits .or .i64 (q3 : Int) 16) = ((q3 + 2 ^ 4 : Nat) : Int) := i_or (k := 4) (by decide) (by omega)
              refine GL.eq (M' := [(3, .int .i64 ((q3 + 2 ^ 4 : Nat) : Int)), (28, .agg #[.bool i0, .bool i1, .bool i2, .bool i3, .bool true, .bool i5, .bool i6]), (29, .int .i64 4)]) (by rw [e90]) ?_
              clear e90
              refine GL.k rfl hK84 (fun _ _ h => h) ?_
              refine G.fit [3, 28, 29] (M' := [(3, .int .i64 ((q3 + 2 ^ 4 : Nat) : Int)), (28, .agg #[.bool i0, .bool i1, .bool i2, .bool i3, .bool true, .bool i5, .bool i6]), (29, .int .i64 4)]) (by kernel_rfl) ?_
              refine G.eq (M' := [(3, .int .i64 ((q3 + 2 ^ 4 : Nat) : Int)), (28, .agg #[.bool i0, .bool i1, .bool i2, .bool i3, .bool i4, .bool i5, .bool i6]), (29, .int .i64 4)]) (by rw [(by assumption : i4 = true)]) ?_
              exact J82 (q3 + 2 ^ 4) _ ⟨⟨by simp [bit1, (by assumption : i4 = true)], by omega⟩, H77⟩
          · skip
            rintro q4 w91 ⟨hi92, H93⟩
            refine G.eq (M' := [(3, .int .i64 (q4 : Int)), (28, .agg #[.bool i0, .bool i1, .bool i2, .bool i3, .bool i4, .bool i5, .bool i6]), (29, .int .i64 4)]) rfl ?_
            have H93 : Hp w [] [.blk p3 [.int .u8 (o.toNat : Int), .int .u8 (wh.toNat : Int), .int .u8 (t.toNat : Int), .int .u64 (am : Int), .int .u64 (id : Int), .int .u8 ((ad 0).toNat : Int), .int .u8 ((ad 1).toNat : Int), .int .u8 ((ad 2).toNat : Int), .int .u8 ((ad 3).toNat : Int), .int .u8 ((ad 4).toNat : Int), .int .u8 ((ad 5).toNat : Int), .int .u8 ((ad 6).toNat : Int), .int .u8 ((ad 7).toNat : Int), .int .u8 ((ad 8).toNat : Int), .int .u8 ((ad 9).toNat : Int), .int .u8 ((ad 10).toNat : Int), .int .u8 ((ad 11).toNat : Int), .int .u8 ((ad 12).toNat : Int), .int .u8 ((ad 13).toNat : Int), .int .u8 ((ad 14).toNat : Int), .int .u8 ((ad 15).toNat : Int), .int .u8 ((ad 16).toNat : Int), .int .u8 ((ad 17).toNat : Int), .int .u8 ((ad 18).toNat : Int), .int .u8 ((ad 19).toNat : Int), .bool ag, .slice Bd bd.length bc] 28] w91 := H93
            obtain ⟨hq4, lq4⟩ := hi92
            refine G.region ?_
            refine GL.run (j := 2) 2 [3, 28, 29] [(3, .int .i64 (q4 : Int)), (28, .agg #[.bool i0, .bool i1, .bool i2, .bool i3, .bool i4, .bool i5, .bool i6]), (29, .int .i64 5)] (by kernel_rfl) rfl ?_
            refine GL.round rfl ?_
            refine G.seqK fun K94 hK95 => ?_
            refine G.region ?_
            refine GL.run (j := 1) 1 [3, 28, 29, 30] [(3, .int .i64 (q4 : Int)), (28, .agg #[.bool i0, .bool i1, .bool i2, .bool i3, .bool i4, .bool i5, .bool i6]), (29, .int .i64 5), (30, .bool true)] (by kernel_rfl) rfl ?_
            refine GL.k rfl hK95 (fun _ _ h => h) ?_
            refine G.seqK fun K96 hK97 => ?_
            refine G.yes rfl ?_
            refine G.skipK hK97 (fun _ _ h => h) ?_
            refine G.seqJ (X := Nat) (fun q5 => [(3, .int .i64 (q5 : Int)), (28, .agg #[.bool i0, .bool i1, .bool i2, .bool i3, .bool i4, .bool i5, .bool i6]), (29, .int .i64 5)]) (fun q5 w_ => (q5 = q4 + bit1 i5 5 ∧ q5 < 64) ∧ Hp w [] [.blk p3 [.int .u8 (o.toNat : Int), .int .u8 (wh.toNat : Int), .int .u8 (t.toNat : Int), .int .u64 (am : Int), .int .u64 (id : Int), .int .u8 ((ad 0).toNat : Int), .int .u8 ((ad 1).toNat : Int), .int .u8 ((ad 2).toNat : Int), .int .u8 ((ad 3).toNat : Int), .int .u8 ((ad 4).toNat : Int), .int .u8 ((ad 5).toNat : Int), .int .u8 ((ad 6).toNat : Int), .int .u8 ((ad 7).toNat : Int), .int .u8 ((ad 8).toNat : Int), .int .u8 ((ad 9).toNat : Int), .int .u8 ((ad 10).toNat : Int), .int .u8 ((ad 11).toNat : Int), .int .u8 ((ad 12).toNat : Int), .int .u8 ((ad 13).toNat : Int), .int .u8 ((ad 14).toNat : Int), .int .u8 ((ad 15).toNat : Int), .int .u8 ((ad 16).toNat : Int), .int .u8 ((ad 17).toNat : Int), .int .u8 ((ad 18).toNat : Int), .int .u8 ((ad 19).toNat : Int), .bool ag, .slice Bd bd.length bc] 28] w_) (fun J98 K99 hK100 => ?_) ?_
            · skip
              refine G.block ?_
              refine G.seqK fun K101 hK102 => ?_
              refine G.region ?_
              refine GL.run (j := 4) 4 [3, 4, 5, 28, 29] [(3, .int .i64 (q4 : Int)), (4, .int .i64 5), (5, .bool i5), (28, .agg #[.bool i0, .bool i1, .bool i2, .bool i3, .bool i4, .bool i5, .bool i6]), (29, .int .i64 5)] (by kernel_rfl) rfl ?_
              refine GL.k rfl hK102 (fun _ _ h => h) ?_
              refine G.seqK fun K103 hK104 => ?_
              refine G.region ?_
              refine GL.run (j := 1) 1 [3, 4, 28, 29, 33] [(3, .int .i64 (q4 : Int)), (4, .int .i64 5), (28, .agg #[.bool i0, .bool i1, .bool i2, .bool i3, .bool i4, .bool i5, .bool i6]), (29, .int .i64 5), (33, .bool i5)] (by kernel_rfl) rfl ?_
              refine GL.k rfl hK104 (fun _ _ h => h) ?_
              rcases (Bool.eq_false_or_eq_true i5).symm with hb105 | hb105
              · skip
                refine G.eq (M' := [(3, .int .i64 (q4 : Int)), (4, .int .i64 5), (28, .agg #[.bool i0, .bool i1, .bool i2, .bool i3, .bool i4, .bool false, .bool i6]), (29, .int .i64 5), (33, .bool false)]) (by first | (rw [hb105]; done) | (rw [hb105]; rfl)) ?_
                refine G.no rfl ?_
                refine G.skipK hK100 (fun _ _ h => h) ?_
                refine G.fit [3, 28, 29] (M' := [(3, .int .i64 (q4 : Int)), (28, .agg #[.bool i0, .bool i1, .bool i2, .bool i3, .bool i4, .bool false, .bool i6]), (29, .int .i64 5)]) (by kernel_rfl) ?_
                refine G.eq (M' := [(3, .int .i64 (q4 : Int)), (28, .agg #[.bool i0, .bool i1, .bool i2, .bool i3, .bool i4, .bool i5, .bool i6]), (29, .int .i64 5)]) (by rw [(by assumption : i5 = false)]) ?_
                exact J98 q4 _ ⟨⟨by simp [bit1, (by assumption : i5 = false)], by omega⟩, H93⟩
              · skip
                refine G.eq (M' := [(3, .int .i64 (q4 : Int)), (4, .int .i64 5), (28, .agg #[.bool i0, .bool i1, .bool i2, .bool i3, .bool i4, .bool true, .bool i6]), (29, .int .i64 5), (33, .bool true)]) (by first | (rw [hb105]; done) | (rw [hb105]; rfl)) ?_
                refine G.yes rfl ?_
                refine G.region ?_
                refine GL.run (j := 5) 5 [3, 28, 29] [(3, .int .i64 (Go.bits .or .i64 (q4 : Int) 32)), (28, .agg #[.bool i0, .bool i1, .bool i2, .bool i3, .bool i4, .bool true, .bool i6]), (29, .int .i64 5)] (by kernel_rfl) rfl ?_
                have e106 : (Go.bits .or .i64 (q4 : Int) 32) = ((q4 + 2 ^ 5 : Nat) : Int) := i_or (k := 5) (by decide) (by omega)
                refine GL.eq (M' := [(3, .int .i64 ((q4 + 2 ^ 5 : Nat) : Int)), (28, .agg #[.bool i0, .bool i1, .bool i2, .bool i3, .bool i4, .bool true, .bool i6]), (29, .int .i64 5)]) (by rw [e106]) ?_
                clear e106
                refine GL.k rfl hK100 (fun _ _ h => h) ?_
                refine G.fit [3, 28, 29] (M' := [(3, .int .i64 ((q4 + 2 ^ 5 : Nat) : Int)), (28, .agg #[.bool i0, .bool i1, .bool i2, .bool i3, .bool i4, .bool true, .bool i6]), (29, .int .i64 5)]) (by kernel_rfl) ?_
                refine G.eq (M' := [(3, .int .i64 ((q4 + 2 ^ 5 : Nat) : Int)), (28, .agg #[.bool i0, .bool i1, .bool i2, .bool i3, .bool i4, .bool i5, .bool i6]), (29, .int .i64 5)]) (by rw [(by assumption : i5 = true)]) ?_
                exact J98 (q4 + 2 ^ 5) _ ⟨⟨by simp [bit1, (by assumption : i5 = true)], by omega⟩, H93⟩
            · skip
              rintro q5 w107 ⟨hi108, H109⟩
              refine G.eq (M' := [(3, .int .i64 (q5 : Int)), (28, .agg #[.bool i0, .bool i1, .bool i2, .bool i3, .bool i4, .bool i5, .bool i6]), (29, .int .i64 5)]) rfl ?_
              have H109 : Hp w [] [.blk p3 [.int .u8 (o.toNat : Int), .int .u8 (wh.toNat : Int), .int .u8 (t.toNat : Int), .int .u64 (am : Int), .int .u64 (id : Int), .int .u8 ((ad 0).toNat : Int), .int .u8 ((ad 1).toNat : Int), .int .u8 ((ad 2).toNat : Int), .int .u8 ((ad 3).toNat : Int), .int .u8 ((ad 4).toNat : Int), .int .u8 ((ad 5).toNat : Int), .int .u8 ((ad 6).toNat : Int), .int .u8 ((ad 7).toNat : Int), .int .u8 ((ad 8).toNat : Int), .int .u8 ((ad 9).toNat : Int), .int .u8 ((ad 10).toNat : Int), .int .u8 ((ad 11).toNat : Int), .int .u8 ((ad 12).toNat : Int), .int .u8 ((ad 13).toNat : Int), .int .u8 ((ad 14).toNat : Int), .int .u8 ((ad 15).toNat : Int), .int .u8 ((ad 16).toNat : Int), .int .u8 ((ad 17).toNat : Int), .int .u8 ((ad 18).toNat : Int), .int .u8 ((ad 19).toNat : Int), .bool ag, .slice Bd bd.length bc] 28] w107 := H109
              obtain ⟨hq5, lq5⟩ := hi108
              refine G.region ?_
              refine GL.run (j := 2) 2 [3, 28, 29] [(3, .int .i64 (q5 : Int)), (28, .agg #[.bool i0, .bool i1, .bool i2, .bool i3, .bool i4, .bool i5, .bool i6]), (29, .int .i64 6)] (by kernel_rfl) rfl ?_
              refine GL.round rfl ?_
              refine G.seqK fun K110 hK111 => ?_
              refine G.region ?_
              refine GL.run (j := 1) 1 [3, 28, 29, 30] [(3, .int .i64 (q5 : Int)), (28, .agg #[.bool i0, .bool i1, .bool i2, .bool i3, .bool i4, .bool i5, .bool i6]), (29, .int .i64 6), (30, .bool true)] (by kernel_rfl) rfl ?_
              refine GL.k rfl hK111 (fun _ _ h => h) ?_
              refine G.seqK fun K112 hK113 => ?_
              refine G.yes rfl ?_
              refine G.skipK hK113 (fun _ _ h => h) ?_
              refine G.seqJ (X := Nat) (fun q6 => [(3, .int .i64 (q6 : Int)), (28, .agg #[.bool i0, .bool i1, .bool i2, .bool i3, .bool i4, .bool i5, .bool i6]), (29, .int .i64 6)]) (fun q6 w_ => (q6 = q5 + bit1 i6 6 ∧ q6 < 128) ∧ Hp w [] [.blk p3 [.int .u8 (o.toNat : Int), .int .u8 (wh.toNat : Int), .int .u8 (t.toNat : Int), .int .u64 (am : Int), .int .u64 (id : Int), .int .u8 ((ad 0).toNat : Int), .int .u8 ((ad 1).toNat : Int), .int .u8 ((ad 2).toNat : Int), .int .u8 ((ad 3).toNat : Int), .int .u8 ((ad 4).toNat : Int), .int .u8 ((ad 5).toNat : Int), .int .u8 ((ad 6).toNat : Int), .int .u8 ((ad 7).toNat : Int), .int .u8 ((ad 8).toNat : Int), .int .u8 ((ad 9).toNat : Int), .int .u8 ((ad 10).toNat : Int), .int .u8 ((ad 11).toNat : Int), .int .u8 ((ad 12).toNat : Int), .int .u8 ((ad 13).toNat : Int), .int .u8 ((ad 14).toNat : Int), .int .u8 ((ad 15).toNat : Int), .int .u8 ((ad 16).toNat : Int), .int .u8 ((ad 17).toNat : Int), .int .u8 ((ad 18).toNat : Int), .int .u8 ((ad 19).toNat : Int), .bool ag, .slice Bd bd.length bc] 28] w_) (fun J114 K115 hK116 => ?_) ?_
              · skip
                refine G.block ?_
                refine G.seqK fun K117 hK118 => ?_
                refine G.region ?_
                refine GL.run (j := 4) 4 [3, 4, 5, 28, 29] [(3, .int .i64 (q5 : Int)), (4, .int .i64 6), (5, .bool i6), (28, .agg #[.bool i0, .bool i1, .bool i2, .bool i3, .bool i4, .bool i5, .bool i6]), (29, .int .i64 6)] (by kernel_rfl) rfl ?_
                refine GL.k rfl hK118 (fun _ _ h => h) ?_
                refine G.seqK fun K119 hK120 => ?_
                refine G.region ?_
                refine GL.run (j := 1) 1 [3, 4, 28, 29, 33] [(3, .int .i64 (q5 : Int)), (4, .int .i64 6), (28, .agg #[.bool i0, .bool i1, .bool i2, .bool i3, .bool i4, .bool i5, .bool i6]), (29, .int .i64 6), (33, .bool i6)] (by kernel_rfl) rfl ?_
                refine GL.k rfl hK120 (fun _ _ h => h) ?_
                rcases (Bool.eq_false_or_eq_true i6).symm with hb121 | hb121
                · skip
                  refine G.eq (M' := [(3, .int .i64 (q5 : Int)), (4, .int .i64 6), (28, .agg #[.bool i0, .bool i1, .bool i2, .bool i3, .bool i4, .bool i5, .bool false]), (29, .int .i64 6), (33, .bool false)]) (by first | (rw [hb121]; done) | (rw [hb121]; rfl)) ?_
                  refine G.no rfl ?_
                  refine G.skipK hK116 (fun _ _ h => h) ?_
                  refine G.fit [3, 28, 29] (M' := [(3, .int .i64 (q5 : Int)), (28, .agg #[.bool i0, .bool i1, .bool i2, .bool i3, .bool i4, .bool i5, .bool false]), (29, .int .i64 6)]) (by kernel_rfl) ?_
                  refine G.eq (M' := [(3, .int .i64 (q5 : Int)), (28, .agg #[.bool i0, .bool i1, .bool i2, .bool i3, .bool i4, .bool i5, .bool i6]), (29, .int .i64 6)]) (by rw [(by assumption : i6 = false)]) ?_
                  exact J114 q5 _ ⟨⟨by simp [bit1, (by assumption : i6 = false)], by omega⟩, H109⟩
                · skip
                  refine G.eq (M' := [(3, .int .i64 (q5 : Int)), (4, .int .i64 6), (28, .agg #[.bool i0, .bool i1, .bool i2, .bool i3, .bool i4, .bool i5, .bool true]), (29, .int .i64 6), (33, .bool true)]) (by first | (rw [hb121]; done) | (rw [hb121]; rfl)) ?_
                  refine G.yes rfl ?_
                  refine G.region ?_
                  refine GL.run (j := 5) 5 [3, 28, 29] [(3, .int .i64 (Go.bits .or .i64 (q5 : Int) 64)), (28, .agg #[.bool i0, .bool i1, .bool i2, .bool i3, .bool i4, .bool i5, .bool true]), (29, .int .i64 6)] (by kernel_rfl) rfl ?_
                  have e122 : (Go.bits .or .i64 (q5 : Int) 64) = ((q5 + 2 ^ 6 : Nat) : Int) := i_or (k := 6) (by decide) (by omega)
                  refine GL.eq (M' := [(3, .int .i64 ((q5 + 2 ^ 6 : Nat) : Int)), (28, .agg #[.bool i0, .bool i1, .bool i2, .bool i3, .bool i4, .bool i5, .bool true]), (29, .int .i64 6)]) (by rw [e122]) ?_
                  clear e122
                  refine GL.k rfl hK116 (fun _ _ h => h) ?_
                  refine G.fit [3, 28, 29] (M' := [(3, .int .i64 ((q5 + 2 ^ 6 : Nat) : Int)), (28, .agg #[.bool i0, .bool i1, .bool i2, .bool i3, .bool i4, .bool i5, .bool true]), (29, .int .i64 6)]) (by kernel_rfl) ?_
                  refine G.eq (M' := [(3, .int .i64 ((q5 + 2 ^ 6 : Nat) : Int)), (28, .agg #[.bool i0, .bool i1, .bool i2, .bool i3, .bool i4, .bool i5, .bool i6]), (29, .int .i64 6)]) (by rw [(by assumption : i6 = true)]) ?_
                  exact J114 (q5 + 2 ^ 6) _ ⟨⟨by simp [bit1, (by assumption : i6 = true)], by omega⟩, H109⟩
              · skip
                rintro q6 w123 ⟨hi124, H125⟩
                refine G.eq (M' := [(3, .int .i64 (q6 : Int)), (28, .agg #[.bool i0, .bool i1, .bool i2, .bool i3, .bool i4, .bool i5, .bool i6]), (29, .int .i64 6)]) rfl ?_
                have H125 : Hp w [] [.blk p3 [.int .u8 (o.toNat : Int), .int .u8 (wh.toNat : Int), .int .u8 (t.toNat : Int), .int .u64 (am : Int), .int .u64 (id : Int), .int .u8 ((ad 0).toNat : Int), .int .u8 ((ad 1).toNat : Int), .int .u8 ((ad 2).toNat : Int), .int .u8 ((ad 3).toNat : Int), .int .u8 ((ad 4).toNat : Int), .int .u8 ((ad 5).toNat : Int), .int .u8 ((ad 6).toNat : Int), .int .u8 ((ad 7).toNat : Int), .int .u8 ((ad 8).toNat : Int), .int .u8 ((ad 9).toNat : Int), .int .u8 ((ad 10).toNat : Int), .int .u8 ((ad 11).toNat : Int), .int .u8 ((ad 12).toNat : Int), .int .u8 ((ad 13).toNat : Int), .int .u8 ((ad 14).toNat : Int), .int .u8 ((ad 15).toNat : Int), .int .u8 ((ad 16).toNat : Int), .int .u8 ((ad 17).toNat : Int), .int .u8 ((ad 18).toNat : Int), .int .u8 ((ad 19).toNat : Int), .bool ag, .slice Bd bd.length bc] 28] w123 := H125
                obtain ⟨hq6, lq6⟩ := hi124
                refine G.region ?_
                refine GL.run (j := 2) 2 [3, 28, 29] [(3, .int .i64 (q6 : Int)), (28, .agg #[.bool i0, .bool i1, .bool i2, .bool i3, .bool i4, .bool i5, .bool i6]), (29, .int .i64 7)] (by kernel_rfl) rfl ?_
                refine GL.round rfl ?_
                refine G.seqK fun K126 hK127 => ?_
                refine G.region ?_
                refine GL.run (j := 1) 1 [3, 28, 29, 30] [(3, .int .i64 (q6 : Int)), (28, .agg #[.bool i0, .bool i1, .bool i2, .bool i3, .bool i4, .bool i5, .bool i6]), (29, .int .i64 7), (30, .bool false)] (by kernel_rfl) rfl ?_
                refine GL.k rfl hK127 (fun _ _ h => h) ?_
                refine G.seqK fun K128 hK129 => ?_
                refine G.no rfl ?_
                refine G.exitK hK10 (fun _ _ h => h) ?_
                refine G.seqK fun K130 hK131 => ?_
                refine G.region ?_
                refine GL.run (j := 2) 2 [2] [(2, .int .i64 (q6 : Int))] (by kernel_rfl) rfl ?_
                refine GL.k rfl hK131 (fun _ _ h => h) ?_
                refine G.ret ?_
                intro F_ hF_ hM_
                refine hRet _ _ (bodyPost_1 rfl (RV.tmp rfl) ?_ F_ hF_ hM_)
                have e0 : q6 = cmdM wh t am id ad ag bd := by unfold cmdM setM; rw [hq6, hq5, hq4, hq3, hq2, hq1, hq0, hi0, hi1, hi2, hi3, hi4, hi5, hi6]
                rw [← e0]
                exact ⟨rfl, H125.sub (List.nil_sublist _)⟩
set_option maxHeartbeats 4000000 in
theorem CBytes_calls (o wh t : UInt8) (am id : Nat) (ad : Nat → UInt8) (ag : Bool) (Bd : Option Addr) (bd : List UInt8) (bc : Nat) (w : World) (ham : am < K) (hid : id < K) (hBd : RdS w Bd (by8 bd)) (hbc : bd.length ≤ 9000) : Calls Try.prog 8 #[.agg #[.int .u8 (o.toNat : Int), .int .u8 (wh.toNat : Int), .int .u8 (t.toNat : Int), .int .u64 (am : Int), .int .u64 (id : Int), .int .u8 ((ad 0).toNat : Int), .int .u8 ((ad 1).toNat : Int), .int .u8 ((ad 2).toNat : Int), .int .u8 ((ad 3).toNat : Int), .int .u8 ((ad 4).toNat : Int), .int .u8 ((ad 5).toNat : Int), .int .u8 ((ad 6).toNat : Int), .int .u8 ((ad 7).toNat : Int), .int .u8 ((ad 8).toNat : Int), .int .u8 ((ad 9).toNat : Int), .int .u8 ((ad 10).toNat : Int), .int .u8 ((ad 11).toNat : Int), .int .u8 ((ad 12).toNat : Int), .int .u8 ((ad 13).toNat : Int), .int .u8 ((ad 14).toNat : Int), .int .u8 ((ad 15).toNat : Int), .int .u8 ((ad 16).toNat : Int), .int .u8 ((ad 17).toNat : Int), .int .u8 ((ad 18).toNat : Int), .int .u8 ((ad 19).toNat : Int), .bool ag, .slice Bd bd.length bc]] w fun e w' => ∃ A n c, e = .returned (.tuple #[.slice A n c, .int .i64 ((cmdE o wh t am id ad ag bd : Nat) : Int)]) ∧ Hp w [] [.row A n c 5 1 (by8 (cmdO o wh t am id ad ag bd))] w' := by
  refine calls_G (args := [.agg #[.int .u8 (o.toNat : Int), .int .u8 (wh.toNat : Int), .int .u8 (t.toNat : Int), .int .u64 (am : Int), .int .u64 (id : Int), .int .u8 ((ad 0).toNat : Int), .int .u8 ((ad 1).toNat : Int), .int .u8 ((ad 2).toNat : Int), .int .u8 ((ad 3).toNat : Int), .int .u8 ((ad 4).toNat : Int), .int .u8 ((ad 5).toNat : Int), .int .u8 ((ad 6).toNat : Int), .int .u8 ((ad 7).toNat : Int), .int .u8 ((ad 8).toNat : Int), .int .u8 ((ad 9).toNat : Int), .int .u8 ((ad 10).toNat : Int), .int .u8 ((ad 11).toNat : Int), .int .u8 ((ad 12).toNat : Int), .int .u8 ((ad 13).toNat : Int), .int .u8 ((ad 14).toNat : Int), .int .u8 ((ad 15).toNat : Int), .int .u8 ((ad 16).toNat : Int), .int .u8 ((ad 17).toNat : Int), .int .u8 ((ad 18).toNat : Int), .int .u8 ((ad 19).toNat : Int), .bool ag, .slice Bd bd.length bc]]) Try.func8 rfl Try.ntmps8 rfl ?_
  intro Q0 hRet hNor hPan
  have H := Hp.start w
  have H : Hp w [] [] w := H
  refine G.seqK fun K1 hK2 => ?_
  refine G.region ?_
  obtain ⟨p3, w4, r5, H6⟩ := H.box (P := Try.prog) 28 [.int .u8 (o.toNat : Int), .int .u8 (wh.toNat : Int), .int .u8 (t.toNat : Int), .int .u64 (am : Int), .int .u64 (id : Int), .int .u8 ((ad 0).toNat : Int), .int .u8 ((ad 1).toNat : Int), .int .u8 ((ad 2).toNat : Int), .int .u8 ((ad 3).toNat : Int), .int .u8 ((ad 4).toNat : Int), .int .u8 ((ad 5).toNat : Int), .int .u8 ((ad 6).toNat : Int), .int .u8 ((ad 7).toNat : Int), .int .u8 ((ad 8).toNat : Int), .int .u8 ((ad 9).toNat : Int), .int .u8 ((ad 10).toNat : Int), .int .u8 ((ad 11).toNat : Int), .int .u8 ((ad 12).toNat : Int), .int .u8 ((ad 13).toNat : Int), .int .u8 ((ad 14).toNat : Int), .int .u8 ((ad 15).toNat : Int), .int .u8 ((ad 16).toNat : Int), .int .u8 ((ad 17).toNat : Int), .int .u8 ((ad 18).toNat : Int), .int .u8 ((ad 19).toNat : Int), .bool ag, .slice Bd bd.length bc] (.agg #[.int .u8 (o.toNat : Int), .int .u8 (wh.toNat : Int), .int .u8 (t.toNat : Int), .int .u64 (am : Int), .int .u64 (id : Int), .int .u8 ((ad 0).toNat : Int), .int .u8 ((ad 1).toNat : Int), .int .u8 ((ad 2).toNat : Int), .int .u8 ((ad 3).toNat : Int), .int .u8 ((ad 4).toNat : Int), .int .u8 ((ad 5).toNat : Int), .int .u8 ((ad 6).toNat : Int), .int .u8 ((ad 7).toNat : Int), .int .u8 ((ad 8).toNat : Int), .int .u8 ((ad 9).toNat : Int), .int .u8 ((ad 10).toNat : Int), .int .u8 ((ad 11).toNat : Int), .int .u8 ((ad 12).toNat : Int), .int .u8 ((ad 13).toNat : Int), .int .u8 ((ad 14).toNat : Int), .int .u8 ((ad 15).toNat : Int), .int .u8 ((ad 16).toNat : Int), .int .u8 ((ad 17).toNat : Int), .int .u8 ((ad 18).toNat : Int), .int .u8 ((ad 19).toNat : Int), .bool ag, .slice Bd bd.length bc]) rfl
  have H6 : Hp w [] [.blk p3 [.int .u8 (o.toNat : Int), .int .u8 (wh.toNat : Int), .int .u8 (t.toNat : Int), .int .u64 (am : Int), .int .u64 (id : Int), .int .u8 ((ad 0).toNat : Int), .int .u8 ((ad 1).toNat : Int), .int .u8 ((ad 2).toNat : Int), .int .u8 ((ad 3).toNat : Int), .int .u8 ((ad 4).toNat : Int), .int .u8 ((ad 5).toNat : Int), .int .u8 ((ad 6).toNat : Int), .int .u8 ((ad 7).toNat : Int), .int .u8 ((ad 8).toNat : Int), .int .u8 ((ad 9).toNat : Int), .int .u8 ((ad 10).toNat : Int), .int .u8 ((ad 11).toNat : Int), .int .u8 ((ad 12).toNat : Int), .int .u8 ((ad 13).toNat : Int), .int .u8 ((ad 14).toNat : Int), .int .u8 ((ad 15).toNat : Int), .int .u8 ((ad 16).toNat : Int), .int .u8 ((ad 17).toNat : Int), .int .u8 ((ad 18).toNat : Int), .int .u8 ((ad 19).toNat : Int), .bool ag, .slice Bd bd.length bc] 28] w4 := H6
  refine GL.sem (j := 1) (r5) [1] [(1, pt p3 0)] (by kernel_rfl) (by kernel_rfl) rfl ?_
  refine GL.run (j := 3) 2 [1] [(1, pt p3 0)] (by kernel_rfl) rfl ?_
  refine GL.k rfl hK2 (fun _ _ h => h) ?_
  refine G.seqK fun K7 hK8 => ?_
  refine G.region ?_
  refine GL.run (j := 1) 1 [1, 8] [(1, pt p3 0), (8, pt p3 0)] (by kernel_rfl) rfl ?_
  refine GL.sem (j := 2) (H6.ld (o := 0) (ty := 5) (v := .int .u8 (o.toNat : Int)) 0 rfl (by kernel_rfl) rfl) [1, 9] [(1, pt p3 0), (9, .int .u8 (o.toNat : Int))] (by kernel_rfl) (by kernel_rfl) rfl ?_
  refine GL.call (j := 3) (fields_calls o w4) (by kernel_rfl) rfl (fun e_ w9 hR => ?_)
  obtain ⟨rfl, H11⟩ := hR
  have H10 : Hp w [] [.blk p3 [.int .u8 (o.toNat : Int), .int .u8 (wh.toNat : Int), .int .u8 (t.toNat : Int), .int .u64 (am : Int), .int .u64 (id : Int), .int .u8 ((ad 0).toNat : Int), .int .u8 ((ad 1).toNat : Int), .int .u8 ((ad 2).toNat : Int), .int .u8 ((ad 3).toNat : Int), .int .u8 ((ad 4).toNat : Int), .int .u8 ((ad 5).toNat : Int), .int .u8 ((ad 6).toNat : Int), .int .u8 ((ad 7).toNat : Int), .int .u8 ((ad 8).toNat : Int), .int .u8 ((ad 9).toNat : Int), .int .u8 ((ad 10).toNat : Int), .int .u8 ((ad 11).toNat : Int), .int .u8 ((ad 12).toNat : Int), .int .u8 ((ad 13).toNat : Int), .int .u8 ((ad 14).toNat : Int), .int .u8 ((ad 15).toNat : Int), .int .u8 ((ad 16).toNat : Int), .int .u8 ((ad 17).toNat : Int), .int .u8 ((ad 18).toNat : Int), .int .u8 ((ad 19).toNat : Int), .bool ag, .slice Bd bd.length bc] 28] w9 := H6.callNil H11
  refine ⟨_, rfl, [1, 10], [(1, pt p3 0), (10, .int .i64 (((fm o.toNat) : Nat) : Int))], by kernel_rfl, ?_⟩
  refine GL.run (j := 4) 1 [1, 4] [(1, pt p3 0), (4, .int .i64 (((fm o.toNat) : Nat) : Int))] (by kernel_rfl) rfl ?_
  refine GL.k rfl hK8 (fun _ _ h => h) ?_
  refine G.seqK fun K12 hK13 => ?_
  refine G.block ?_
  refine G.seqK fun K14 hK15 => ?_
  refine G.region ?_
  refine GL.run (j := 3) 3 [1, 4, 14] [(1, pt p3 0), (4, .int .i64 (((fm o.toNat) : Nat) : Int)), (14, .bool ((((fm o.toNat) : Nat) : Int) == 0))] (by kernel_rfl) rfl ?_
  cases hb16 : ((((fm o.toNat) : Nat) : Int) == 0)
  · skip
    have hb16f := ne_of_beq_false hb16
    refine GL.sem (j := 4) (H10.ldA (o := 0) (ty := 28) (m := 27) (sub := [.int .u8 (o.toNat : Int), .int .u8 (wh.toNat : Int), .int .u8 (t.toNat : Int), .int .u64 (am : Int), .int .u64 (id : Int), .int .u8 ((ad 0).toNat : Int), .int .u8 ((ad 1).toNat : Int), .int .u8 ((ad 2).toNat : Int), .int .u8 ((ad 3).toNat : Int), .int .u8 ((ad 4).toNat : Int), .int .u8 ((ad 5).toNat : Int), .int .u8 ((ad 6).toNat : Int), .int .u8 ((ad 7).toNat : Int), .int .u8 ((ad 8).toNat : Int), .int .u8 ((ad 9).toNat : Int), .int .u8 ((ad 10).toNat : Int), .int .u8 ((ad 11).toNat : Int), .int .u8 ((ad 12).toNat : Int), .int .u8 ((ad 13).toNat : Int), .int .u8 ((ad 14).toNat : Int), .int .u8 ((ad 15).toNat : Int), .int .u8 ((ad 16).toNat : Int), .int .u8 ((ad 17).toNat : Int), .int .u8 ((ad 18).toNat : Int), .int .u8 ((ad 19).toNat : Int), .bool ag, .slice Bd bd.length bc]) 0 rfl (by kernel_rfl) rfl rfl) [1, 4, 14, 15] [(1, pt p3 0), (4, .int .i64 (((fm o.toNat) : Nat) : Int)), (14, .bool false), (15, .agg #[.int .u8 (o.toNat : Int), .int .u8 (wh.toNat : Int), .int .u8 (t.toNat : Int), .int .u64 (am : Int), .int .u64 (id : Int), .int .u8 ((ad 0).toNat : Int), .int .u8 ((ad 1).toNat : Int), .int .u8 ((ad 2).toNat : Int), .int .u8 ((ad 3).toNat : Int), .int .u8 ((ad 4).toNat : Int), .int .u8 ((ad 5).toNat : Int), .int .u8 ((ad 6).toNat : Int), .int .u8 ((ad 7).toNat : Int), .int .u8 ((ad 8).toNat : Int), .int .u8 ((ad 9).toNat : Int), .int .u8 ((ad 10).toNat : Int), .int .u8 ((ad 11).toNat : Int), .int .u8 ((ad 12).toNat : Int), .int .u8 ((ad 13).toNat : Int), .int .u8 ((ad 14).toNat : Int), .int .u8 ((ad 15).toNat : Int), .int .u8 ((ad 16).toNat : Int), .int .u8 ((ad 17).toNat : Int), .int .u8 ((ad 18).toNat : Int), .int .u8 ((ad 19).toNat : Int), .bool ag, .slice Bd bd.length bc])] (by kernel_rfl) (by kernel_rfl) rfl ?_
    refine GL.call (j := 5) (set_calls o wh t am id ad ag Bd bd bc w9 ham hid (hBd.hp H10) hbc) (by kernel_rfl) rfl (fun e_ w17 hR => ?_)
    obtain ⟨rfl, H19⟩ := hR
    have H18 : Hp w [] [.blk p3 [.int .u8 (o.toNat : Int), .int .u8 (wh.toNat : Int), .int .u8 (t.toNat : Int), .int .u64 (am : Int), .int .u64 (id : Int), .int .u8 ((ad 0).toNat : Int), .int .u8 ((ad 1).toNat : Int), .int .u8 ((ad 2).toNat : Int), .int .u8 ((ad 3).toNat : Int), .int .u8 ((ad 4).toNat : Int), .int .u8 ((ad 5).toNat : Int), .int .u8 ((ad 6).toNat : Int), .int .u8 ((ad 7).toNat : Int), .int .u8 ((ad 8).toNat : Int), .int .u8 ((ad 9).toNat : Int), .int .u8 ((ad 10).toNat : Int), .int .u8 ((ad 11).toNat : Int), .int .u8 ((ad 12).toNat : Int), .int .u8 ((ad 13).toNat : Int), .int .u8 ((ad 14).toNat : Int), .int .u8 ((ad 15).toNat : Int), .int .u8 ((ad 16).toNat : Int), .int .u8 ((ad 17).toNat : Int), .int .u8 ((ad 18).toNat : Int), .int .u8 ((ad 19).toNat : Int), .bool ag, .slice Bd bd.length bc] 28] w17 := H10.callNil H19
    refine ⟨_, rfl, [1, 4, 14, 16], [(1, pt p3 0), (4, .int .i64 (((fm o.toNat) : Nat) : Int)), (14, .bool false), (16, .int .i64 (((cmdM wh t am id ad ag bd) : Nat) : Int))], by kernel_rfl, ?_⟩
    refine GL.run (j := 10) 5 [1, 4, 11] [(1, pt p3 0), (4, .int .i64 (((fm o.toNat) : Nat) : Int)), (11, .bool ((Go.bits .andNot .i64 (((cmdM wh t am id ad ag bd) : Nat) : Int) (((fm o.toNat) : Nat) : Int)) != 0))] (by kernel_rfl) rfl ?_
    have e20 : (Go.bits .andNot .i64 (((cmdM wh t am id ad ag bd) : Nat) : Int) (((fm o.toNat) : Nat) : Int)) = ((lacks (cmdM wh t am id ad ag bd) (fm o.toNat) : Nat) : Int) := i_andnot (setM_lt _ _ _ _ _ _ _) (fm_lt _)
    refine GL.eq (M' := [(1, pt p3 0), (4, .int .i64 (((fm o.toNat) : Nat) : Int)), (11, .bool (((lacks (cmdM wh t am id ad ag bd) (fm o.toNat) : Nat) : Int) != 0))]) (by rw [e20]) ?_
    clear e20
    refine GL.k rfl hK15 (fun _ _ h => h) ?_
    cases hb21 : (((lacks (cmdM wh t am id ad ag bd) (fm o.toNat) : Nat) : Int) != 0)
    · skip
      have hb21f : ((lacks (cmdM wh t am id ad ag bd) (fm o.toNat) : Nat) : Int) = 0 := bne_eq_false_iff_eq.1 hb21
      refine G.no rfl ?_
      refine G.seqK fun K22 hK23 => ?_
      refine G.region ?_
      refine GL.run (j := 1) 1 [1, 4, 22] [(1, pt p3 0), (4, .int .i64 (((fm o.toNat) : Nat) : Int)), (22, pt p3 26)] (by kernel_rfl) rfl ?_
      refine GL.sem (j := 2) (H18.ld (o := 26) (ty := 26) (v := .slice Bd bd.length bc) 0 rfl (by kernel_rfl) rfl) [1, 4, 23] [(1, pt p3 0), (4, .int .i64 (((fm o.toNat) : Nat) : Int)), (23, .slice Bd bd.length bc)] (by kernel_rfl) (by kernel_rfl) rfl ?_
      refine GL.run (j := 5) 3 [1, 4, 21] [(1, pt p3 0), (4, .int .i64 (((fm o.toNat) : Nat) : Int)), (21, .bool (decide (8192 < (bd.length : Int))))] (by kernel_rfl) rfl ?_
      refine GL.k rfl hK23 (fun _ _ h => h) ?_
      cases hb24 : (decide (8192 < (bd.length : Int)))
      · skip
        have hb24f := of_decide_eq_false hb24
        refine G.no rfl ?_
        refine G.skipK hK13 (fun _ _ h => h) ?_
        refine G.seqK fun K25 hK26 => ?_
        refine G.region ?_
        obtain ⟨p27, w28, r29, H30⟩ := H18.alloc (P := Try.prog) 53 [.slice none 0 0] (by kernel_rfl)
        have H30 : Hp w [] [.blk p3 [.int .u8 (o.toNat : Int), .int .u8 (wh.toNat : Int), .int .u8 (t.toNat : Int), .int .u64 (am : Int), .int .u64 (id : Int), .int .u8 ((ad 0).toNat : Int), .int .u8 ((ad 1).toNat : Int), .int .u8 ((ad 2).toNat : Int), .int .u8 ((ad 3).toNat : Int), .int .u8 ((ad 4).toNat : Int), .int .u8 ((ad 5).toNat : Int), .int .u8 ((ad 6).toNat : Int), .int .u8 ((ad 7).toNat : Int), .int .u8 ((ad 8).toNat : Int), .int .u8 ((ad 9).toNat : Int), .int .u8 ((ad 10).toNat : Int), .int .u8 ((ad 11).toNat : Int), .int .u8 ((ad 12).toNat : Int), .int .u8 ((ad 13).toNat : Int), .int .u8 ((ad 14).toNat : Int), .int .u8 ((ad 15).toNat : Int), .int .u8 ((ad 16).toNat : Int), .int .u8 ((ad 17).toNat : Int), .int .u8 ((ad 18).toNat : Int), .int .u8 ((ad 19).toNat : Int), .bool ag, .slice Bd bd.length bc] 28, .blk p27 [.slice none 0 0] 53] w28 := H30
        refine GL.sem (j := 1) (r29) [1, 4, 5] [(1, pt p3 0), (4, .int .i64 (((fm o.toNat) : Nat) : Int)), (5, pt p27 0)] (by kernel_rfl) (by kernel_rfl) rfl ?_
        refine GL.k rfl hK26 (fun _ _ h => h) ?_
        refine G.seqK fun K31 hK32 => ?_
        refine G.region ?_
        refine GL.run (j := 1) 1 [1, 4, 5, 26] [(1, pt p3 0), (4, .int .i64 (((fm o.toNat) : Nat) : Int)), (5, pt p27 0), (26, pt p3 0)] (by kernel_rfl) rfl ?_
        refine GL.sem (j := 2) (H30.ld (o := 0) (ty := 5) (v := .int .u8 (o.toNat : Int)) 0 rfl (by kernel_rfl) rfl) [1, 4, 5, 27] [(1, pt p3 0), (4, .int .i64 (((fm o.toNat) : Nat) : Int)), (5, pt p27 0), (27, .int .u8 (o.toNat : Int))] (by kernel_rfl) (by kernel_rfl) rfl ?_
        refine GL.run (j := 3) 1 [1, 4, 5, 28] [(1, pt p3 0), (4, .int .i64 (((fm o.toNat) : Nat) : Int)), (5, pt p27 0), (28, .int .u64 (IntKind.u64.wrap (o.toNat : Int)))] (by kernel_rfl) rfl ?_
        have e33 : (IntKind.u64.wrap (o.toNat : Int)) = (o.toNat : Int) := u8_up_u64 _
        refine GL.eq (M' := [(1, pt p3 0), (4, .int .i64 (((fm o.toNat) : Nat) : Int)), (5, pt p27 0), (28, .int .u64 (o.toNat : Int))]) (by rw [e33]) ?_
        clear e33
        have H34 := H30.rowNil 5 1
        have H34 : Hp w [] [.blk p3 [.int .u8 (o.toNat : Int), .int .u8 (wh.toNat : Int), .int .u8 (t.toNat : Int), .int .u64 (am : Int), .int .u64 (id : Int), .int .u8 ((ad 0).toNat : Int), .int .u8 ((ad 1).toNat : Int), .int .u8 ((ad 2).toNat : Int), .int .u8 ((ad 3).toNat : Int), .int .u8 ((ad 4).toNat : Int), .int .u8 ((ad 5).toNat : Int), .int .u8 ((ad 6).toNat : Int), .int .u8 ((ad 7).toNat : Int), .int .u8 ((ad 8).toNat : Int), .int .u8 ((ad 9).toNat : Int), .int .u8 ((ad 10).toNat : Int), .int .u8 ((ad 11).toNat : Int), .int .u8 ((ad 12).toNat : Int), .int .u8 ((ad 13).toNat : Int), .int .u8 ((ad 14).toNat : Int), .int .u8 ((ad 15).toNat : Int), .int .u8 ((ad 16).toNat : Int), .int .u8 ((ad 17).toNat : Int), .int .u8 ((ad 18).toNat : Int), .int .u8 ((ad 19).toNat : Int), .bool ag, .slice Bd bd.length bc] 28, .blk p27 [.slice none 0 0] 53, .row none 0 0 5 1 (by8 ([] : List UInt8))] w28 := H34
        have H37 := (Hp.reorder (L' := [.blk p27 [.slice none 0 0] 53, .row none 0 0 5 1 (by8 ([] : List UInt8)), .blk p3 [.int .u8 (o.toNat : Int), .int .u8 (wh.toNat : Int), .int .u8 (t.toNat : Int), .int .u64 (am : Int), .int .u64 (id : Int), .int .u8 ((ad 0).toNat : Int), .int .u8 ((ad 1).toNat : Int), .int .u8 ((ad 2).toNat : Int), .int .u8 ((ad 3).toNat : Int), .int .u8 ((ad 4).toNat : Int), .int .u8 ((ad 5).toNat : Int), .int .u8 ((ad 6).toNat : Int), .int .u8 ((ad 7).toNat : Int), .int .u8 ((ad 8).toNat : Int), .int .u8 ((ad 9).toNat : Int), .int .u8 ((ad 10).toNat : Int), .int .u8 ((ad 11).toNat : Int), .int .u8 ((ad 12).toNat : Int), .int .u8 ((ad 13).toNat : Int), .int .u8 ((ad 14).toNat : Int), .int .u8 ((ad 15).toNat : Int), .int .u8 ((ad 16).toNat : Int), .int .u8 ((ad 17).toNat : Int), .int .u8 ((ad 18).toNat : Int), .int .u8 ((ad 19).toNat : Int), .bool ag, .slice Bd bd.length bc] 28]) H34 (List.Perm.trans (List.Perm.swap _ _ _) (List.Perm.cons _ (List.Perm.trans (List.Perm.swap _ _ _) (List.Perm.refl _)))))
        refine GL.call (j := 4) (Put1_calls (ids [.blk p27 [.slice none 0 0] 53, .row none 0 0 5 1 (by8 ([] : List UInt8))]) p27 none 0 0 ([] : List UInt8) o.toNat w28 (Hp.startL (A := [.blk p27 [.slice none 0 0] 53, .row none 0 0 5 1 (by8 ([] : List UInt8))]) (B := [.blk p3 [.int .u8 (o.toNat : Int), .int .u8 (wh.toNat : Int), .int .u8 (t.toNat : Int), .int .u64 (am : Int), .int .u64 (id : Int), .int .u8 ((ad 0).toNat : Int), .int .u8 ((ad 1).toNat : Int), .int .u8 ((ad 2).toNat : Int), .int .u8 ((ad 3).toNat : Int), .int .u8 ((ad 4).toNat : Int), .int .u8 ((ad 5).toNat : Int), .int .u8 ((ad 6).toNat : Int), .int .u8 ((ad 7).toNat : Int), .int .u8 ((ad 8).toNat : Int), .int .u8 ((ad 9).toNat : Int), .int .u8 ((ad 10).toNat : Int), .int .u8 ((ad 11).toNat : Int), .int .u8 ((ad 12).toNat : Int), .int .u8 ((ad 13).toNat : Int), .int .u8 ((ad 14).toNat : Int), .int .u8 ((ad 15).toNat : Int), .int .u8 ((ad 16).toNat : Int), .int .u8 ((ad 17).toNat : Int), .int .u8 ((ad 18).toNat : Int), .int .u8 ((ad 19).toNat : Int), .bool ag, .slice Bd bd.length bc] 28]) H37) (by omega)) (by kernel_rfl) rfl (fun e_ w38 hR => ?_)
        obtain ⟨A35, c36, rfl, H40⟩ := hR
        have H39 : Hp w [] [.blk p27 [.slice A35 1 c36] 53, .row A35 1 c36 5 1 (by8 (putB o.toNat 1)), .blk p3 [.int .u8 (o.toNat : Int), .int .u8 (wh.toNat : Int), .int .u8 (t.toNat : Int), .int .u64 (am : Int), .int .u64 (id : Int), .int .u8 ((ad 0).toNat : Int), .int .u8 ((ad 1).toNat : Int), .int .u8 ((ad 2).toNat : Int), .int .u8 ((ad 3).toNat : Int), .int .u8 ((ad 4).toNat : Int), .int .u8 ((ad 5).toNat : Int), .int .u8 ((ad 6).toNat : Int), .int .u8 ((ad 7).toNat : Int), .int .u8 ((ad 8).toNat : Int), .int .u8 ((ad 9).toNat : Int), .int .u8 ((ad 10).toNat : Int), .int .u8 ((ad 11).toNat : Int), .int .u8 ((ad 12).toNat : Int), .int .u8 ((ad 13).toNat : Int), .int .u8 ((ad 14).toNat : Int), .int .u8 ((ad 15).toNat : Int), .int .u8 ((ad 16).toNat : Int), .int .u8 ((ad 17).toNat : Int), .int .u8 ((ad 18).toNat : Int), .int .u8 ((ad 19).toNat : Int), .bool ag, .slice Bd bd.length bc] 28] w38 := Hp.callL (A := [.blk p27 [.slice none 0 0] 53, .row none 0 0 5 1 (by8 ([] : List UInt8))]) (B := [.blk p3 [.int .u8 (o.toNat : Int), .int .u8 (wh.toNat : Int), .int .u8 (t.toNat : Int), .int .u64 (am : Int), .int .u64 (id : Int), .int .u8 ((ad 0).toNat : Int), .int .u8 ((ad 1).toNat : Int), .int .u8 ((ad 2).toNat : Int), .int .u8 ((ad 3).toNat : Int), .int .u8 ((ad 4).toNat : Int), .int .u8 ((ad 5).toNat : Int), .int .u8 ((ad 6).toNat : Int), .int .u8 ((ad 7).toNat : Int), .int .u8 ((ad 8).toNat : Int), .int .u8 ((ad 9).toNat : Int), .int .u8 ((ad 10).toNat : Int), .int .u8 ((ad 11).toNat : Int), .int .u8 ((ad 12).toNat : Int), .int .u8 ((ad 13).toNat : Int), .int .u8 ((ad 14).toNat : Int), .int .u8 ((ad 15).toNat : Int), .int .u8 ((ad 16).toNat : Int), .int .u8 ((ad 17).toNat : Int), .int .u8 ((ad 18).toNat : Int), .int .u8 ((ad 19).toNat : Int), .bool ag, .slice Bd bd.length bc] 28]) H37 H40
        refine ⟨_, rfl, [1, 4, 5], [(1, pt p3 0), (4, .int .i64 (((fm o.toNat) : Nat) : Int)), (5, pt p27 0)], by kernel_rfl, ?_⟩
        refine GL.k rfl hK32 (fun _ _ h => h) ?_
        refine G.seqK fun K41 hK42 => ?_
        refine G.seqK fun K43 hK44 => ?_
        refine G.region ?_
        refine GL.run (j := 1) 1 [1, 4, 5, 30] [(1, pt p3 0), (4, .int .i64 (((fm o.toNat) : Nat) : Int)), (5, pt p27 0), (30, pt p3 1)] (by kernel_rfl) rfl ?_
        refine GL.sem (j := 2) (H39.ld (o := 1) (ty := 22) (v := .int .u8 (wh.toNat : Int)) 2 rfl (by kernel_rfl) rfl) [1, 4, 5, 31] [(1, pt p3 0), (4, .int .i64 (((fm o.toNat) : Nat) : Int)), (5, pt p27 0), (31, .int .u8 (wh.toNat : Int))] (by kernel_rfl) (by kernel_rfl) rfl ?_
        refine GL.run (j := 5) 3 [1, 4, 5, 33, 34] [(1, pt p3 0), (4, .int .i64 (((fm o.toNat) : Nat) : Int)), (5, pt p27 0), (33, .agg #[.int .u64 (IntKind.u64.wrap (wh.toNat : Int)), .int .i64 1]), (34, pt p3 2)] (by kernel_rfl) rfl ?_
        have e45 : (IntKind.u64.wrap (wh.toNat : Int)) = (wh.toNat : Int) := u8_up_u64 _
        refine GL.eq (M' := [(1, pt p3 0), (4, .int .i64 (((fm o.toNat) : Nat) : Int)), (5, pt p27 0), (33, .agg #[.int .u64 (wh.toNat : Int), .int .i64 1]), (34, pt p3 2)]) (by rw [e45]) ?_
        clear e45
        refine GL.sem (j := 6) (H39.ld (o := 2) (ty := 22) (v := .int .u8 (t.toNat : Int)) 2 rfl (by kernel_rfl) rfl) [1, 4, 5, 33, 35] [(1, pt p3 0), (4, .int .i64 (((fm o.toNat) : Nat) : Int)), (5, pt p27 0), (33, .agg #[.int .u64 (wh.toNat : Int), .int .i64 1]), (35, .int .u8 (t.toNat : Int))] (by kernel_rfl) (by kernel_rfl) rfl ?_
        refine GL.run (j := 9) 3 [1, 4, 5, 33, 37, 38] [(1, pt p3 0), (4, .int .i64 (((fm o.toNat) : Nat) : Int)), (5, pt p27 0), (33, .agg #[.int .u64 (wh.toNat : Int), .int .i64 1]), (37, .agg #[.int .u64 (IntKind.u64.wrap (t.toNat : Int)), .int .i64 1]), (38, pt p3 3)] (by kernel_rfl) rfl ?_
        have e46 : (IntKind.u64.wrap (t.toNat : Int)) = (t.toNat : Int) := u8_up_u64 _
        refine GL.eq (M' := [(1, pt p3 0), (4, .int .i64 (((fm o.toNat) : Nat) : Int)), (5, pt p27 0), (33, .agg #[.int .u64 (wh.toNat : Int), .int .i64 1]), (37, .agg #[.int .u64 (t.toNat : Int), .int .i64 1]), (38, pt p3 3)]) (by rw [e46]) ?_
        clear e46
        refine GL.sem (j := 10) (H39.ld (o := 3) (ty := 23) (v := .int .u64 (am : Int)) 2 rfl (by kernel_rfl) rfl) [1, 4, 5, 33, 37, 39] [(1, pt p3 0), (4, .int .i64 (((fm o.toNat) : Nat) : Int)), (5, pt p27 0), (33, .agg #[.int .u64 (wh.toNat : Int), .int .i64 1]), (37, .agg #[.int .u64 (t.toNat : Int), .int .i64 1]), (39, .int .u64 (am : Int))] (by kernel_rfl) (by kernel_rfl) rfl ?_
        refine GL.run (j := 12) 2 [1, 4, 5, 33, 37, 40, 41] [(1, pt p3 0), (4, .int .i64 (((fm o.toNat) : Nat) : Int)), (5, pt p27 0), (33, .agg #[.int .u64 (wh.toNat : Int), .int .i64 1]), (37, .agg #[.int .u64 (t.toNat : Int), .int .i64 1]), (40, .agg #[.int .u64 (am : Int), .int .i64 8]), (41, pt p3 4)] (by kernel_rfl) rfl ?_
        refine GL.sem (j := 13) (H39.ld (o := 4) (ty := 23) (v := .int .u64 (id : Int)) 2 rfl (by kernel_rfl) rfl) [1, 4, 5, 33, 37, 40, 42] [(1, pt p3 0), (4, .int .i64 (((fm o.toNat) : Nat) : Int)), (5, pt p27 0), (33, .agg #[.int .u64 (wh.toNat : Int), .int .i64 1]), (37, .agg #[.int .u64 (t.toNat : Int), .int .i64 1]), (40, .agg #[.int .u64 (am : Int), .int .i64 8]), (42, .int .u64 (id : Int))] (by kernel_rfl) (by kernel_rfl) rfl ?_
        refine GL.run (j := 16) 3 [1, 4, 5, 44, 45] [(1, pt p3 0), (4, .int .i64 (((fm o.toNat) : Nat) : Int)), (5, pt p27 0), (44, .agg #[.int .u64 (wh.toNat : Int), .int .i64 1, .int .u64 (t.toNat : Int), .int .i64 1, .int .u64 (am : Int), .int .i64 8, .int .u64 (id : Int), .int .i64 8]), (45, .int .i64 0)] (by kernel_rfl) rfl ?_
        refine GL.k rfl hK44 (fun _ _ h => h) ?_
        refine G.block ?_
        refine G.unroll 4 ?_
        refine G.seqK fun K47 hK48 => ?_
        refine G.region ?_
        refine GL.run (j := 1) 1 [1, 4, 5, 44, 45, 46] [(1, pt p3 0), (4, .int .i64 (((fm o.toNat) : Nat) : Int)), (5, pt p27 0), (44, .agg #[.int .u64 (wh.toNat : Int), .int .i64 1, .int .u64 (t.toNat : Int), .int .i64 1, .int .u64 (am : Int), .int .i64 8, .int .u64 (id : Int), .int .i64 8]), (45, .int .i64 0), (46, .bool true)] (by kernel_rfl) rfl ?_
        refine GL.k rfl hK48 (fun _ _ h => h) ?_
        refine G.seqK fun K49 hK50 => ?_
        refine G.yes rfl ?_
        refine G.skipK hK50 (fun _ _ h => h) ?_
        refine G.seqJ (X := Option Addr × Nat × Nat × List UInt8) (fun ⟨A_0, c_0, m_0, b_0⟩ => [(1, pt p3 0), (4, .int .i64 (((fm o.toNat) : Nat) : Int)), (5, pt p27 0), (44, .agg #[.int .u64 (wh.toNat : Int), .int .i64 1, .int .u64 (t.toNat : Int), .int .i64 1, .int .u64 (am : Int), .int .i64 8, .int .u64 (id : Int), .int .i64 8]), (45, .int .i64 0)]) (fun ⟨A_0, c_0, m_0, b_0⟩ w_ => (b_0 = (putB o.toNat 1) ++ fld o.toNat 0 (putB wh.toNat 1) ∧ m_0 ≤ 1 + 1) ∧ Hp w [] [.blk p27 [.slice A_0 m_0 c_0] 53, .row A_0 m_0 c_0 5 1 (by8 b_0), .blk p3 [.int .u8 (o.toNat : Int), .int .u8 (wh.toNat : Int), .int .u8 (t.toNat : Int), .int .u64 (am : Int), .int .u64 (id : Int), .int .u8 ((ad 0).toNat : Int), .int .u8 ((ad 1).toNat : Int), .int .u8 ((ad 2).toNat : Int), .int .u8 ((ad 3).toNat : Int), .int .u8 ((ad 4).toNat : Int), .int .u8 ((ad 5).toNat : Int), .int .u8 ((ad 6).toNat : Int), .int .u8 ((ad 7).toNat : Int), .int .u8 ((ad 8).toNat : Int), .int .u8 ((ad 9).toNat : Int), .int .u8 ((ad 10).toNat : Int), .int .u8 ((ad 11).toNat : Int), .int .u8 ((ad 12).toNat : Int), .int .u8 ((ad 13).toNat : Int), .int .u8 ((ad 14).toNat : Int), .int .u8 ((ad 15).toNat : Int), .int .u8 ((ad 16).toNat : Int), .int .u8 ((ad 17).toNat : Int), .int .u8 ((ad 18).toNat : Int), .int .u8 ((ad 19).toNat : Int), .bool ag, .slice Bd bd.length bc] 28] w_) (fun J51 K52 hK53 => ?_) ?_
        · skip
          refine G.block ?_
          refine G.seqK fun K54 hK55 => ?_
          refine G.region ?_
          refine GL.run (j := 2) 2 [1, 4, 5, 44, 45, 47, 48] [(1, pt p3 0), (4, .int .i64 (((fm o.toNat) : Nat) : Int)), (5, pt p27 0), (44, .agg #[.int .u64 (wh.toNat : Int), .int .i64 1, .int .u64 (t.toNat : Int), .int .i64 1, .int .u64 (am : Int), .int .i64 8, .int .u64 (id : Int), .int .i64 8]), (45, .int .i64 0), (47, .int .i64 0), (48, .agg #[.int .u64 (wh.toNat : Int), .int .i64 1])] (by kernel_rfl) rfl ?_
          obtain ⟨p56, w57, r58, H59⟩ := H39.alloc (P := Try.prog) 55 [.int .u64 0, .int .i64 0] (by kernel_rfl)
          have H59 : Hp w [] [.blk p27 [.slice A35 1 c36] 53, .row A35 1 c36 5 1 (by8 (putB o.toNat 1)), .blk p3 [.int .u8 (o.toNat : Int), .int .u8 (wh.toNat : Int), .int .u8 (t.toNat : Int), .int .u64 (am : Int), .int .u64 (id : Int), .int .u8 ((ad 0).toNat : Int), .int .u8 ((ad 1).toNat : Int), .int .u8 ((ad 2).toNat : Int), .int .u8 ((ad 3).toNat : Int), .int .u8 ((ad 4).toNat : Int), .int .u8 ((ad 5).toNat : Int), .int .u8 ((ad 6).toNat : Int), .int .u8 ((ad 7).toNat : Int), .int .u8 ((ad 8).toNat : Int), .int .u8 ((ad 9).toNat : Int), .int .u8 ((ad 10).toNat : Int), .int .u8 ((ad 11).toNat : Int), .int .u8 ((ad 12).toNat : Int), .int .u8 ((ad 13).toNat : Int), .int .u8 ((ad 14).toNat : Int), .int .u8 ((ad 15).toNat : Int), .int .u8 ((ad 16).toNat : Int), .int .u8 ((ad 17).toNat : Int), .int .u8 ((ad 18).toNat : Int), .int .u8 ((ad 19).toNat : Int), .bool ag, .slice Bd bd.length bc] 28, .blk p56 [.int .u64 0, .int .i64 0] 55] w57 := H59
          refine GL.sem (j := 3) (r58) [1, 4, 5, 7, 44, 45, 47, 48] [(1, pt p3 0), (4, .int .i64 (((fm o.toNat) : Nat) : Int)), (5, pt p27 0), (7, pt p56 0), (44, .agg #[.int .u64 (wh.toNat : Int), .int .i64 1, .int .u64 (t.toNat : Int), .int .i64 1, .int .u64 (am : Int), .int .i64 8, .int .u64 (id : Int), .int .i64 8]), (45, .int .i64 0), (47, .int .i64 0), (48, .agg #[.int .u64 (wh.toNat : Int), .int .i64 1])] (by kernel_rfl) (by kernel_rfl) rfl ?_
          refine GL.run (j := 4) 1 [1, 4, 5, 6, 7, 44, 45, 48] [(1, pt p3 0), (4, .int .i64 (((fm o.toNat) : Nat) : Int)), (5, pt p27 0), (6, .int .i64 0), (7, pt p56 0), (44, .agg #[.int .u64 (wh.toNat : Int), .int .i64 1, .int .u64 (t.toNat : Int), .int .i64 1, .int .u64 (am : Int), .int .i64 8, .int .u64 (id : Int), .int .i64 8]), (45, .int .i64 0), (48, .agg #[.int .u64 (wh.toNat : Int), .int .i64 1])] (by kernel_rfl) rfl ?_
          obtain ⟨w60, r61, H62⟩ := H59.stA (P := Try.prog) (o := 0) (vs := [.int .u64 (wh.toNat : Int), .int .i64 1]) (ty := 55) (m := 2) 3 rfl (by kernel_rfl) rfl (by simp) (by simp [Value.oneCell'])
          have H62 : Hp w [] [.blk p27 [.slice A35 1 c36] 53, .row A35 1 c36 5 1 (by8 (putB o.toNat 1)), .blk p3 [.int .u8 (o.toNat : Int), .int .u8 (wh.toNat : Int), .int .u8 (t.toNat : Int), .int .u64 (am : Int), .int .u64 (id : Int), .int .u8 ((ad 0).toNat : Int), .int .u8 ((ad 1).toNat : Int), .int .u8 ((ad 2).toNat : Int), .int .u8 ((ad 3).toNat : Int), .int .u8 ((ad 4).toNat : Int), .int .u8 ((ad 5).toNat : Int), .int .u8 ((ad 6).toNat : Int), .int .u8 ((ad 7).toNat : Int), .int .u8 ((ad 8).toNat : Int), .int .u8 ((ad 9).toNat : Int), .int .u8 ((ad 10).toNat : Int), .int .u8 ((ad 11).toNat : Int), .int .u8 ((ad 12).toNat : Int), .int .u8 ((ad 13).toNat : Int), .int .u8 ((ad 14).toNat : Int), .int .u8 ((ad 15).toNat : Int), .int .u8 ((ad 16).toNat : Int), .int .u8 ((ad 17).toNat : Int), .int .u8 ((ad 18).toNat : Int), .int .u8 ((ad 19).toNat : Int), .bool ag, .slice Bd bd.length bc] 28, .blk p56 [.int .u64 (wh.toNat : Int), .int .i64 1] 55] w60 := H62
          refine GL.semU (j := 5) r61 [1, 4, 5, 6, 7, 44, 45] [(1, pt p3 0), (4, .int .i64 (((fm o.toNat) : Nat) : Int)), (5, pt p27 0), (6, .int .i64 0), (7, pt p56 0), (44, .agg #[.int .u64 (wh.toNat : Int), .int .i64 1, .int .u64 (t.toNat : Int), .int .i64 1, .int .u64 (am : Int), .int .i64 8, .int .u64 (id : Int), .int .i64 8]), (45, .int .i64 0)] (by kernel_rfl) rfl rfl rfl ?_
          refine GL.k rfl hK55 (fun _ _ h => h) ?_
          refine G.seqK fun K63 hK64 => ?_
          refine G.region ?_
          refine GL.run (j := 5) 5 [1, 4, 5, 7, 44, 45, 53] [(1, pt p3 0), (4, .int .i64 (((fm o.toNat) : Nat) : Int)), (5, pt p27 0), (7, pt p56 0), (44, .agg #[.int .u64 (wh.toNat : Int), .int .i64 1, .int .u64 (t.toNat : Int), .int .i64 1, .int .u64 (am : Int), .int .i64 8, .int .u64 (id : Int), .int .i64 8]), (45, .int .i64 0), (53, .bool ((Go.bits .and .i64 (Int.fdiv (((fm o.toNat) : Nat) : Int) (2 ^ 0)) 1) == 1))] (by kernel_rfl) rfl ?_
          have e65 : (Int.fdiv (((fm o.toNat) : Nat) : Int) (2 ^ 0)) = ((fm o.toNat / 2 ^ 0 : Nat) : Int) := n_shr _ 0
          have e66 : (Go.bits .and .i64 ((fm o.toNat / 2 ^ 0 : Nat) : Int) 1) = (((fm o.toNat / 2 ^ 0) % 2 : Nat) : Int) := i_and1 (Nat.lt_of_le_of_lt (Nat.div_le_self _ _) (fm_lt _))
          refine GL.eq (M' := [(1, pt p3 0), (4, .int .i64 (((fm o.toNat) : Nat) : Int)), (5, pt p27 0), (7, pt p56 0), (44, .agg #[.int .u64 (wh.toNat : Int), .int .i64 1, .int .u64 (t.toNat : Int), .int .i64 1, .int .u64 (am : Int), .int .i64 8, .int .u64 (id : Int), .int .i64 8]), (45, .int .i64 0), (53, .bool ((((fm o.toNat / 2 ^ 0) % 2 : Nat) : Int) == 1))]) (by rw [e65, e66]) ?_
          clear e65 e66
          refine GL.k rfl hK64 (fun _ _ h => h) ?_
          cases hb67 : ((((fm o.toNat / 2 ^ 0) % 2 : Nat) : Int) == 1)
          · skip
            have hb67f := ne_of_beq_false hb67
            refine G.no rfl ?_
            refine G.skipK hK53 (fun _ _ h => h) ?_
            have H68 : Hp w [] [.blk p27 [.slice A35 1 c36] 53, .row A35 1 c36 5 1 (by8 (putB o.toNat 1)), .blk p3 [.int .u8 (o.toNat : Int), .int .u8 (wh.toNat : Int), .int .u8 (t.toNat : Int), .int .u64 (am : Int), .int .u64 (id : Int), .int .u8 ((ad 0).toNat : Int), .int .u8 ((ad 1).toNat : Int), .int .u8 ((ad 2).toNat : Int), .int .u8 ((ad 3).toNat : Int), .int .u8 ((ad 4).toNat : Int), .int .u8 ((ad 5).toNat : Int), .int .u8 ((ad 6).toNat : Int), .int .u8 ((ad 7).toNat : Int), .int .u8 ((ad 8).toNat : Int), .int .u8 ((ad 9).toNat : Int), .int .u8 ((ad 10).toNat : Int), .int .u8 ((ad 11).toNat : Int), .int .u8 ((ad 12).toNat : Int), .int .u8 ((ad 13).toNat : Int), .int .u8 ((ad 14).toNat : Int), .int .u8 ((ad 15).toNat : Int), .int .u8 ((ad 16).toNat : Int), .int .u8 ((ad 17).toNat : Int), .int .u8 ((ad 18).toNat : Int), .int .u8 ((ad 19).toNat : Int), .bool ag, .slice Bd bd.length bc] 28] w60 := H62.sub (List.Sublist.cons_cons _ (List.Sublist.cons_cons _ (List.Sublist.cons_cons _ (List.Sublist.cons _ (List.Sublist.slnil)))))
            refine G.fit [1, 4, 5, 44, 45] (M' := [(1, pt p3 0), (4, .int .i64 (((fm o.toNat) : Nat) : Int)), (5, pt p27 0), (44, .agg #[.int .u64 (wh.toNat : Int), .int .i64 1, .int .u64 (t.toNat : Int), .int .i64 1, .int .u64 (am : Int), .int .i64 8, .int .u64 (id : Int), .int .i64 8]), (45, .int .i64 0)]) (by kernel_rfl) ?_
            exact J51 ⟨A35, c36, 1, (putB o.toNat 1)⟩ _ ⟨⟨by rw [fld, if_neg (by omega), List.append_nil], by omega⟩, H68⟩
          · skip
            have hb67f := eq_of_beq hb67
            refine G.yes rfl ?_
            refine G.region ?_
            refine GL.run (j := 1) 1 [1, 4, 5, 7, 44, 45, 54] [(1, pt p3 0), (4, .int .i64 (((fm o.toNat) : Nat) : Int)), (5, pt p27 0), (7, pt p56 0), (44, .agg #[.int .u64 (wh.toNat : Int), .int .i64 1, .int .u64 (t.toNat : Int), .int .i64 1, .int .u64 (am : Int), .int .i64 8, .int .u64 (id : Int), .int .i64 8]), (45, .int .i64 0), (54, pt p56 0)] (by kernel_rfl) rfl ?_
            refine GL.sem (j := 2) (H62.ld (o := 0) (ty := 23) (v := .int .u64 (wh.toNat : Int)) 3 rfl (by kernel_rfl) rfl) [1, 4, 5, 7, 44, 45, 55] [(1, pt p3 0), (4, .int .i64 (((fm o.toNat) : Nat) : Int)), (5, pt p27 0), (7, pt p56 0), (44, .agg #[.int .u64 (wh.toNat : Int), .int .i64 1, .int .u64 (t.toNat : Int), .int .i64 1, .int .u64 (am : Int), .int .i64 8, .int .u64 (id : Int), .int .i64 8]), (45, .int .i64 0), (55, .int .u64 (wh.toNat : Int))] (by kernel_rfl) (by kernel_rfl) rfl ?_
            refine GL.run (j := 3) 1 [1, 4, 5, 44, 45, 55, 56] [(1, pt p3 0), (4, .int .i64 (((fm o.toNat) : Nat) : Int)), (5, pt p27 0), (44, .agg #[.int .u64 (wh.toNat : Int), .int .i64 1, .int .u64 (t.toNat : Int), .int .i64 1, .int .u64 (am : Int), .int .i64 8, .int .u64 (id : Int), .int .i64 8]), (45, .int .i64 0), (55, .int .u64 (wh.toNat : Int)), (56, pt p56 1)] (by kernel_rfl) rfl ?_
            refine GL.sem (j := 4) (H62.ld (o := 1) (ty := 3) (v := .int .i64 1) 3 rfl (by kernel_rfl) rfl) [1, 4, 5, 44, 45, 55, 57] [(1, pt p3 0), (4, .int .i64 (((fm o.toNat) : Nat) : Int)), (5, pt p27 0), (44, .agg #[.int .u64 (wh.toNat : Int), .int .i64 1, .int .u64 (t.toNat : Int), .int .i64 1, .int .u64 (am : Int), .int .i64 8, .int .u64 (id : Int), .int .i64 8]), (45, .int .i64 0), (55, .int .u64 (wh.toNat : Int)), (57, .int .i64 1)] (by kernel_rfl) (by kernel_rfl) rfl ?_
            refine GL.call (j := 5) (Put1_calls (ids [.blk p27 [.slice A35 1 c36] 53, .row A35 1 c36 5 1 (by8 (putB o.toNat 1))]) p27 A35 1 c36 (putB o.toNat 1) wh.toNat w60 (Hp.startL (A := [.blk p27 [.slice A35 1 c36] 53, .row A35 1 c36 5 1 (by8 (putB o.toNat 1))]) (B := [.blk p3 [.int .u8 (o.toNat : Int), .int .u8 (wh.toNat : Int), .int .u8 (t.toNat : Int), .int .u64 (am : Int), .int .u64 (id : Int), .int .u8 ((ad 0).toNat : Int), .int .u8 ((ad 1).toNat : Int), .int .u8 ((ad 2).toNat : Int), .int .u8 ((ad 3).toNat : Int), .int .u8 ((ad 4).toNat : Int), .int .u8 ((ad 5).toNat : Int), .int .u8 ((ad 6).toNat : Int), .int .u8 ((ad 7).toNat : Int), .int .u8 ((ad 8).toNat : Int), .int .u8 ((ad 9).toNat : Int), .int .u8 ((ad 10).toNat : Int), .int .u8 ((ad 11).toNat : Int), .int .u8 ((ad 12).toNat : Int), .int .u8 ((ad 13).toNat : Int), .int .u8 ((ad 14).toNat : Int), .int .u8 ((ad 15).toNat : Int), .int .u8 ((ad 16).toNat : Int), .int .u8 ((ad 17).toNat : Int), .int .u8 ((ad 18).toNat : Int), .int .u8 ((ad 19).toNat : Int), .bool ag, .slice Bd bd.length bc] 28, .blk p56 [.int .u64 (wh.toNat : Int), .int .i64 1] 55]) H62) (by omega)) (by kernel_rfl) rfl (fun e_ w72 hR => ?_)
            obtain ⟨A70, c71, rfl, H74⟩ := hR
            have H73 : Hp w [] [.blk p27 [.slice A70 2 c71] 53, .row A70 2 c71 5 1 (by8 ((putB o.toNat 1) ++ (putB wh.toNat 1))), .blk p3 [.int .u8 (o.toNat : Int), .int .u8 (wh.toNat : Int), .int .u8 (t.toNat : Int), .int .u64 (am : Int), .int .u64 (id : Int), .int .u8 ((ad 0).toNat : Int), .int .u8 ((ad 1).toNat : Int), .int .u8 ((ad 2).toNat : Int), .int .u8 ((ad 3).toNat : Int), .int .u8 ((ad 4).toNat : Int), .int .u8 ((ad 5).toNat : Int), .int .u8 ((ad 6).toNat : Int), .int .u8 ((ad 7).toNat : Int), .int .u8 ((ad 8).toNat : Int), .int .u8 ((ad 9).toNat : Int), .int .u8 ((ad 10).toNat : Int), .int .u8 ((ad 11).toNat : Int), .int .u8 ((ad 12).toNat : Int), .int .u8 ((ad 13).toNat : Int), .int .u8 ((ad 14).toNat : Int), .int .u8 ((ad 15).toNat : Int), .int .u8 ((ad 16).toNat : Int), .int .u8 ((ad 17).toNat : Int), .int .u8 ((ad 18).toNat : Int), .int .u8 ((ad 19).toNat : Int), .bool ag, .slice Bd bd.length bc] 28, .blk p56 [.int .u64 (wh.toNat : Int), .int .i64 1] 55] w72 := Hp.callL (A := [.blk p27 [.slice A35 1 c36] 53, .row A35 1 c36 5 1 (by8 (putB o.toNat 1))]) (B := [.blk p3 [.int .u8 (o.toNat : Int), .int .u8 (wh.toNat : Int), .int .u8 (t.toNat : Int), .int .u64 (am : Int), .int .u64 (id : Int), .int .u8 ((ad 0).toNat : Int), .int .u8 ((ad 1).toNat : Int), .int .u8 ((ad 2).toNat : Int), .int .u8 ((ad 3).toNat : Int), .int .u8 ((ad 4).toNat : Int), .int .u8 ((ad 5).toNat : Int), .int .u8 ((ad 6).toNat : Int), .int .u8 ((ad 7).toNat : Int), .int .u8 ((ad 8).toNat : Int), .int .u8 ((ad 9).toNat : Int), .int .u8 ((ad 10).toNat : Int), .int .u8 ((ad 11).toNat : Int), .int .u8 ((ad 12).toNat : Int), .int .u8 ((ad 13).toNat : Int), .int .u8 ((ad 14).toNat : Int), .int .u8 ((ad 15).toNat : Int), .int .u8 ((ad 16).toNat : Int), .int .u8 ((ad 17).toNat : Int), .int .u8 ((ad 18).toNat : Int), .int .u8 ((ad 19).toNat : Int), .bool ag, .slice Bd bd.length bc] 28, .blk p56 [.int .u64 (wh.toNat : Int), .int .i64 1] 55]) H62 H74
            refine ⟨_, rfl, [1, 4, 5, 44, 45], [(1, pt p3 0), (4, .int .i64 (((fm o.toNat) : Nat) : Int)), (5, pt p27 0), (44, .agg #[.int .u64 (wh.toNat : Int), .int .i64 1, .int .u64 (t.toNat : Int), .int .i64 1, .int .u64 (am : Int), .int .i64 8, .int .u64 (id : Int), .int .i64 8]), (45, .int .i64 0)], by kernel_rfl, ?_⟩
            refine GL.k rfl hK53 (fun _ _ h => h) ?_
            have H75 : Hp w [] [.blk p27 [.slice A70 2 c71] 53, .row A70 2 c71 5 1 (by8 ((putB o.toNat 1) ++ (putB wh.toNat 1))), .blk p3 [.int .u8 (o.toNat : Int), .int .u8 (wh.toNat : Int), .int .u8 (t.toNat : Int), .int .u64 (am : Int), .int .u64 (id : Int), .int .u8 ((ad 0).toNat : Int), .int .u8 ((ad 1).toNat : Int), .int .u8 ((ad 2).toNat : Int), .int .u8 ((ad 3).toNat : Int), .int .u8 ((ad 4).toNat : Int), .int .u8 ((ad 5).toNat : Int), .int .u8 ((ad 6).toNat : Int), .int .u8 ((ad 7).toNat : Int), .int .u8 ((ad 8).toNat : Int), .int .u8 ((ad 9).toNat : Int), .int .u8 ((ad 10).toNat : Int), .int .u8 ((ad 11).toNat : Int), .int .u8 ((ad 12).toNat : Int), .int .u8 ((ad 13).toNat : Int), .int .u8 ((ad 14).toNat : Int), .int .u8 ((ad 15).toNat : Int), .int .u8 ((ad 16).toNat : Int), .int .u8 ((ad 17).toNat : Int), .int .u8 ((ad 18).toNat : Int), .int .u8 ((ad 19).toNat : Int), .bool ag, .slice Bd bd.length bc] 28] w72 := H73.sub (List.Sublist.cons_cons _ (List.Sublist.cons_cons _ (List.Sublist.cons_cons _ (List.Sublist.cons _ (List.Sublist.slnil)))))
            refine G.fit [1, 4, 5, 44, 45] (M' := [(1, pt p3 0), (4, .int .i64 (((fm o.toNat) : Nat) : Int)), (5, pt p27 0), (44, .agg #[.int .u64 (wh.toNat : Int), .int .i64 1, .int .u64 (t.toNat : Int), .int .i64 1, .int .u64 (am : Int), .int .i64 8, .int .u64 (id : Int), .int .i64 8]), (45, .int .i64 0)]) (by kernel_rfl) ?_
            exact J51 ⟨A70, c71, 2, ((putB o.toNat 1) ++ (putB wh.toNat 1))⟩ _ ⟨⟨by rw [fld, if_pos (by omega)], by omega⟩, H75⟩
        · skip
          rintro ⟨A_0, c_0, m_0, b_0⟩ w77 ⟨hi78, H79⟩
          refine G.eq (M' := [(1, pt p3 0), (4, .int .i64 (((fm o.toNat) : Nat) : Int)), (5, pt p27 0), (44, .agg #[.int .u64 (wh.toNat : Int), .int .i64 1, .int .u64 (t.toNat : Int), .int .i64 1, .int .u64 (am : Int), .int .i64 8, .int .u64 (id : Int), .int .i64 8]), (45, .int .i64 0)]) rfl ?_
          have H79 : Hp w [] [.blk p27 [.slice A_0 m_0 c_0] 53, .row A_0 m_0 c_0 5 1 (by8 b_0), .blk p3 [.int .u8 (o.toNat : Int), .int .u8 (wh.toNat : Int), .int .u8 (t.toNat : Int), .int .u64 (am : Int), .int .u64 (id : Int), .int .u8 ((ad 0).toNat : Int), .int .u8 ((ad 1).toNat : Int), .int .u8 ((ad 2).toNat : Int), .int .u8 ((ad 3).toNat : Int), .int .u8 ((ad 4).toNat : Int), .int .u8 ((ad 5).toNat : Int), .int .u8 ((ad 6).toNat : Int), .int .u8 ((ad 7).toNat : Int), .int .u8 ((ad 8).toNat : Int), .int .u8 ((ad 9).toNat : Int), .int .u8 ((ad 10).toNat : Int), .int .u8 ((ad 11).toNat : Int), .int .u8 ((ad 12).toNat : Int), .int .u8 ((ad 13).toNat : Int), .int .u8 ((ad 14).toNat : Int), .int .u8 ((ad 15).toNat : Int), .int .u8 ((ad 16).toNat : Int), .int .u8 ((ad 17).toNat : Int), .int .u8 ((ad 18).toNat : Int), .int .u8 ((ad 19).toNat : Int), .bool ag, .slice Bd bd.length bc] 28] w77 := H79
          obtain ⟨hb_0, hm_0⟩ := hi78
          refine G.region ?_
          refine GL.run (j := 2) 2 [1, 4, 5, 44, 45] [(1, pt p3 0), (4, .int .i64 (((fm o.toNat) : Nat) : Int)), (5, pt p27 0), (44, .agg #[.int .u64 (wh.toNat : Int), .int .i64 1, .int .u64 (t.toNat : Int), .int .i64 1, .int .u64 (am : Int), .int .i64 8, .int .u64 (id : Int), .int .i64 8]), (45, .int .i64 1)] (by kernel_rfl) rfl ?_
          refine GL.round rfl ?_
          refine G.seqK fun K80 hK81 => ?_
          refine G.region ?_
          refine GL.run (j := 1) 1 [1, 4, 5, 44, 45, 46] [(1, pt p3 0), (4, .int .i64 (((fm o.toNat) : Nat) : Int)), (5, pt p27 0), (44, .agg #[.int .u64 (wh.toNat : Int), .int .i64 1, .int .u64 (t.toNat : Int), .int .i64 1, .int .u64 (am : Int), .int .i64 8, .int .u64 (id : Int), .int .i64 8]), (45, .int .i64 1), (46, .bool true)] (by kernel_rfl) rfl ?_
          refine GL.k rfl hK81 (fun _ _ h => h) ?_
          refine G.seqK fun K82 hK83 => ?_
          refine G.yes rfl ?_
          refine G.skipK hK83 (fun _ _ h => h) ?_
          refine G.seqJ (X := Option Addr × Nat × Nat × List UInt8) (fun ⟨A_1, c_1, m_1, b_1⟩ => [(1, pt p3 0), (4, .int .i64 (((fm o.toNat) : Nat) : Int)), (5, pt p27 0), (44, .agg #[.int .u64 (wh.toNat : Int), .int .i64 1, .int .u64 (t.toNat : Int), .int .i64 1, .int .u64 (am : Int), .int .i64 8, .int .u64 (id : Int), .int .i64 8]), (45, .int .i64 1)]) (fun ⟨A_1, c_1, m_1, b_1⟩ w_ => (b_1 = b_0 ++ fld o.toNat 1 (putB t.toNat 1) ∧ m_1 ≤ m_0 + 1) ∧ Hp w [] [.blk p27 [.slice A_1 m_1 c_1] 53, .row A_1 m_1 c_1 5 1 (by8 b_1), .blk p3 [.int .u8 (o.toNat : Int), .int .u8 (wh.toNat : Int), .int .u8 (t.toNat : Int), .int .u64 (am : Int), .int .u64 (id : Int), .int .u8 ((ad 0).toNat : Int), .int .u8 ((ad 1).toNat : Int), .int .u8 ((ad 2).toNat : Int), .int .u8 ((ad 3).toNat : Int), .int .u8 ((ad 4).toNat : Int), .int .u8 ((ad 5).toNat : Int), .int .u8 ((ad 6).toNat : Int), .int .u8 ((ad 7).toNat : Int), .int .u8 ((ad 8).toNat : Int), .int .u8 ((ad 9).toNat : Int), .int .u8 ((ad 10).toNat : Int), .int .u8 ((ad 11).toNat : Int), .int .u8 ((ad 12).toNat : Int), .int .u8 ((ad 13).toNat : Int), .int .u8 ((ad 14).toNat : Int), .int .u8 ((ad 15).toNat : Int), .int .u8 ((ad 16).toNat : Int), .int .u8 ((ad 17).toNat : Int), .int .u8 ((ad 18).toNat : Int), .int .u8 ((ad 19).toNat : Int), .bool ag, .slice Bd bd.length bc] 28] w_) (fun J84 K85 hK86 => ?_) ?_
          · skip
            refine G.block ?_
            refine G.seqK fun K87 hK88 => ?_
            refine G.region ?_
            refine GL.run (j := 2) 2 [1, 4, 5, 44, 45, 47, 48] [(1, pt p3 0), (4, .int .i64 (((fm o.toNat) : Nat) : Int)), (5, pt p27 0), (44, .agg #[.int .u64 (wh.toNat : Int), .int .i64 1, .int .u64 (t.toNat : Int), .int .i64 1, .int .u64 (am : Int), .int .i64 8, .int .u64 (id : Int), .int .i64 8]), (45, .int .i64 1), (47, .int .i64 1), (48, .agg #[.int .u64 (t.toNat : Int), .int .i64 1])] (by kernel_rfl) rfl ?_
            obtain ⟨p89, w90, r91, H92⟩ := H79.alloc (P := Try.prog) 55 [.int .u64 0, .int .i64 0] (by kernel_rfl)
            have H92 : Hp w [] [.blk p27 [.slice A_0 m_0 c_0] 53, .row A_0 m_0 c_0 5 1 (by8 b_0), .blk p3 [.int .u8 (o.toNat : Int), .int .u8 (wh.toNat : Int), .int .u8 (t.toNat : Int), .int .u64 (am : Int), .int .u64 (id : Int), .int .u8 ((ad 0).toNat : Int), .int .u8 ((ad 1).toNat : Int), .int .u8 ((ad 2).toNat : Int), .int .u8 ((ad 3).toNat : Int), .int .u8 ((ad 4).toNat : Int), .int .u8 ((ad 5).toNat : Int), .int .u8 ((ad 6).toNat : Int), .int .u8 ((ad 7).toNat : Int), .int .u8 ((ad 8).toNat : Int), .int .u8 ((ad 9).toNat : Int), .int .u8 ((ad 10).toNat : Int), .int .u8 ((ad 11).toNat : Int), .int .u8 ((ad 12).toNat : Int), .int .u8 ((ad 13).toNat : Int), .int .u8 ((ad 14).toNat : Int), .int .u8 ((ad 15).toNat : Int), .int .u8 ((ad 16).toNat : Int), .int .u8 ((ad 17).toNat : Int), .int .u8 ((ad 18).toNat : Int), .int .u8 ((ad 19).toNat : Int), .bool ag, .slice Bd bd.length bc] 28, .blk p89 [.int .u64 0, .int .i64 0] 55] w90 := H92
            refine GL.sem (j := 3) (r91) [1, 4, 5, 7, 44, 45, 47, 48] [(1, pt p3 0), (4, .int .i64 (((fm o.toNat) : Nat) : Int)), (5, pt p27 0), (7, pt p89 0), (44, .agg #[.int .u64 (wh.toNat : Int), .int .i64 1, .int .u64 (t.toNat : Int), .int .i64 1, .int .u64 (am : Int), .int .i64 8, .int .u64 (id : Int), .int .i64 8]), (45, .int .i64 1), (47, .int .i64 1), (48, .agg #[.int .u64 (t.toNat : Int), .int .i64 1])] (by kernel_rfl) (by kernel_rfl) rfl ?_
            refine GL.run (j := 4) 1 [1, 4, 5, 6, 7, 44, 45, 48] [(1, pt p3 0), (4, .int .i64 (((fm o.toNat) : Nat) : Int)), (5, pt p27 0), (6, .int .i64 1), (7, pt p89 0), (44, .agg #[.int .u64 (wh.toNat : Int), .int .i64 1, .int .u64 (t.toNat : Int), .int .i64 1, .int .u64 (am : Int), .int .i64 8, .int .u64 (id : Int), .int .i64 8]), (45, .int .i64 1), (48, .agg #[.int .u64 (t.toNat : Int), .int .i64 1])] (by kernel_rfl) rfl ?_
            obtain ⟨w93, r94, H95⟩ := H92.stA (P := Try.prog) (o := 0) (vs := [.int .u64 (t.toNat : Int), .int .i64 1]) (ty := 55) (m := 2) 3 rfl (by kernel_rfl) rfl (by simp) (by simp [Value.oneCell'])
            have H95 : Hp w [] [.blk p27 [.slice A_0 m_0 c_0] 53, .row A_0 m_0 c_0 5 1 (by8 b_0), .blk p3 [.int .u8 (o.toNat : Int), .int .u8 (wh.toNat : Int), .int .u8 (t.toNat : Int), .int .u64 (am : Int), .int .u64 (id : Int), .int .u8 ((ad 0).toNat : Int), .int .u8 ((ad 1).toNat : Int), .int .u8 ((ad 2).toNat : Int), .int .u8 ((ad 3).toNat : Int), .int .u8 ((ad 4).toNat : Int), .int .u8 ((ad 5).toNat : Int), .int .u8 ((ad 6).toNat : Int), .int .u8 ((ad 7).toNat : Int), .int .u8 ((ad 8).toNat : Int), .int .u8 ((ad 9).toNat : Int), .int .u8 ((ad 10).toNat : Int), .int .u8 ((ad 11).toNat : Int), .int .u8 ((ad 12).toNat : Int), .int .u8 ((ad 13).toNat : Int), .int .u8 ((ad 14).toNat : Int), .int .u8 ((ad 15).toNat : Int), .int .u8 ((ad 16).toNat : Int), .int .u8 ((ad 17).toNat : Int), .int .u8 ((ad 18).toNat : Int), .int .u8 ((ad 19).toNat : Int), .bool ag, .slice Bd bd.length bc] 28, .blk p89 [.int .u64 (t.toNat : Int), .int .i64 1] 55] w93 := H95
            refine GL.semU (j := 5) r94 [1, 4, 5, 6, 7, 44, 45] [(1, pt p3 0), (4, .int .i64 (((fm o.toNat) : Nat) : Int)), (5, pt p27 0), (6, .int .i64 1), (7, pt p89 0), (44, .agg #[.int .u64 (wh.toNat : Int), .int .i64 1, .int .u64 (t.toNat : Int), .int .i64 1, .int .u64 (am : Int), .int .i64 8, .int .u64 (id : Int), .int .i64 8]), (45, .int .i64 1)] (by kernel_rfl) rfl rfl rfl ?_
            refine GL.k rfl hK88 (fun _ _ h => h) ?_
            refine G.seqK fun K96 hK97 => ?_
            refine G.region ?_
            refine GL.run (j := 5) 5 [1, 4, 5, 7, 44, 45, 53] [(1, pt p3 0), (4, .int .i64 (((fm o.toNat) : Nat) : Int)), (5, pt p27 0), (7, pt p89 0), (44, .agg #[.int .u64 (wh.toNat : Int), .int .i64 1, .int .u64 (t.toNat : Int), .int .i64 1, .int .u64 (am : Int), .int .i64 8, .int .u64 (id : Int), .int .i64 8]), (45, .int .i64 1), (53, .bool ((Go.bits .and .i64 (Int.fdiv (((fm o.toNat) : Nat) : Int) (2 ^ 1)) 1) == 1))] (by kernel_rfl) rfl ?_
            have e98 : (Int.fdiv (((fm o.toNat) : Nat) : Int) (2 ^ 1)) = ((fm o.toNat / 2 ^ 1 : Nat) : Int) := n_shr _ 1
            have e99 : (Go.bits .and .i64 ((fm o.toNat / 2 ^ 1 : Nat) : Int) 1) = (((fm o.toNat / 2 ^ 1) % 2 : Nat) : Int) := i_and1 (Nat.lt_of_le_of_lt (Nat.div_le_self _ _) (fm_lt _))
            refine GL.eq (M' := [(1, pt p3 0), (4, .int .i64 (((fm o.toNat) : Nat) : Int)), (5, pt p27 0), (7, pt p89 0), (44, .agg #[.int .u64 (wh.toNat : Int), .int .i64 1, .int .u64 (t.toNat : Int), .int .i64 1, .int .u64 (am : Int), .int .i64 8, .int .u64 (id : Int), .int .i64 8]), (45, .int .i64 1), (53, .bool ((((fm o.toNat / 2 ^ 1) % 2 : Nat) : Int) == 1))]) (by rw [e98, e99]) ?_
            clear e98 e99
            refine GL.k rfl hK97 (fun _ _ h => h) ?_
            cases hb100 : ((((fm o.toNat / 2 ^ 1) % 2 : Nat) : Int) == 1)
            · skip
              have hb100f := ne_of_beq_false hb100
              refine G.no rfl ?_
              refine G.skipK hK86 (fun _ _ h => h) ?_
              have H101 : Hp w [] [.blk p27 [.slice A_0 m_0 c_0] 53, .row A_0 m_0 c_0 5 1 (by8 b_0), .blk p3 [.int .u8 (o.toNat : Int), .int .u8 (wh.toNat : Int), .int .u8 (t.toNat : Int), .int .u64 (am : Int), .int .u64 (id : Int), .int .u8 ((ad 0).toNat : Int), .int .u8 ((ad 1).toNat : Int), .int .u8 ((ad 2).toNat : Int), .int .u8 ((ad 3).toNat : Int), .int .u8 ((ad 4).toNat : Int), .int .u8 ((ad 5).toNat : Int), .int .u8 ((ad 6).toNat : Int), .int .u8 ((ad 7).toNat : Int), .int .u8 ((ad 8).toNat : Int), .int .u8 ((ad 9).toNat : Int), .int .u8 ((ad 10).toNat : Int), .int .u8 ((ad 11).toNat : Int), .int .u8 ((ad 12).toNat : Int), .int .u8 ((ad 13).toNat : Int), .int .u8 ((ad 14).toNat : Int), .int .u8 ((ad 15).toNat : Int), .int .u8 ((ad 16).toNat : Int), .int .u8 ((ad 17).toNat : Int), .int .u8 ((ad 18).toNat : Int), .int .u8 ((ad 19).toNat : Int), .bool ag, .slice Bd bd.length bc] 28] w93 := H95.sub (List.Sublist.cons_cons _ (List.Sublist.cons_cons _ (List.Sublist.cons_cons _ (List.Sublist.cons _ (List.Sublist.slnil)))))
              refine G.fit [1, 4, 5, 44, 45] (M' := [(1, pt p3 0), (4, .int .i64 (((fm o.toNat) : Nat) : Int)), (5, pt p27 0), (44, .agg #[.int .u64 (wh.toNat : Int), .int .i64 1, .int .u64 (t.toNat : Int), .int .i64 1, .int .u64 (am : Int), .int .i64 8, .int .u64 (id : Int), .int .i64 8]), (45, .int .i64 1)]) (by kernel_rfl) ?_
              exact J84 ⟨A_0, c_0, m_0, b_0⟩ _ ⟨⟨by rw [fld, if_neg (by omega), List.append_nil], by omega⟩, H101⟩
            · skip
              have hb100f := eq_of_beq hb100
              refine G.yes rfl ?_
              refine G.region ?_
              refine GL.run (j := 1) 1 [1, 4, 5, 7, 44, 45, 54] [(1, pt p3 0), (4, .int .i64 (((fm o.toNat) : Nat) : Int)), (5, pt p27 0), (7, pt p89 0), (44, .agg #[.int .u64 (wh.toNat : Int), .int .i64 1, .int .u64 (t.toNat : Int), .int .i64 1, .int .u64 (am : Int), .int .i64 8, .int .u64 (id : Int), .int .i64 8]), (45, .int .i64 1), (54, pt p89 0)] (by kernel_rfl) rfl ?_
              refine GL.sem (j := 2) (H95.ld (o := 0) (ty := 23) (v := .int .u64 (t.toNat : Int)) 3 rfl (by kernel_rfl) rfl) [1, 4, 5, 7, 44, 45, 55] [(1, pt p3 0), (4, .int .i64 (((fm o.toNat) : Nat) : Int)), (5, pt p27 0), (7, pt p89 0), (44, .agg #[.int .u64 (wh.toNat : Int), .int .i64 1, .int .u64 (t.toNat : Int), .int .i64 1, .int .u64 (am : Int), .int .i64 8, .int .u64 (id : Int), .int .i64 8]), (45, .int .i64 1), (55, .int .u64 (t.toNat : Int))] (by kernel_rfl) (by kernel_rfl) rfl ?_
              refine GL.run (j := 3) 1 [1, 4, 5, 44, 45, 55, 56] [(1, pt p3 0), (4, .int .i64 (((fm o.toNat) : Nat) : Int)), (5, pt p27 0), (44, .agg #[.int .u64 (wh.toNat : Int), .int .i64 1, .int .u64 (t.toNat : Int), .int .i64 1, .int .u64 (am : Int), .int .i64 8, .int .u64 (id : Int), .int .i64 8]), (45, .int .i64 1), (55, .int .u64 (t.toNat : Int)), (56, pt p89 1)] (by kernel_rfl) rfl ?_
              refine GL.sem (j := 4) (H95.ld (o := 1) (ty := 3) (v := .int .i64 1) 3 rfl (by kernel_rfl) rfl) [1, 4, 5, 44, 45, 55, 57] [(1, pt p3 0), (4, .int .i64 (((fm o.toNat) : Nat) : Int)), (5, pt p27 0), (44, .agg #[.int .u64 (wh.toNat : Int), .int .i64 1, .int .u64 (t.toNat : Int), .int .i64 1, .int .u64 (am : Int), .int .i64 8, .int .u64 (id : Int), .int .i64 8]), (45, .int .i64 1), (55, .int .u64 (t.toNat : Int)), (57, .int .i64 1)] (by kernel_rfl) (by kernel_rfl) rfl ?_
              refine GL.call (j := 5) (Put1_calls (ids [.blk p27 [.slice A_0 m_0 c_0] 53, .row A_0 m_0 c_0 5 1 (by8 b_0)]) p27 A_0 m_0 c_0 b_0 t.toNat w93 (Hp.startL (A := [.blk p27 [.slice A_0 m_0 c_0] 53, .row A_0 m_0 c_0 5 1 (by8 b_0)]) (B := [.blk p3 [.int .u8 (o.toNat : Int), .int .u8 (wh.toNat : Int), .int .u8 (t.toNat : Int), .int .u64 (am : Int), .int .u64 (id : Int), .int .u8 ((ad 0).toNat : Int), .int .u8 ((ad 1).toNat : Int), .int .u8 ((ad 2).toNat : Int), .int .u8 ((ad 3).toNat : Int), .int .u8 ((ad 4).toNat : Int), .int .u8 ((ad 5).toNat : Int), .int .u8 ((ad 6).toNat : Int), .int .u8 ((ad 7).toNat : Int), .int .u8 ((ad 8).toNat : Int), .int .u8 ((ad 9).toNat : Int), .int .u8 ((ad 10).toNat : Int), .int .u8 ((ad 11).toNat : Int), .int .u8 ((ad 12).toNat : Int), .int .u8 ((ad 13).toNat : Int), .int .u8 ((ad 14).toNat : Int), .int .u8 ((ad 15).toNat : Int), .int .u8 ((ad 16).toNat : Int), .int .u8 ((ad 17).toNat : Int), .int .u8 ((ad 18).toNat : Int), .int .u8 ((ad 19).toNat : Int), .bool ag, .slice Bd bd.length bc] 28, .blk p89 [.int .u64 (t.toNat : Int), .int .i64 1] 55]) H95) (by omega)) (by kernel_rfl) rfl (fun e_ w105 hR => ?_)
              obtain ⟨A103, c104, rfl, H107⟩ := hR
              have H106 : Hp w [] [.blk p27 [.slice A103 (m_0 + 1) c104] 53, .row A103 (m_0 + 1) c104 5 1 (by8 (b_0 ++ (putB t.toNat 1))), .blk p3 [.int .u8 (o.toNat : Int), .int .u8 (wh.toNat : Int), .int .u8 (t.toNat : Int), .int .u64 (am : Int), .int .u64 (id : Int), .int .u8 ((ad 0).toNat : Int), .int .u8 ((ad 1).toNat : Int), .int .u8 ((ad 2).toNat : Int), .int .u8 ((ad 3).toNat : Int), .int .u8 ((ad 4).toNat : Int), .int .u8 ((ad 5).toNat : Int), .int .u8 ((ad 6).toNat : Int), .int .u8 ((ad 7).toNat : Int), .int .u8 ((ad 8).toNat : Int), .int .u8 ((ad 9).toNat : Int), .int .u8 ((ad 10).toNat : Int), .int .u8 ((ad 11).toNat : Int), .int .u8 ((ad 12).toNat : Int), .int .u8 ((ad 13).toNat : Int), .int .u8 ((ad 14).toNat : Int), .int .u8 ((ad 15).toNat : Int), .int .u8 ((ad 16).toNat : Int), .int .u8 ((ad 17).toNat : Int), .int .u8 ((ad 18).toNat : Int), .int .u8 ((ad 19).toNat : Int), .bool ag, .slice Bd bd.length bc] 28, .blk p89 [.int .u64 (t.toNat : Int), .int .i64 1] 55] w105 := Hp.callL (A := [.blk p27 [.slice A_0 m_0 c_0] 53, .row A_0 m_0 c_0 5 1 (by8 b_0)]) (B := [.blk p3 [.int .u8 (o.toNat : Int), .int .u8 (wh.toNat : Int), .int .u8 (t.toNat : Int), .int .u64 (am : Int), .int .u64 (id : Int), .int .u8 ((ad 0).toNat : Int), .int .u8 ((ad 1).toNat : Int), .int .u8 ((ad 2).toNat : Int), .int .u8 ((ad 3).toNat : Int), .int .u8 ((ad 4).toNat : Int), .int .u8 ((ad 5).toNat : Int), .int .u8 ((ad 6).toNat : Int), .int .u8 ((ad 7).toNat : Int), .int .u8 ((ad 8).toNat : Int), .int .u8 ((ad 9).toNat : Int), .int .u8 ((ad 10).toNat : Int), .int .u8 ((ad 11).toNat : Int), .int .u8 ((ad 12).toNat : Int), .int .u8 ((ad 13).toNat : Int), .int .u8 ((ad 14).toNat : Int), .int .u8 ((ad 15).toNat : Int), .int .u8 ((ad 16).toNat : Int), .int .u8 ((ad 17).toNat : Int), .int .u8 ((ad 18).toNat : Int), .int .u8 ((ad 19).toNat : Int), .bool ag, .slice Bd bd.length bc] 28, .blk p89 [.int .u64 (t.toNat : Int), .int .i64 1] 55]) H95 H107
              refine ⟨_, rfl, [1, 4, 5, 44, 45], [(1, pt p3 0), (4, .int .i64 (((fm o.toNat) : Nat) : Int)), (5, pt p27 0), (44, .agg #[.int .u64 (wh.toNat : Int), .int .i64 1, .int .u64 (t.toNat : Int), .int .i64 1, .int .u64 (am : Int), .int .i64 8, .int .u64 (id : Int), .int .i64 8]), (45, .int .i64 1)], by kernel_rfl, ?_⟩
              refine GL.k rfl hK86 (fun _ _ h => h) ?_
              have H108 : Hp w [] [.blk p27 [.slice A103 (m_0 + 1) c104] 53, .row A103 (m_0 + 1) c104 5 1 (by8 (b_0 ++ (putB t.toNat 1))), .blk p3 [.int .u8 (o.toNat : Int), .int .u8 (wh.toNat : Int), .int .u8 (t.toNat : Int), .int .u64 (am : Int), .int .u64 (id : Int), .int .u8 ((ad 0).toNat : Int), .int .u8 ((ad 1).toNat : Int), .int .u8 ((ad 2).toNat : Int), .int .u8 ((ad 3).toNat : Int), .int .u8 ((ad 4).toNat : Int), .int .u8 ((ad 5).toNat : Int), .int .u8 ((ad 6).toNat : Int), .int .u8 ((ad 7).toNat : Int), .int .u8 ((ad 8).toNat : Int), .int .u8 ((ad 9).toNat : Int), .int .u8 ((ad 10).toNat : Int), .int .u8 ((ad 11).toNat : Int), .int .u8 ((ad 12).toNat : Int), .int .u8 ((ad 13).toNat : Int), .int .u8 ((ad 14).toNat : Int), .int .u8 ((ad 15).toNat : Int), .int .u8 ((ad 16).toNat : Int), .int .u8 ((ad 17).toNat : Int), .int .u8 ((ad 18).toNat : Int), .int .u8 ((ad 19).toNat : Int), .bool ag, .slice Bd bd.length bc] 28] w105 := H106.sub (List.Sublist.cons_cons _ (List.Sublist.cons_cons _ (List.Sublist.cons_cons _ (List.Sublist.cons _ (List.Sublist.slnil)))))
              refine G.fit [1, 4, 5, 44, 45] (M' := [(1, pt p3 0), (4, .int .i64 (((fm o.toNat) : Nat) : Int)), (5, pt p27 0), (44, .agg #[.int .u64 (wh.toNat : Int), .int .i64 1, .int .u64 (t.toNat : Int), .int .i64 1, .int .u64 (am : Int), .int .i64 8, .int .u64 (id : Int), .int .i64 8]), (45, .int .i64 1)]) (by kernel_rfl) ?_
              exact J84 ⟨A103, c104, (m_0 + 1), (b_0 ++ (putB t.toNat 1))⟩ _ ⟨⟨by rw [fld, if_pos (by omega)], by omega⟩, H108⟩
          · skip
            rintro ⟨A_1, c_1, m_1, b_1⟩ w110 ⟨hi111, H112⟩
            refine G.eq (M' := [(1, pt p3 0), (4, .int .i64 (((fm o.toNat) : Nat) : Int)), (5, pt p27 0), (44, .agg #[.int .u64 (wh.toNat : Int), .int .i64 1, .int .u64 (t.toNat : Int), .int .i64 1, .int .u64 (am : Int), .int .i64 8, .int .u64 (id : Int), .int .i64 8]), (45, .int .i64 1)]) rfl ?_
            have H112 : Hp w [] [.blk p27 [.slice A_1 m_1 c_1] 53, .row A_1 m_1 c_1 5 1 (by8 b_1), .blk p3 [.int .u8 (o.toNat : Int), .int .u8 (wh.toNat : Int), .int .u8 (t.toNat : Int), .int .u64 (am : Int), .int .u64 (id : Int), .int .u8 ((ad 0).toNat : Int), .int .u8 ((ad 1).toNat : Int), .int .u8 ((ad 2).toNat : Int), .int .u8 ((ad 3).toNat : Int), .int .u8 ((ad 4).toNat : Int), .int .u8 ((ad 5).toNat : Int), .int .u8 ((ad 6).toNat : Int), .int .u8 ((ad 7).toNat : Int), .int .u8 ((ad 8).toNat : Int), .int .u8 ((ad 9).toNat : Int), .int .u8 ((ad 10).toNat : Int), .int .u8 ((ad 11).toNat : Int), .int .u8 ((ad 12).toNat : Int), .int .u8 ((ad 13).toNat : Int), .int .u8 ((ad 14).toNat : Int), .int .u8 ((ad 15).toNat : Int), .int .u8 ((ad 16).toNat : Int), .int .u8 ((ad 17).toNat : Int), .int .u8 ((ad 18).toNat : Int), .int .u8 ((ad 19).toNat : Int), .bool ag, .slice Bd bd.length bc] 28] w110 := H112
            obtain ⟨hb_1, hm_1⟩ := hi111
            refine G.region ?_
            refine GL.run (j := 2) 2 [1, 4, 5, 44, 45] [(1, pt p3 0), (4, .int .i64 (((fm o.toNat) : Nat) : Int)), (5, pt p27 0), (44, .agg #[.int .u64 (wh.toNat : Int), .int .i64 1, .int .u64 (t.toNat : Int), .int .i64 1, .int .u64 (am : Int), .int .i64 8, .int .u64 (id : Int), .int .i64 8]), (45, .int .i64 2)] (by kernel_rfl) rfl ?_
            refine GL.round rfl ?_
            refine G.seqK fun K113 hK114 => ?_
            refine G.region ?_
            refine GL.run (j := 1) 1 [1, 4, 5, 44, 45, 46] [(1, pt p3 0), (4, .int .i64 (((fm o.toNat) : Nat) : Int)), (5, pt p27 0), (44, .agg #[.int .u64 (wh.toNat : Int), .int .i64 1, .int .u64 (t.toNat : Int), .int .i64 1, .int .u64 (am : Int), .int .i64 8, .int .u64 (id : Int), .int .i64 8]), (45, .int .i64 2), (46, .bool true)] (by kernel_rfl) rfl ?_
            refine GL.k rfl hK114 (fun _ _ h => h) ?_
            refine G.seqK fun K115 hK116 => ?_
            refine G.yes rfl ?_
            refine G.skipK hK116 (fun _ _ h => h) ?_
            refine G.seqJ (X := Option Addr × Nat × Nat × List UInt8) (fun ⟨A_2, c_2, m_2, b_2⟩ => [(1, pt p3 0), (4, .int .i64 (((fm o.toNat) : Nat) : Int)), (5, pt p27 0), (44, .agg #[.int .u64 (wh.toNat : Int), .int .i64 1, .int .u64 (t.toNat : Int), .int .i64 1, .int .u64 (am : Int), .int .i64 8, .int .u64 (id : Int), .int .i64 8]), (45, .int .i64 2)]) (fun ⟨A_2, c_2, m_2, b_2⟩ w_ => (b_2 = b_1 ++ fld o.toNat 2 (putB am 8) ∧ m_2 ≤ m_1 + 8) ∧ Hp w [] [.blk p27 [.slice A_2 m_2 c_2] 53, .row A_2 m_2 c_2 5 1 (by8 b_2), .blk p3 [.int .u8 (o.toNat : Int), .int .u8 (wh.toNat : Int), .int .u8 (t.toNat : Int), .int .u64 (am : Int), .int .u64 (id : Int), .int .u8 ((ad 0).toNat : Int), .int .u8 ((ad 1).toNat : Int), .int .u8 ((ad 2).toNat : Int), .int .u8 ((ad 3).toNat : Int), .int .u8 ((ad 4).toNat : Int), .int .u8 ((ad 5).toNat : Int), .int .u8 ((ad 6).toNat : Int), .int .u8 ((ad 7).toNat : Int), .int .u8 ((ad 8).toNat : Int), .int .u8 ((ad 9).toNat : Int), .int .u8 ((ad 10).toNat : Int), .int .u8 ((ad 11).toNat : Int), .int .u8 ((ad 12).toNat : Int), .int .u8 ((ad 13).toNat : Int), .int .u8 ((ad 14).toNat : Int), .int .u8 ((ad 15).toNat : Int), .int .u8 ((ad 16).toNat : Int), .int .u8 ((ad 17).toNat : Int), .int .u8 ((ad 18).toNat : Int), .int .u8 ((ad 19).toNat : Int), .bool ag, .slice Bd bd.length bc] 28] w_) (fun J117 K118 hK119 => ?_) ?_
            · skip
              refine G.block ?_
              refine G.seqK fun K120 hK121 => ?_
              refine G.region ?_
              refine GL.run (j := 2) 2 [1, 4, 5, 44, 45, 47, 48] [(1, pt p3 0), (4, .int .i64 (((fm o.toNat) : Nat) : Int)), (5, pt p27 0), (44, .agg #[.int .u64 (wh.toNat : Int), .int .i64 1, .int .u64 (t.toNat : Int), .int .i64 1, .int .u64 (am : Int), .int .i64 8, .int .u64 (id : Int), .int .i64 8]), (45, .int .i64 2), (47, .int .i64 2), (48, .agg #[.int .u64 (am : Int), .int .i64 8])] (by kernel_rfl) rfl ?_
              obtain ⟨p122, w123, r124, H125⟩ := H112.alloc (P := Try.prog) 55 [.int .u64 0, .int .i64 0] (by kernel_rfl)
              have H125 : Hp w [] [.blk p27 [.slice A_1 m_1 c_1] 53, .row A_1 m_1 c_1 5 1 (by8 b_1), .blk p3 [.int .u8 (o.toNat : Int), .int .u8 (wh.toNat : Int), .int .u8 (t.toNat : Int), .int .u64 (am : Int), .int .u64 (id : Int), .int .u8 ((ad 0).toNat : Int), .int .u8 ((ad 1).toNat : Int), .int .u8 ((ad 2).toNat : Int), .int .u8 ((ad 3).toNat : Int), .int .u8 ((ad 4).toNat : Int), .int .u8 ((ad 5).toNat : Int), .int .u8 ((ad 6).toNat : Int), .int .u8 ((ad 7).toNat : Int), .int .u8 ((ad 8).toNat : Int), .int .u8 ((ad 9).toNat : Int), .int .u8 ((ad 10).toNat : Int), .int .u8 ((ad 11).toNat : Int), .int .u8 ((ad 12).toNat : Int), .int .u8 ((ad 13).toNat : Int), .int .u8 ((ad 14).toNat : Int), .int .u8 ((ad 15).toNat : Int), .int .u8 ((ad 16).toNat : Int), .int .u8 ((ad 17).toNat : Int), .int .u8 ((ad 18).toNat : Int), .int .u8 ((ad 19).toNat : Int), .bool ag, .slice Bd bd.length bc] 28, .blk p122 [.int .u64 0, .int .i64 0] 55] w123 := H125
              refine GL.sem (j := 3) (r124) [1, 4, 5, 7, 44, 45, 47, 48] [(1, pt p3 0), (4, .int .i64 (((fm o.toNat) : Nat) : Int)), (5, pt p27 0), (7, pt p122 0), (44, .agg #[.int .u64 (wh.toNat : Int), .int .i64 1, .int .u64 (t.toNat : Int), .int .i64 1, .int .u64 (am : Int), .int .i64 8, .int .u64 (id : Int), .int .i64 8]), (45, .int .i64 2), (47, .int .i64 2), (48, .agg #[.int .u64 (am : Int), .int .i64 8])] (by kernel_rfl) (by kernel_rfl) rfl ?_
              refine GL.run (j := 4) 1 [1, 4, 5, 6, 7, 44, 45, 48] [(1, pt p3 0), (4, .int .i64 (((fm o.toNat) : Nat) : Int)), (5, pt p27 0), (6, .int .i64 2), (7, pt p122 0), (44, .agg #[.int .u64 (wh.toNat : Int), .int .i64 1, .int .u64 (t.toNat : Int), .int .i64 1, .int .u64 (am : Int), .int .i64 8, .int .u64 (id : Int), .int .i64 8]), (45, .int .i64 2), (48, .agg #[.int .u64 (am : Int), .int .i64 8])] (by kernel_rfl) rfl ?_
              obtain ⟨w126, r127, H128⟩ := H125.stA (P := Try.prog) (o := 0) (vs := [.int .u64 (am : Int), .int .i64 8]) (ty := 55) (m := 2) 3 rfl (by kernel_rfl) rfl (by simp) (by simp [Value.oneCell'])
              have H128 : Hp w [] [.blk p27 [.slice A_1 m_1 c_1] 53, .row A_1 m_1 c_1 5 1 (by8 b_1), .blk p3 [.int .u8 (o.toNat : Int), .int .u8 (wh.toNat : Int), .int .u8 (t.toNat : Int), .int .u64 (am : Int), .int .u64 (id : Int), .int .u8 ((ad 0).toNat : Int), .int .u8 ((ad 1).toNat : Int), .int .u8 ((ad 2).toNat : Int), .int .u8 ((ad 3).toNat : Int), .int .u8 ((ad 4).toNat : Int), .int .u8 ((ad 5).toNat : Int), .int .u8 ((ad 6).toNat : Int), .int .u8 ((ad 7).toNat : Int), .int .u8 ((ad 8).toNat : Int), .int .u8 ((ad 9).toNat : Int), .int .u8 ((ad 10).toNat : Int), .int .u8 ((ad 11).toNat : Int), .int .u8 ((ad 12).toNat : Int), .int .u8 ((ad 13).toNat : Int), .int .u8 ((ad 14).toNat : Int), .int .u8 ((ad 15).toNat : Int), .int .u8 ((ad 16).toNat : Int), .int .u8 ((ad 17).toNat : Int), .int .u8 ((ad 18).toNat : Int), .int .u8 ((ad 19).toNat : Int), .bool ag, .slice Bd bd.length bc] 28, .blk p122 [.int .u64 (am : Int), .int .i64 8] 55] w126 := H128
              refine GL.semU (j := 5) r127 [1, 4, 5, 6, 7, 44, 45] [(1, pt p3 0), (4, .int .i64 (((fm o.toNat) : Nat) : Int)), (5, pt p27 0), (6, .int .i64 2), (7, pt p122 0), (44, .agg #[.int .u64 (wh.toNat : Int), .int .i64 1, .int .u64 (t.toNat : Int), .int .i64 1, .int .u64 (am : Int), .int .i64 8, .int .u64 (id : Int), .int .i64 8]), (45, .int .i64 2)] (by kernel_rfl) rfl rfl rfl ?_
              refine GL.k rfl hK121 (fun _ _ h => h) ?_
              refine G.seqK fun K129 hK130 => ?_
              refine G.region ?_
              refine GL.run (j := 5) 5 [1, 4, 5, 7, 44, 45, 53] [(1, pt p3 0), (4, .int .i64 (((fm o.toNat) : Nat) : Int)), (5, pt p27 0), (7, pt p122 0), (44, .agg #[.int .u64 (wh.toNat : Int), .int .i64 1, .int .u64 (t.toNat : Int), .int .i64 1, .int .u64 (am : Int), .int .i64 8, .int .u64 (id : Int), .int .i64 8]), (45, .int .i64 2), (53, .bool ((Go.bits .and .i64 (Int.fdiv (((fm o.toNat) : Nat) : Int) (2 ^ 2)) 1) == 1))] (by kernel_rfl) rfl ?_
              have e131 : (Int.fdiv (((fm o.toNat) : Nat) : Int) (2 ^ 2)) = ((fm o.toNat / 2 ^ 2 : Nat) : Int) := n_shr _ 2
              have e132 : (Go.bits .and .i64 ((fm o.toNat / 2 ^ 2 : Nat) : Int) 1) = (((fm o.toNat / 2 ^ 2) % 2 : Nat) : Int) := i_and1 (Nat.lt_of_le_of_lt (Nat.div_le_self _ _) (fm_lt _))
              refine GL.eq (M' := [(1, pt p3 0), (4, .int .i64 (((fm o.toNat) : Nat) : Int)), (5, pt p27 0), (7, pt p122 0), (44, .agg #[.int .u64 (wh.toNat : Int), .int .i64 1, .int .u64 (t.toNat : Int), .int .i64 1, .int .u64 (am : Int), .int .i64 8, .int .u64 (id : Int), .int .i64 8]), (45, .int .i64 2), (53, .bool ((((fm o.toNat / 2 ^ 2) % 2 : Nat) : Int) == 1))]) (by rw [e131, e132]) ?_
              clear e131 e132
              refine GL.k rfl hK130 (fun _ _ h => h) ?_
              cases hb133 : ((((fm o.toNat / 2 ^ 2) % 2 : Nat) : Int) == 1)
              · skip
                have hb133f := ne_of_beq_false hb133
                refine G.no rfl ?_
                refine G.skipK hK119 (fun _ _ h => h) ?_
                have H134 : Hp w [] [.blk p27 [.slice A_1 m_1 c_1] 53, .row A_1 m_1 c_1 5 1 (by8 b_1), .blk p3 [.int .u8 (o.toNat : Int), .int .u8 (wh.toNat : Int), .int .u8 (t.toNat : Int), .int .u64 (am : Int), .int .u64 (id : Int), .int .u8 ((ad 0).toNat : Int), .int .u8 ((ad 1).toNat : Int), .int .u8 ((ad 2).toNat : Int), .int .u8 ((ad 3).toNat : Int), .int .u8 ((ad 4).toNat : Int), .int .u8 ((ad 5).toNat : Int), .int .u8 ((ad 6).toNat : Int), .int .u8 ((ad 7).toNat : Int), .int .u8 ((ad 8).toNat : Int), .int .u8 ((ad 9).toNat : Int), .int .u8 ((ad 10).toNat : Int), .int .u8 ((ad 11).toNat : Int), .int .u8 ((ad 12).toNat : Int), .int .u8 ((ad 13).toNat : Int), .int .u8 ((ad 14).toNat : Int), .int .u8 ((ad 15).toNat : Int), .int .u8 ((ad 16).toNat : Int), .int .u8 ((ad 17).toNat : Int), .int .u8 ((ad 18).toNat : Int), .int .u8 ((ad 19).toNat : Int), .bool ag, .slice Bd bd.length bc] 28] w126 := H128.sub (List.Sublist.cons_cons _ (List.Sublist.cons_cons _ (List.Sublist.cons_cons _ (List.Sublist.cons _ (List.Sublist.slnil)))))
                refine G.fit [1, 4, 5, 44, 45] (M' := [(1, pt p3 0), (4, .int .i64 (((fm o.toNat) : Nat) : Int)), (5, pt p27 0), (44, .agg #[.int .u64 (wh.toNat : Int), .int .i64 1, .int .u64 (t.toNat : Int), .int .i64 1, .int .u64 (am : Int), .int .i64 8, .int .u64 (id : Int), .int .i64 8]), (45, .int .i64 2)]) (by kernel_rfl) ?_
                exact J117 ⟨A_1, c_1, m_1, b_1⟩ _ ⟨⟨by rw [fld, if_neg (by omega), List.append_nil], by omega⟩, H134⟩
              · skip
                have hb133f := eq_of_beq hb133
                refine G.yes rfl ?_
                refine G.region ?_
                refine GL.run (j := 1) 1 [1, 4, 5, 7, 44, 45, 54] [(1, pt p3 0), (4, .int .i64 (((fm o.toNat) : Nat) : Int)), (5, pt p27 0), (7, pt p122 0), (44, .agg #[.int .u64 (wh.toNat : Int), .int .i64 1, .int .u64 (t.toNat : Int), .int .i64 1, .int .u64 (am : Int), .int .i64 8, .int .u64 (id : Int), .int .i64 8]), (45, .int .i64 2), (54, pt p122 0)] (by kernel_rfl) rfl ?_
                refine GL.sem (j := 2) (H128.ld (o := 0) (ty := 23) (v := .int .u64 (am : Int)) 3 rfl (by kernel_rfl) rfl) [1, 4, 5, 7, 44, 45, 55] [(1, pt p3 0), (4, .int .i64 (((fm o.toNat) : Nat) : Int)), (5, pt p27 0), (7, pt p122 0), (44, .agg #[.int .u64 (wh.toNat : Int), .int .i64 1, .int .u64 (t.toNat : Int), .int .i64 1, .int .u64 (am : Int), .int .i64 8, .int .u64 (id : Int), .int .i64 8]), (45, .int .i64 2), (55, .int .u64 (am : Int))] (by kernel_rfl) (by kernel_rfl) rfl ?_
                refine GL.run (j := 3) 1 [1, 4, 5, 44, 45, 55, 56] [(1, pt p3 0), (4, .int .i64 (((fm o.toNat) : Nat) : Int)), (5, pt p27 0), (44, .agg #[.int .u64 (wh.toNat : Int), .int .i64 1, .int .u64 (t.toNat : Int), .int .i64 1, .int .u64 (am : Int), .int .i64 8, .int .u64 (id : Int), .int .i64 8]), (45, .int .i64 2), (55, .int .u64 (am : Int)), (56, pt p122 1)] (by kernel_rfl) rfl ?_
                refine GL.sem (j := 4) (H128.ld (o := 1) (ty := 3) (v := .int .i64 8) 3 rfl (by kernel_rfl) rfl) [1, 4, 5, 44, 45, 55, 57] [(1, pt p3 0), (4, .int .i64 (((fm o.toNat) : Nat) : Int)), (5, pt p27 0), (44, .agg #[.int .u64 (wh.toNat : Int), .int .i64 1, .int .u64 (t.toNat : Int), .int .i64 1, .int .u64 (am : Int), .int .i64 8, .int .u64 (id : Int), .int .i64 8]), (45, .int .i64 2), (55, .int .u64 (am : Int)), (57, .int .i64 8)] (by kernel_rfl) (by kernel_rfl) rfl ?_
                refine GL.call (j := 5) (Put8_calls (ids [.blk p27 [.slice A_1 m_1 c_1] 53, .row A_1 m_1 c_1 5 1 (by8 b_1)]) p27 A_1 m_1 c_1 b_1 am w126 (Hp.startL (A := [.blk p27 [.slice A_1 m_1 c_1] 53, .row A_1 m_1 c_1 5 1 (by8 b_1)]) (B := [.blk p3 [.int .u8 (o.toNat : Int), .int .u8 (wh.toNat : Int), .int .u8 (t.toNat : Int), .int .u64 (am : Int), .int .u64 (id : Int), .int .u8 ((ad 0).toNat : Int), .int .u8 ((ad 1).toNat : Int), .int .u8 ((ad 2).toNat : Int), .int .u8 ((ad 3).toNat : Int), .int .u8 ((ad 4).toNat : Int), .int .u8 ((ad 5).toNat : Int), .int .u8 ((ad 6).toNat : Int), .int .u8 ((ad 7).toNat : Int), .int .u8 ((ad 8).toNat : Int), .int .u8 ((ad 9).toNat : Int), .int .u8 ((ad 10).toNat : Int), .int .u8 ((ad 11).toNat : Int), .int .u8 ((ad 12).toNat : Int), .int .u8 ((ad 13).toNat : Int), .int .u8 ((ad 14).toNat : Int), .int .u8 ((ad 15).toNat : Int), .int .u8 ((ad 16).toNat : Int), .int .u8 ((ad 17).toNat : Int), .int .u8 ((ad 18).toNat : Int), .int .u8 ((ad 19).toNat : Int), .bool ag, .slice Bd bd.length bc] 28, .blk p122 [.int .u64 (am : Int), .int .i64 8] 55]) H128) (by omega)) (by kernel_rfl) rfl (fun e_ w138 hR => ?_)
                obtain ⟨A136, c137, rfl, H140⟩ := hR
                have H139 : Hp w [] [.blk p27 [.slice A136 (m_1 + 8) c137] 53, .row A136 (m_1 + 8) c137 5 1 (by8 (b_1 ++ (putB am 8))), .blk p3 [.int .u8 (o.toNat : Int), .int .u8 (wh.toNat : Int), .int .u8 (t.toNat : Int), .int .u64 (am : Int), .int .u64 (id : Int), .int .u8 ((ad 0).toNat : Int), .int .u8 ((ad 1).toNat : Int), .int .u8 ((ad 2).toNat : Int), .int .u8 ((ad 3).toNat : Int), .int .u8 ((ad 4).toNat : Int), .int .u8 ((ad 5).toNat : Int), .int .u8 ((ad 6).toNat : Int), .int .u8 ((ad 7).toNat : Int), .int .u8 ((ad 8).toNat : Int), .int .u8 ((ad 9).toNat : Int), .int .u8 ((ad 10).toNat : Int), .int .u8 ((ad 11).toNat : Int), .int .u8 ((ad 12).toNat : Int), .int .u8 ((ad 13).toNat : Int), .int .u8 ((ad 14).toNat : Int), .int .u8 ((ad 15).toNat : Int), .int .u8 ((ad 16).toNat : Int), .int .u8 ((ad 17).toNat : Int), .int .u8 ((ad 18).toNat : Int), .int .u8 ((ad 19).toNat : Int), .bool ag, .slice Bd bd.length bc] 28, .blk p122 [.int .u64 (am : Int), .int .i64 8] 55] w138 := Hp.callL (A := [.blk p27 [.slice A_1 m_1 c_1] 53, .row A_1 m_1 c_1 5 1 (by8 b_1)]) (B := [.blk p3 [.int .u8 (o.toNat : Int), .int .u8 (wh.toNat : Int), .int .u8 (t.toNat : Int), .int .u64 (am : Int), .int .u64 (id : Int), .int .u8 ((ad 0).toNat : Int), .int .u8 ((ad 1).toNat : Int), .int .u8 ((ad 2).toNat : Int), .int .u8 ((ad 3).toNat : Int), .int .u8 ((ad 4).toNat : Int), .int .u8 ((ad 5).toNat : Int), .int .u8 ((ad 6).toNat : Int), .int .u8 ((ad 7).toNat : Int), .int .u8 ((ad 8).toNat : Int), .int .u8 ((ad 9).toNat : Int), .int .u8 ((ad 10).toNat : Int), .int .u8 ((ad 11).toNat : Int), .int .u8 ((ad 12).toNat : Int), .int .u8 ((ad 13).toNat : Int), .int .u8 ((ad 14).toNat : Int), .int .u8 ((ad 15).toNat : Int), .int .u8 ((ad 16).toNat : Int), .int .u8 ((ad 17).toNat : Int), .int .u8 ((ad 18).toNat : Int), .int .u8 ((ad 19).toNat : Int), .bool ag, .slice Bd bd.length bc] 28, .blk p122 [.int .u64 (am : Int), .int .i64 8] 55]) H128 H140
                refine ⟨_, rfl, [1, 4, 5, 44, 45], [(1, pt p3 0), (4, .int .i64 (((fm o.toNat) : Nat) : Int)), (5, pt p27 0), (44, .agg #[.int .u64 (wh.toNat : Int), .int .i64 1, .int .u64 (t.toNat : Int), .int .i64 1, .int .u64 (am : Int), .int .i64 8, .int .u64 (id : Int), .int .i64 8]), (45, .int .i64 2)], by kernel_rfl, ?_⟩
                refine GL.k rfl hK119 (fun _ _ h => h) ?_
                have H141 : Hp w [] [.blk p27 [.slice A136 (m_1 + 8) c137] 53, .row A136 (m_1 + 8) c137 5 1 (by8 (b_1 ++ (putB am 8))), .blk p3 [.int .u8 (o.toNat : Int), .int .u8 (wh.toNat : Int), .int .u8 (t.toNat : Int), .int .u64 (am : Int), .int .u64 (id : Int), .int .u8 ((ad 0).toNat : Int), .int .u8 ((ad 1).toNat : Int), .int .u8 ((ad 2).toNat : Int), .int .u8 ((ad 3).toNat : Int), .int .u8 ((ad 4).toNat : Int), .int .u8 ((ad 5).toNat : Int), .int .u8 ((ad 6).toNat : Int), .int .u8 ((ad 7).toNat : Int), .int .u8 ((ad 8).toNat : Int), .int .u8 ((ad 9).toNat : Int), .int .u8 ((ad 10).toNat : Int), .int .u8 ((ad 11).toNat : Int), .int .u8 ((ad 12).toNat : Int), .int .u8 ((ad 13).toNat : Int), .int .u8 ((ad 14).toNat : Int), .int .u8 ((ad 15).toNat : Int), .int .u8 ((ad 16).toNat : Int), .int .u8 ((ad 17).toNat : Int), .int .u8 ((ad 18).toNat : Int), .int .u8 ((ad 19).toNat : Int), .bool ag, .slice Bd bd.length bc] 28] w138 := H139.sub (List.Sublist.cons_cons _ (List.Sublist.cons_cons _ (List.Sublist.cons_cons _ (List.Sublist.cons _ (List.Sublist.slnil)))))
                refine G.fit [1, 4, 5, 44, 45] (M' := [(1, pt p3 0), (4, .int .i64 (((fm o.toNat) : Nat) : Int)), (5, pt p27 0), (44, .agg #[.int .u64 (wh.toNat : Int), .int .i64 1, .int .u64 (t.toNat : Int), .int .i64 1, .int .u64 (am : Int), .int .i64 8, .int .u64 (id : Int), .int .i64 8]), (45, .int .i64 2)]) (by kernel_rfl) ?_
                exact J117 ⟨A136, c137, (m_1 + 8), (b_1 ++ (putB am 8))⟩ _ ⟨⟨by rw [fld, if_pos (by omega)], by omega⟩, H141⟩
            · skip
              rintro ⟨A_2, c_2, m_2, b_2⟩ w143 ⟨hi144, H145⟩
              refine G.eq (M' := [(1, pt p3 0), (4, .int .i64 (((fm o.toNat) : Nat) : Int)), (5, pt p27 0), (44, .agg #[.int .u64 (wh.toNat : Int), .int .i64 1, .int .u64 (t.toNat : Int), .int .i64 1, .int .u64 (am : Int), .int .i64 8, .int .u64 (id : Int), .int .i64 8]), (45, .int .i64 2)]) rfl ?_
              have H145 : Hp w [] [.blk p27 [.slice A_2 m_2 c_2] 53, .row A_2 m_2 c_2 5 1 (by8 b_2), .blk p3 [.int .u8 (o.toNat : Int), .int .u8 (wh.toNat : Int), .int .u8 (t.toNat : Int), .int .u64 (am : Int), .int .u64 (id : Int), .int .u8 ((ad 0).toNat : Int), .int .u8 ((ad 1).toNat : Int), .int .u8 ((ad 2).toNat : Int), .int .u8 ((ad 3).toNat : Int), .int .u8 ((ad 4).toNat : Int), .int .u8 ((ad 5).toNat : Int), .int .u8 ((ad 6).toNat : Int), .int .u8 ((ad 7).toNat : Int), .int .u8 ((ad 8).toNat : Int), .int .u8 ((ad 9).toNat : Int), .int .u8 ((ad 10).toNat : Int), .int .u8 ((ad 11).toNat : Int), .int .u8 ((ad 12).toNat : Int), .int .u8 ((ad 13).toNat : Int), .int .u8 ((ad 14).toNat : Int), .int .u8 ((ad 15).toNat : Int), .int .u8 ((ad 16).toNat : Int), .int .u8 ((ad 17).toNat : Int), .int .u8 ((ad 18).toNat : Int), .int .u8 ((ad 19).toNat : Int), .bool ag, .slice Bd bd.length bc] 28] w143 := H145
              obtain ⟨hb_2, hm_2⟩ := hi144
              refine G.region ?_
              refine GL.run (j := 2) 2 [1, 4, 5, 44, 45] [(1, pt p3 0), (4, .int .i64 (((fm o.toNat) : Nat) : Int)), (5, pt p27 0), (44, .agg #[.int .u64 (wh.toNat : Int), .int .i64 1, .int .u64 (t.toNat : Int), .int .i64 1, .int .u64 (am : Int), .int .i64 8, .int .u64 (id : Int), .int .i64 8]), (45, .int .i64 3)] (by kernel_rfl) rfl ?_
              refine GL.round rfl ?_
              refine G.seqK fun K146 hK147 => ?_
              refine G.region ?_
              refine GL.run (j := 1) 1 [1, 4, 5, 44, 45, 46] [(1, pt p3 0), (4, .int .i64 (((fm o.toNat) : Nat) : Int)), (5, pt p27 0), (44, .agg #[.int .u64 (wh.toNat : Int), .int .i64 1, .int .u64 (t.toNat : Int), .int .i64 1, .int .u64 (am : Int), .int .i64 8, .int .u64 (id : Int), .int .i64 8]), (45, .int .i64 3), (46, .bool true)] (by kernel_rfl) rfl ?_
              refine GL.k rfl hK147 (fun _ _ h => h) ?_
              refine G.seqK fun K148 hK149 => ?_
              refine G.yes rfl ?_
              refine G.skipK hK149 (fun _ _ h => h) ?_
              refine G.seqJ (X := Option Addr × Nat × Nat × List UInt8) (fun ⟨A_3, c_3, m_3, b_3⟩ => [(1, pt p3 0), (4, .int .i64 (((fm o.toNat) : Nat) : Int)), (5, pt p27 0), (44, .agg #[.int .u64 (wh.toNat : Int), .int .i64 1, .int .u64 (t.toNat : Int), .int .i64 1, .int .u64 (am : Int), .int .i64 8, .int .u64 (id : Int), .int .i64 8]), (45, .int .i64 3)]) (fun ⟨A_3, c_3, m_3, b_3⟩ w_ => (b_3 = b_2 ++ fld o.toNat 3 (putB id 8) ∧ m_3 ≤ m_2 + 8) ∧ Hp w [] [.blk p27 [.slice A_3 m_3 c_3] 53, .row A_3 m_3 c_3 5 1 (by8 b_3), .blk p3 [.int .u8 (o.toNat : Int), .int .u8 (wh.toNat : Int), .int .u8 (t.toNat : Int), .int .u64 (am : Int), .int .u64 (id : Int), .int .u8 ((ad 0).toNat : Int), .int .u8 ((ad 1).toNat : Int), .int .u8 ((ad 2).toNat : Int), .int .u8 ((ad 3).toNat : Int), .int .u8 ((ad 4).toNat : Int), .int .u8 ((ad 5).toNat : Int), .int .u8 ((ad 6).toNat : Int), .int .u8 ((ad 7).toNat : Int), .int .u8 ((ad 8).toNat : Int), .int .u8 ((ad 9).toNat : Int), .int .u8 ((ad 10).toNat : Int), .int .u8 ((ad 11).toNat : Int), .int .u8 ((ad 12).toNat : Int), .int .u8 ((ad 13).toNat : Int), .int .u8 ((ad 14).toNat : Int), .int .u8 ((ad 15).toNat : Int), .int .u8 ((ad 16).toNat : Int), .int .u8 ((ad 17).toNat : Int), .int .u8 ((ad 18).toNat : Int), .int .u8 ((ad 19).toNat : Int), .bool ag, .slice Bd bd.length bc] 28] w_) (fun J150 K151 hK152 => ?_) ?_
              · skip
                refine G.block ?_
                refine G.seqK fun K153 hK154 => ?_
                refine G.region ?_
                refine GL.run (j := 2) 2 [1, 4, 5, 44, 45, 47, 48] [(1, pt p3 0), (4, .int .i64 (((fm o.toNat) : Nat) : Int)), (5, pt p27 0), (44, .agg #[.int .u64 (wh.toNat : Int), .int .i64 1, .int .u64 (t.toNat : Int), .int .i64 1, .int .u64 (am : Int), .int .i64 8, .int .u64 (id : Int), .int .i64 8]), (45, .int .i64 3), (47, .int .i64 3), (48, .agg #[.int .u64 (id : Int), .int .i64 8])] (by kernel_rfl) rfl ?_
                obtain ⟨p155, w156, r157, H158⟩ := H145.alloc (P := Try.prog) 55 [.int .u64 0, .int .i64 0] (by kernel_rfl)
                have H158 : Hp w [] [.blk p27 [.slice A_2 m_2 c_2] 53, .row A_2 m_2 c_2 5 1 (by8 b_2), .blk p3 [.int .u8 (o.toNat : Int), .int .u8 (wh.toNat : Int), .int .u8 (t.toNat : Int), .int .u64 (am : Int), .int .u64 (id : Int), .int .u8 ((ad 0).toNat : Int), .int .u8 ((ad 1).toNat : Int), .int .u8 ((ad 2).toNat : Int), .int .u8 ((ad 3).toNat : Int), .int .u8 ((ad 4).toNat : Int), .int .u8 ((ad 5).toNat : Int), .int .u8 ((ad 6).toNat : Int), .int .u8 ((ad 7).toNat : Int), .int .u8 ((ad 8).toNat : Int), .int .u8 ((ad 9).toNat : Int), .int .u8 ((ad 10).toNat : Int), .int .u8 ((ad 11).toNat : Int), .int .u8 ((ad 12).toNat : Int), .int .u8 ((ad 13).toNat : Int), .int .u8 ((ad 14).toNat : Int), .int .u8 ((ad 15).toNat : Int), .int .u8 ((ad 16).toNat : Int), .int .u8 ((ad 17).toNat : Int), .int .u8 ((ad 18).toNat : Int), .int .u8 ((ad 19).toNat : Int), .bool ag, .slice Bd bd.length bc] 28, .blk p155 [.int .u64 0, .int .i64 0] 55] w156 := H158
                refine GL.sem (j := 3) (r157) [1, 4, 5, 7, 44, 45, 47, 48] [(1, pt p3 0), (4, .int .i64 (((fm o.toNat) : Nat) : Int)), (5, pt p27 0), (7, pt p155 0), (44, .agg #[.int .u64 (wh.toNat : Int), .int .i64 1, .int .u64 (t.toNat : Int), .int .i64 1, .int .u64 (am : Int), .int .i64 8, .int .u64 (id : Int), .int .i64 8]), (45, .int .i64 3), (47, .int .i64 3), (48, .agg #[.int .u64 (id : Int), .int .i64 8])] (by kernel_rfl) (by kernel_rfl) rfl ?_
                refine GL.run (j := 4) 1 [1, 4, 5, 6, 7, 44, 45, 48] [(1, pt p3 0), (4, .int .i64 (((fm o.toNat) : Nat) : Int)), (5, pt p27 0), (6, .int .i64 3), (7, pt p155 0), (44, .agg #[.int .u64 (wh.toNat : Int), .int .i64 1, .int .u64 (t.toNat : Int), .int .i64 1, .int .u64 (am : Int), .int .i64 8, .int .u64 (id : Int), .int .i64 8]), (45, .int .i64 3), (48, .agg #[.int .u64 (id : Int), .int .i64 8])] (by kernel_rfl) rfl ?_
                obtain ⟨w159, r160, H161⟩ := H158.stA (P := Try.prog) (o := 0) (vs := [.int .u64 (id : Int), .int .i64 8]) (ty := 55) (m := 2) 3 rfl (by kernel_rfl) rfl (by simp) (by simp [Value.oneCell'])
                have H161 : Hp w [] [.blk p27 [.slice A_2 m_2 c_2] 53, .row A_2 m_2 c_2 5 1 (by8 b_2), .blk p3 [.int .u8 (o.toNat : Int), .int .u8 (wh.toNat : Int), .int .u8 (t.toNat : Int), .int .u64 (am : Int), .int .u64 (id : Int), .int .u8 ((ad 0).toNat : Int), .int .u8 ((ad 1).toNat : Int), .int .u8 ((ad 2).toNat : Int), .int .u8 ((ad 3).toNat : Int), .int .u8 ((ad 4).toNat : Int), .int .u8 ((ad 5).toNat : Int), .int .u8 ((ad 6).toNat : Int), .int .u8 ((ad 7).toNat : Int), .int .u8 ((ad 8).toNat : Int), .int .u8 ((ad 9).toNat : Int), .int .u8 ((ad 10).toNat : Int), .int .u8 ((ad 11).toNat : Int), .int .u8 ((ad 12).toNat : Int), .int .u8 ((ad 13).toNat : Int), .int .u8 ((ad 14).toNat : Int), .int .u8 ((ad 15).toNat : Int), .int .u8 ((ad 16).toNat : Int), .int .u8 ((ad 17).toNat : Int), .int .u8 ((ad 18).toNat : Int), .int .u8 ((ad 19).toNat : Int), .bool ag, .slice Bd bd.length bc] 28, .blk p155 [.int .u64 (id : Int), .int .i64 8] 55] w159 := H161
                refine GL.semU (j := 5) r160 [1, 4, 5, 6, 7, 44, 45] [(1, pt p3 0), (4, .int .i64 (((fm o.toNat) : Nat) : Int)), (5, pt p27 0), (6, .int .i64 3), (7, pt p155 0), (44, .agg #[.int .u64 (wh.toNat : Int), .int .i64 1, .int .u64 (t.toNat : Int), .int .i64 1, .int .u64 (am : Int), .int .i64 8, .int .u64 (id : Int), .int .i64 8]), (45, .int .i64 3)] (by kernel_rfl) rfl rfl rfl ?_
                refine GL.k rfl hK154 (fun _ _ h => h) ?_
                refine G.seqK fun K162 hK163 => ?_
                refine G.region ?_
                refine GL.run (j := 5) 5 [1, 4, 5, 7, 44, 45, 53] [(1, pt p3 0), (4, .int .i64 (((fm o.toNat) : Nat) : Int)), (5, pt p27 0), (7, pt p155 0), (44, .agg #[.int .u64 (wh.toNat : Int), .int .i64 1, .int .u64 (t.toNat : Int), .int .i64 1, .int .u64 (am : Int), .int .i64 8, .int .u64 (id : Int), .int .i64 8]), (45, .int .i64 3), (53, .bool ((Go.bits .and .i64 (Int.fdiv (((fm o.toNat) : Nat) : Int) (2 ^ 3)) 1) == 1))] (by kernel_rfl) rfl ?_
                have e164 : (Int.fdiv (((fm o.toNat) : Nat) : Int) (2 ^ 3)) = ((fm o.toNat / 2 ^ 3 : Nat) : Int) := n_shr _ 3
                have e165 : (Go.bits .and .i64 ((fm o.toNat / 2 ^ 3 : Nat) : Int) 1) = (((fm o.toNat / 2 ^ 3) % 2 : Nat) : Int) := i_and1 (Nat.lt_of_le_of_lt (Nat.div_le_self _ _) (fm_lt _))
                refine GL.eq (M' := [(1, pt p3 0), (4, .int .i64 (((fm o.toNat) : Nat) : Int)), (5, pt p27 0), (7, pt p155 0), (44, .agg #[.int .u64 (wh.toNat : Int), .int .i64 1, .int .u64 (t.toNat : Int), .int .i64 1, .int .u64 (am : Int), .int .i64 8, .int .u64 (id : Int), .int .i64 8]), (45, .int .i64 3), (53, .bool ((((fm o.toNat / 2 ^ 3) % 2 : Nat) : Int) == 1))]) (by rw [e164, e165]) ?_
                clear e164 e165
                refine GL.k rfl hK163 (fun _ _ h => h) ?_
                cases hb166 : ((((fm o.toNat / 2 ^ 3) % 2 : Nat) : Int) == 1)
                · skip
                  have hb166f := ne_of_beq_false hb166
                  refine G.no rfl ?_
                  refine G.skipK hK152 (fun _ _ h => h) ?_
                  have H167 : Hp w [] [.blk p27 [.slice A_2 m_2 c_2] 53, .row A_2 m_2 c_2 5 1 (by8 b_2), .blk p3 [.int .u8 (o.toNat : Int), .int .u8 (wh.toNat : Int), .int .u8 (t.toNat : Int), .int .u64 (am : Int), .int .u64 (id : Int), .int .u8 ((ad 0).toNat : Int), .int .u8 ((ad 1).toNat : Int), .int .u8 ((ad 2).toNat : Int), .int .u8 ((ad 3).toNat : Int), .int .u8 ((ad 4).toNat : Int), .int .u8 ((ad 5).toNat : Int), .int .u8 ((ad 6).toNat : Int), .int .u8 ((ad 7).toNat : Int), .int .u8 ((ad 8).toNat : Int), .int .u8 ((ad 9).toNat : Int), .int .u8 ((ad 10).toNat : Int), .int .u8 ((ad 11).toNat : Int), .int .u8 ((ad 12).toNat : Int), .int .u8 ((ad 13).toNat : Int), .int .u8 ((ad 14).toNat : Int), .int .u8 ((ad 15).toNat : Int), .int .u8 ((ad 16).toNat : Int), .int .u8 ((ad 17).toNat : Int), .int .u8 ((ad 18).toNat : Int), .int .u8 ((ad 19).toNat : Int), .bool ag, .slice Bd bd.length bc] 28] w159 := H161.sub (List.Sublist.cons_cons _ (List.Sublist.cons_cons _ (List.Sublist.cons_cons _ (List.Sublist.cons _ (List.Sublist.slnil)))))
                  refine G.fit [1, 4, 5, 44, 45] (M' := [(1, pt p3 0), (4, .int .i64 (((fm o.toNat) : Nat) : Int)), (5, pt p27 0), (44, .agg #[.int .u64 (wh.toNat : Int), .int .i64 1, .int .u64 (t.toNat : Int), .int .i64 1, .int .u64 (am : Int), .int .i64 8, .int .u64 (id : Int), .int .i64 8]), (45, .int .i64 3)]) (by kernel_rfl) ?_
                  exact J150 ⟨A_2, c_2, m_2, b_2⟩ _ ⟨⟨by rw [fld, if_neg (by omega), List.append_nil], by omega⟩, H167⟩
                · skip
                  have hb166f := eq_of_beq hb166
                  refine G.yes rfl ?_
                  refine G.region ?_
                  refine GL.run (j := 1) 1 [1, 4, 5, 7, 44, 45, 54] [(1, pt p3 0), (4, .int .i64 (((fm o.toNat) : Nat) : Int)), (5, pt p27 0), (7, pt p155 0), (44, .agg #[.int .u64 (wh.toNat : Int), .int .i64 1, .int .u64 (t.toNat : Int), .int .i64 1, .int .u64 (am : Int), .int .i64 8, .int .u64 (id : Int), .int .i64 8]), (45, .int .i64 3), (54, pt p155 0)] (by kernel_rfl) rfl ?_
                  refine GL.sem (j := 2) (H161.ld (o := 0) (ty := 23) (v := .int .u64 (id : Int)) 3 rfl (by kernel_rfl) rfl) [1, 4, 5, 7, 44, 45, 55] [(1, pt p3 0), (4, .int .i64 (((fm o.toNat) : Nat) : Int)), (5, pt p27 0), (7, pt p155 0), (44, .agg #[.int .u64 (wh.toNat : Int), .int .i64 1, .int .u64 (t.toNat : Int), .int .i64 1, .int .u64 (am : Int), .int .i64 8, .int .u64 (id : Int), .int .i64 8]), (45, .int .i64 3), (55, .int .u64 (id : Int))] (by kernel_rfl) (by kernel_rfl) rfl ?_
                  refine GL.run (j := 3) 1 [1, 4, 5, 44, 45, 55, 56] [(1, pt p3 0), (4, .int .i64 (((fm o.toNat) : Nat) : Int)), (5, pt p27 0), (44, .agg #[.int .u64 (wh.toNat : Int), .int .i64 1, .int .u64 (t.toNat : Int), .int .i64 1, .int .u64 (am : Int), .int .i64 8, .int .u64 (id : Int), .int .i64 8]), (45, .int .i64 3), (55, .int .u64 (id : Int)), (56, pt p155 1)] (by kernel_rfl) rfl ?_
                  refine GL.sem (j := 4) (H161.ld (o := 1) (ty := 3) (v := .int .i64 8) 3 rfl (by kernel_rfl) rfl) [1, 4, 5, 44, 45, 55, 57] [(1, pt p3 0), (4, .int .i64 (((fm o.toNat) : Nat) : Int)), (5, pt p27 0), (44, .agg #[.int .u64 (wh.toNat : Int), .int .i64 1, .int .u64 (t.toNat : Int), .int .i64 1, .int .u64 (am : Int), .int .i64 8, .int .u64 (id : Int), .int .i64 8]), (45, .int .i64 3), (55, .int .u64 (id : Int)), (57, .int .i64 8)] (by kernel_rfl) (by kernel_rfl) rfl ?_
                  refine GL.call (j := 5) (Put8_calls (ids [.blk p27 [.slice A_2 m_2 c_2] 53, .row A_2 m_2 c_2 5 1 (by8 b_2)]) p27 A_2 m_2 c_2 b_2 id w159 (Hp.startL (A := [.blk p27 [.slice A_2 m_2 c_2] 53, .row A_2 m_2 c_2 5 1 (by8 b_2)]) (B := [.blk p3 [.int .u8 (o.toNat : Int), .int .u8 (wh.toNat : Int), .int .u8 (t.toNat : Int), .int .u64 (am : Int), .int .u64 (id : Int), .int .u8 ((ad 0).toNat : Int), .int .u8 ((ad 1).toNat : Int), .int .u8 ((ad 2).toNat : Int), .int .u8 ((ad 3).toNat : Int), .int .u8 ((ad 4).toNat : Int), .int .u8 ((ad 5).toNat : Int), .int .u8 ((ad 6).toNat : Int), .int .u8 ((ad 7).toNat : Int), .int .u8 ((ad 8).toNat : Int), .int .u8 ((ad 9).toNat : Int), .int .u8 ((ad 10).toNat : Int), .int .u8 ((ad 11).toNat : Int), .int .u8 ((ad 12).toNat : Int), .int .u8 ((ad 13).toNat : Int), .int .u8 ((ad 14).toNat : Int), .int .u8 ((ad 15).toNat : Int), .int .u8 ((ad 16).toNat : Int), .int .u8 ((ad 17).toNat : Int), .int .u8 ((ad 18).toNat : Int), .int .u8 ((ad 19).toNat : Int), .bool ag, .slice Bd bd.length bc] 28, .blk p155 [.int .u64 (id : Int), .int .i64 8] 55]) H161) (by omega)) (by kernel_rfl) rfl (fun e_ w171 hR => ?_)
                  obtain ⟨A169, c170, rfl, H173⟩ := hR
                  have H172 : Hp w [] [.blk p27 [.slice A169 (m_2 + 8) c170] 53, .row A169 (m_2 + 8) c170 5 1 (by8 (b_2 ++ (putB id 8))), .blk p3 [.int .u8 (o.toNat : Int), .int .u8 (wh.toNat : Int), .int .u8 (t.toNat : Int), .int .u64 (am : Int), .int .u64 (id : Int), .int .u8 ((ad 0).toNat : Int), .int .u8 ((ad 1).toNat : Int), .int .u8 ((ad 2).toNat : Int), .int .u8 ((ad 3).toNat : Int), .int .u8 ((ad 4).toNat : Int), .int .u8 ((ad 5).toNat : Int), .int .u8 ((ad 6).toNat : Int), .int .u8 ((ad 7).toNat : Int), .int .u8 ((ad 8).toNat : Int), .int .u8 ((ad 9).toNat : Int), .int .u8 ((ad 10).toNat : Int), .int .u8 ((ad 11).toNat : Int), .int .u8 ((ad 12).toNat : Int), .int .u8 ((ad 13).toNat : Int), .int .u8 ((ad 14).toNat : Int), .int .u8 ((ad 15).toNat : Int), .int .u8 ((ad 16).toNat : Int), .int .u8 ((ad 17).toNat : Int), .int .u8 ((ad 18).toNat : Int), .int .u8 ((ad 19).toNat : Int), .bool ag, .slice Bd bd.length bc] 28, .blk p155 [.int .u64 (id : Int), .int .i64 8] 55] w171 := Hp.callL (A := [.blk p27 [.slice A_2 m_2 c_2] 53, .row A_2 m_2 c_2 5 1 (by8 b_2)]) (B := [.blk p3 [.int .u8 (o.toNat : Int), .int .u8 (wh.toNat : Int), .int .u8 (t.toNat : Int), .int .u64 (am : Int), .int .u64 (id : Int), .int .u8 ((ad 0).toNat : Int), .int .u8 ((ad 1).toNat : Int), .int .u8 ((ad 2).toNat : Int), .int .u8 ((ad 3).toNat : Int), .int .u8 ((ad 4).toNat : Int), .int .u8 ((ad 5).toNat : Int), .int .u8 ((ad 6).toNat : Int), .int .u8 ((ad 7).toNat : Int), .int .u8 ((ad 8).toNat : Int), .int .u8 ((ad 9).toNat : Int), .int .u8 ((ad 10).toNat : Int), .int .u8 ((ad 11).toNat : Int), .int .u8 ((ad 12).toNat : Int), .int .u8 ((ad 13).toNat : Int), .int .u8 ((ad 14).toNat : Int), .int .u8 ((ad 15).toNat : Int), .int .u8 ((ad 16).toNat : Int), .int .u8 ((ad 17).toNat : Int), .int .u8 ((ad 18).toNat : Int), .int .u8 ((ad 19).toNat : Int), .bool ag, .slice Bd bd.length bc] 28, .blk p155 [.int .u64 (id : Int), .int .i64 8] 55]) H161 H173
                  refine ⟨_, rfl, [1, 4, 5, 44, 45], [(1, pt p3 0), (4, .int .i64 (((fm o.toNat) : Nat) : Int)), (5, pt p27 0), (44, .agg #[.int .u64 (wh.toNat : Int), .int .i64 1, .int .u64 (t.toNat : Int), .int .i64 1, .int .u64 (am : Int), .int .i64 8, .int .u64 (id : Int), .int .i64 8]), (45, .int .i64 3)], by kernel_rfl, ?_⟩
                  refine GL.k rfl hK152 (fun _ _ h => h) ?_
                  have H174 : Hp w [] [.blk p27 [.slice A169 (m_2 + 8) c170] 53, .row A169 (m_2 + 8) c170 5 1 (by8 (b_2 ++ (putB id 8))), .blk p3 [.int .u8 (o.toNat : Int), .int .u8 (wh.toNat : Int), .int .u8 (t.toNat : Int), .int .u64 (am : Int), .int .u64 (id : Int), .int .u8 ((ad 0).toNat : Int), .int .u8 ((ad 1).toNat : Int), .int .u8 ((ad 2).toNat : Int), .int .u8 ((ad 3).toNat : Int), .int .u8 ((ad 4).toNat : Int), .int .u8 ((ad 5).toNat : Int), .int .u8 ((ad 6).toNat : Int), .int .u8 ((ad 7).toNat : Int), .int .u8 ((ad 8).toNat : Int), .int .u8 ((ad 9).toNat : Int), .int .u8 ((ad 10).toNat : Int), .int .u8 ((ad 11).toNat : Int), .int .u8 ((ad 12).toNat : Int), .int .u8 ((ad 13).toNat : Int), .int .u8 ((ad 14).toNat : Int), .int .u8 ((ad 15).toNat : Int), .int .u8 ((ad 16).toNat : Int), .int .u8 ((ad 17).toNat : Int), .int .u8 ((ad 18).toNat : Int), .int .u8 ((ad 19).toNat : Int), .bool ag, .slice Bd bd.length bc] 28] w171 := H172.sub (List.Sublist.cons_cons _ (List.Sublist.cons_cons _ (List.Sublist.cons_cons _ (List.Sublist.cons _ (List.Sublist.slnil)))))
                  refine G.fit [1, 4, 5, 44, 45] (M' := [(1, pt p3 0), (4, .int .i64 (((fm o.toNat) : Nat) : Int)), (5, pt p27 0), (44, .agg #[.int .u64 (wh.toNat : Int), .int .i64 1, .int .u64 (t.toNat : Int), .int .i64 1, .int .u64 (am : Int), .int .i64 8, .int .u64 (id : Int), .int .i64 8]), (45, .int .i64 3)]) (by kernel_rfl) ?_
                  exact J150 ⟨A169, c170, (m_2 + 8), (b_2 ++ (putB id 8))⟩ _ ⟨⟨by rw [fld, if_pos (by omega)], by omega⟩, H174⟩
              · skip
                rintro ⟨A_3, c_3, m_3, b_3⟩ w176 ⟨hi177, H178⟩
                refine G.eq (M' := [(1, pt p3 0), (4, .int .i64 (((fm o.toNat) : Nat) : Int)), (5, pt p27 0), (44, .agg #[.int .u64 (wh.toNat : Int), .int .i64 1, .int .u64 (t.toNat : Int), .int .i64 1, .int .u64 (am : Int), .int .i64 8, .int .u64 (id : Int), .int .i64 8]), (45, .int .i64 3)]) rfl ?_
                have H178 : Hp w [] [.blk p27 [.slice A_3 m_3 c_3] 53, .row A_3 m_3 c_3 5 1 (by8 b_3), .blk p3 [.int .u8 (o.toNat : Int), .int .u8 (wh.toNat : Int), .int .u8 (t.toNat : Int), .int .u64 (am : Int), .int .u64 (id : Int), .int .u8 ((ad 0).toNat : Int), .int .u8 ((ad 1).toNat : Int), .int .u8 ((ad 2).toNat : Int), .int .u8 ((ad 3).toNat : Int), .int .u8 ((ad 4).toNat : Int), .int .u8 ((ad 5).toNat : Int), .int .u8 ((ad 6).toNat : Int), .int .u8 ((ad 7).toNat : Int), .int .u8 ((ad 8).toNat : Int), .int .u8 ((ad 9).toNat : Int), .int .u8 ((ad 10).toNat : Int), .int .u8 ((ad 11).toNat : Int), .int .u8 ((ad 12).toNat : Int), .int .u8 ((ad 13).toNat : Int), .int .u8 ((ad 14).toNat : Int), .int .u8 ((ad 15).toNat : Int), .int .u8 ((ad 16).toNat : Int), .int .u8 ((ad 17).toNat : Int), .int .u8 ((ad 18).toNat : Int), .int .u8 ((ad 19).toNat : Int), .bool ag, .slice Bd bd.length bc] 28] w176 := H178
                obtain ⟨hb_3, hm_3⟩ := hi177
                refine G.region ?_
                refine GL.run (j := 2) 2 [1, 4, 5, 44, 45] [(1, pt p3 0), (4, .int .i64 (((fm o.toNat) : Nat) : Int)), (5, pt p27 0), (44, .agg #[.int .u64 (wh.toNat : Int), .int .i64 1, .int .u64 (t.toNat : Int), .int .i64 1, .int .u64 (am : Int), .int .i64 8, .int .u64 (id : Int), .int .i64 8]), (45, .int .i64 4)] (by kernel_rfl) rfl ?_
                refine GL.round rfl ?_
                refine G.seqK fun K179 hK180 => ?_
                refine G.region ?_
                refine GL.run (j := 1) 1 [1, 4, 5, 44, 45, 46] [(1, pt p3 0), (4, .int .i64 (((fm o.toNat) : Nat) : Int)), (5, pt p27 0), (44, .agg #[.int .u64 (wh.toNat : Int), .int .i64 1, .int .u64 (t.toNat : Int), .int .i64 1, .int .u64 (am : Int), .int .i64 8, .int .u64 (id : Int), .int .i64 8]), (45, .int .i64 4), (46, .bool false)] (by kernel_rfl) rfl ?_
                refine GL.k rfl hK180 (fun _ _ h => h) ?_
                refine G.seqK fun K181 hK182 => ?_
                refine G.no rfl ?_
                refine G.exitK hK42 (fun _ _ h => h) ?_
                refine G.seqJ (X := Option Addr × Nat × Nat × List UInt8) (fun ⟨A_4, c_4, m_4, b_4⟩ => [(1, pt p3 0), (4, .int .i64 (((fm o.toNat) : Nat) : Int)), (5, pt p27 0)]) (fun ⟨A_4, c_4, m_4, b_4⟩ w_ => (b_4 = b_3 ++ fld o.toNat 4 ((List.range 20).map ad) ∧ m_4 ≤ m_3 + 20) ∧ Hp w [] [.blk p27 [.slice A_4 m_4 c_4] 53, .row A_4 m_4 c_4 5 1 (by8 b_4), .blk p3 [.int .u8 (o.toNat : Int), .int .u8 (wh.toNat : Int), .int .u8 (t.toNat : Int), .int .u64 (am : Int), .int .u64 (id : Int), .int .u8 ((ad 0).toNat : Int), .int .u8 ((ad 1).toNat : Int), .int .u8 ((ad 2).toNat : Int), .int .u8 ((ad 3).toNat : Int), .int .u8 ((ad 4).toNat : Int), .int .u8 ((ad 5).toNat : Int), .int .u8 ((ad 6).toNat : Int), .int .u8 ((ad 7).toNat : Int), .int .u8 ((ad 8).toNat : Int), .int .u8 ((ad 9).toNat : Int), .int .u8 ((ad 10).toNat : Int), .int .u8 ((ad 11).toNat : Int), .int .u8 ((ad 12).toNat : Int), .int .u8 ((ad 13).toNat : Int), .int .u8 ((ad 14).toNat : Int), .int .u8 ((ad 15).toNat : Int), .int .u8 ((ad 16).toNat : Int), .int .u8 ((ad 17).toNat : Int), .int .u8 ((ad 18).toNat : Int), .int .u8 ((ad 19).toNat : Int), .bool ag, .slice Bd bd.length bc] 28] w_) (fun J183 K184 hK185 => ?_) ?_
                · skip
                  refine G.seqK fun K186 hK187 => ?_
                  refine G.region ?_
                  refine GL.run (j := 3) 3 [1, 4, 5, 62] [(1, pt p3 0), (4, .int .i64 (((fm o.toNat) : Nat) : Int)), (5, pt p27 0), (62, .bool ((Go.bits .and .i64 (((fm o.toNat) : Nat) : Int) 16) != 0))] (by kernel_rfl) rfl ?_
                  have e188 : (Go.bits .and .i64 (((fm o.toNat) : Nat) : Int) 16) = ((fm o.toNat / 2 ^ 4 % 2 * 2 ^ 4 : Nat) : Int) := i_andbit (k := 4) (by decide) (fm_lt _)
                  refine GL.eq (M' := [(1, pt p3 0), (4, .int .i64 (((fm o.toNat) : Nat) : Int)), (5, pt p27 0), (62, .bool (((fm o.toNat / 2 ^ 4 % 2 * 2 ^ 4 : Nat) : Int) != 0))]) (by rw [e188]) ?_
                  clear e188
                  refine GL.k rfl hK187 (fun _ _ h => h) ?_
                  cases hb189 : (((fm o.toNat / 2 ^ 4 % 2 * 2 ^ 4 : Nat) : Int) != 0)
                  · skip
                    have hb189f : ((fm o.toNat / 2 ^ 4 % 2 * 2 ^ 4 : Nat) : Int) = 0 := bne_eq_false_iff_eq.1 hb189
                    refine G.no rfl ?_
                    refine G.skipK hK185 (fun _ _ h => h) ?_
                    refine G.fit [1, 4, 5] (M' := [(1, pt p3 0), (4, .int .i64 (((fm o.toNat) : Nat) : Int)), (5, pt p27 0)]) (by kernel_rfl) ?_
                    exact J183 ⟨A_3, c_3, m_3, b_3⟩ _ ⟨⟨by rw [fld, if_neg (by omega), List.append_nil], by omega⟩, H178⟩
                  · skip
                    have hb189f : ((fm o.toNat / 2 ^ 4 % 2 * 2 ^ 4 : Nat) : Int) ≠ 0 := bne_iff_ne.1 hb189
                    refine G.yes rfl ?_
                    refine G.region ?_
                    refine GL.run (j := 2) 2 [1, 4, 5, 64] [(1, pt p3 0), (4, .int .i64 (((fm o.toNat) : Nat) : Int)), (5, pt p27 0), (64, .slice (some ⟨p3, 5, none⟩) 20 20)] (by kernel_rfl) rfl ?_
                    refine GL.call (j := 3) (WRaw_calls (ids [.blk p27 [.slice A_3 m_3 c_3] 53, .row A_3 m_3 c_3 5 1 (by8 b_3)]) p27 A_3 m_3 c_3 b_3 (some ⟨p3, 5, none⟩) 20 20 ([(ad 0), (ad 1), (ad 2), (ad 3), (ad 4), (ad 5), (ad 6), (ad 7), (ad 8), (ad 9), (ad 10), (ad 11), (ad 12), (ad 13), (ad 14), (ad 15), (ad 16), (ad 17), (ad 18), (ad 19)] : List UInt8) w176 (Hp.startL (A := [.blk p27 [.slice A_3 m_3 c_3] 53, .row A_3 m_3 c_3 5 1 (by8 b_3)]) (B := [.blk p3 [.int .u8 (o.toNat : Int), .int .u8 (wh.toNat : Int), .int .u8 (t.toNat : Int), .int .u64 (am : Int), .int .u64 (id : Int), .int .u8 ((ad 0).toNat : Int), .int .u8 ((ad 1).toNat : Int), .int .u8 ((ad 2).toNat : Int), .int .u8 ((ad 3).toNat : Int), .int .u8 ((ad 4).toNat : Int), .int .u8 ((ad 5).toNat : Int), .int .u8 ((ad 6).toNat : Int), .int .u8 ((ad 7).toNat : Int), .int .u8 ((ad 8).toNat : Int), .int .u8 ((ad 9).toNat : Int), .int .u8 ((ad 10).toNat : Int), .int .u8 ((ad 11).toNat : Int), .int .u8 ((ad 12).toNat : Int), .int .u8 ((ad 13).toNat : Int), .int .u8 ((ad 14).toNat : Int), .int .u8 ((ad 15).toNat : Int), .int .u8 ((ad 16).toNat : Int), .int .u8 ((ad 17).toNat : Int), .int .u8 ((ad 18).toNat : Int), .int .u8 ((ad 19).toNat : Int), .bool ag, .slice Bd bd.length bc] 28]) H178) (by omega) (RdO.blk (A' := [.blk p27 [.slice A_3 m_3 c_3] 53, .row A_3 m_3 c_3 5 1 (by8 b_3)]) (B' := [.blk p3 [.int .u8 (o.toNat : Int), .int .u8 (wh.toNat : Int), .int .u8 (t.toNat : Int), .int .u64 (am : Int), .int .u64 (id : Int), .int .u8 ((ad 0).toNat : Int), .int .u8 ((ad 1).toNat : Int), .int .u8 ((ad 2).toNat : Int), .int .u8 ((ad 3).toNat : Int), .int .u8 ((ad 4).toNat : Int), .int .u8 ((ad 5).toNat : Int), .int .u8 ((ad 6).toNat : Int), .int .u8 ((ad 7).toNat : Int), .int .u8 ((ad 8).toNat : Int), .int .u8 ((ad 9).toNat : Int), .int .u8 ((ad 10).toNat : Int), .int .u8 ((ad 11).toNat : Int), .int .u8 ((ad 12).toNat : Int), .int .u8 ((ad 13).toNat : Int), .int .u8 ((ad 14).toNat : Int), .int .u8 ((ad 15).toNat : Int), .int .u8 ((ad 16).toNat : Int), .int .u8 ((ad 17).toNat : Int), .int .u8 ((ad 18).toNat : Int), .int .u8 ((ad 19).toNat : Int), .bool ag, .slice Bd bd.length bc] 28]) H178 0 20 rfl rfl) (by first | rfl | omega | (simp only [List.length_cons, List.length_nil, List.length_drop, List.length_take, List.length_append] <;> omega)) (by omega)) (by kernel_rfl) rfl (fun e_ w193 hR => ?_)
                    obtain ⟨A191, c192, rfl, H195⟩ := hR
                    have H194 : Hp w [] [.blk p27 [.slice A191 (m_3 + 20) c192] 53, .row A191 (m_3 + 20) c192 5 1 (by8 (b_3 ++ ([(ad 0), (ad 1), (ad 2), (ad 3), (ad 4), (ad 5), (ad 6), (ad 7), (ad 8), (ad 9), (ad 10), (ad 11), (ad 12), (ad 13), (ad 14), (ad 15), (ad 16), (ad 17), (ad 18), (ad 19)] : List UInt8))), .blk p3 [.int .u8 (o.toNat : Int), .int .u8 (wh.toNat : Int), .int .u8 (t.toNat : Int), .int .u64 (am : Int), .int .u64 (id : Int), .int .u8 ((ad 0).toNat : Int), .int .u8 ((ad 1).toNat : Int), .int .u8 ((ad 2).toNat : Int), .int .u8 ((ad 3).toNat : Int), .int .u8 ((ad 4).toNat : Int), .int .u8 ((ad 5).toNat : Int), .int .u8 ((ad 6).toNat : Int), .int .u8 ((ad 7).toNat : Int), .int .u8 ((ad 8).toNat : Int), .int .u8 ((ad 9).toNat : Int), .int .u8 ((ad 10).toNat : Int), .int .u8 ((ad 11).toNat : Int), .int .u8 ((ad 12).toNat : Int), .int .u8 ((ad 13).toNat : Int), .int .u8 ((ad 14).toNat : Int), .int .u8 ((ad 15).toNat : Int), .int .u8 ((ad 16).toNat : Int), .int .u8 ((ad 17).toNat : Int), .int .u8 ((ad 18).toNat : Int), .int .u8 ((ad 19).toNat : Int), .bool ag, .slice Bd bd.length bc] 28] w193 := Hp.callL (A := [.blk p27 [.slice A_3 m_3 c_3] 53, .row A_3 m_3 c_3 5 1 (by8 b_3)]) (B := [.blk p3 [.int .u8 (o.toNat : Int), .int .u8 (wh.toNat : Int), .int .u8 (t.toNat : Int), .int .u64 (am : Int), .int .u64 (id : Int), .int .u8 ((ad 0).toNat : Int), .int .u8 ((ad 1).toNat : Int), .int .u8 ((ad 2).toNat : Int), .int .u8 ((ad 3).toNat : Int), .int .u8 ((ad 4).toNat : Int), .int .u8 ((ad 5).toNat : Int), .int .u8 ((ad 6).toNat : Int), .int .u8 ((ad 7).toNat : Int), .int .u8 ((ad 8).toNat : Int), .int .u8 ((ad 9).toNat : Int), .int .u8 ((ad 10).toNat : Int), .int .u8 ((ad 11).toNat : Int), .int .u8 ((ad 12).toNat : Int), .int .u8 ((ad 13).toNat : Int), .int .u8 ((ad 14).toNat : Int), .int .u8 ((ad 15).toNat : Int), .int .u8 ((ad 16).toNat : Int), .int .u8 ((ad 17).toNat : Int), .int .u8 ((ad 18).toNat : Int), .int .u8 ((ad 19).toNat : Int), .bool ag, .slice Bd bd.length bc] 28]) H178 H195
                    refine ⟨_, rfl, [1, 4, 5], [(1, pt p3 0), (4, .int .i64 (((fm o.toNat) : Nat) : Int)), (5, pt p27 0)], by kernel_rfl, ?_⟩
                    refine GL.k rfl hK185 (fun _ _ h => h) ?_
                    refine G.fit [1, 4, 5] (M' := [(1, pt p3 0), (4, .int .i64 (((fm o.toNat) : Nat) : Int)), (5, pt p27 0)]) (by kernel_rfl) ?_
                    exact J183 ⟨A191, c192, (m_3 + 20), (b_3 ++ ([(ad 0), (ad 1), (ad 2), (ad 3), (ad 4), (ad 5), (ad 6), (ad 7), (ad 8), (ad 9), (ad 10), (ad 11), (ad 12), (ad 13), (ad 14), (ad 15), (ad 16), (ad 17), (ad 18), (ad 19)] : List UInt8))⟩ _ ⟨⟨by rw [fld, if_pos (by omega)]; rfl, by omega⟩, H194⟩
                · skip
                  rintro ⟨A_4, c_4, m_4, b_4⟩ w197 ⟨hi198, H199⟩
                  refine G.eq (M' := [(1, pt p3 0), (4, .int .i64 (((fm o.toNat) : Nat) : Int)), (5, pt p27 0)]) rfl ?_
                  have H199 : Hp w [] [.blk p27 [.slice A_4 m_4 c_4] 53, .row A_4 m_4 c_4 5 1 (by8 b_4), .blk p3 [.int .u8 (o.toNat : Int), .int .u8 (wh.toNat : Int), .int .u8 (t.toNat : Int), .int .u64 (am : Int), .int .u64 (id : Int), .int .u8 ((ad 0).toNat : Int), .int .u8 ((ad 1).toNat : Int), .int .u8 ((ad 2).toNat : Int), .int .u8 ((ad 3).toNat : Int), .int .u8 ((ad 4).toNat : Int), .int .u8 ((ad 5).toNat : Int), .int .u8 ((ad 6).toNat : Int), .int .u8 ((ad 7).toNat : Int), .int .u8 ((ad 8).toNat : Int), .int .u8 ((ad 9).toNat : Int), .int .u8 ((ad 10).toNat : Int), .int .u8 ((ad 11).toNat : Int), .int .u8 ((ad 12).toNat : Int), .int .u8 ((ad 13).toNat : Int), .int .u8 ((ad 14).toNat : Int), .int .u8 ((ad 15).toNat : Int), .int .u8 ((ad 16).toNat : Int), .int .u8 ((ad 17).toNat : Int), .int .u8 ((ad 18).toNat : Int), .int .u8 ((ad 19).toNat : Int), .bool ag, .slice Bd bd.length bc] 28] w197 := H199
                  obtain ⟨hb_4, hm_4⟩ := hi198
                  refine G.seqJ (X := Option Addr × Nat × Nat × List UInt8) (fun ⟨A_5, c_5, m_5, b_5⟩ => [(1, pt p3 0), (4, .int .i64 (((fm o.toNat) : Nat) : Int)), (5, pt p27 0)]) (fun ⟨A_5, c_5, m_5, b_5⟩ w_ => (b_5 = b_4 ++ fld o.toNat 5 (putB (if ag = true then 1 else 0) 1) ∧ m_5 ≤ m_4 + 1) ∧ Hp w [] [.blk p27 [.slice A_5 m_5 c_5] 53, .row A_5 m_5 c_5 5 1 (by8 b_5), .blk p3 [.int .u8 (o.toNat : Int), .int .u8 (wh.toNat : Int), .int .u8 (t.toNat : Int), .int .u64 (am : Int), .int .u64 (id : Int), .int .u8 ((ad 0).toNat : Int), .int .u8 ((ad 1).toNat : Int), .int .u8 ((ad 2).toNat : Int), .int .u8 ((ad 3).toNat : Int), .int .u8 ((ad 4).toNat : Int), .int .u8 ((ad 5).toNat : Int), .int .u8 ((ad 6).toNat : Int), .int .u8 ((ad 7).toNat : Int), .int .u8 ((ad 8).toNat : Int), .int .u8 ((ad 9).toNat : Int), .int .u8 ((ad 10).toNat : Int), .int .u8 ((ad 11).toNat : Int), .int .u8 ((ad 12).toNat : Int), .int .u8 ((ad 13).toNat : Int), .int .u8 ((ad 14).toNat : Int), .int .u8 ((ad 15).toNat : Int), .int .u8 ((ad 16).toNat : Int), .int .u8 ((ad 17).toNat : Int), .int .u8 ((ad 18).toNat : Int), .int .u8 ((ad 19).toNat : Int), .bool ag, .slice Bd bd.length bc] 28] w_) (fun J200 K201 hK202 => ?_) ?_
                  · skip
                    refine G.seqK fun K203 hK204 => ?_
                    refine G.region ?_
                    refine GL.run (j := 3) 3 [1, 4, 5, 68] [(1, pt p3 0), (4, .int .i64 (((fm o.toNat) : Nat) : Int)), (5, pt p27 0), (68, .bool ((Go.bits .and .i64 (((fm o.toNat) : Nat) : Int) 32) != 0))] (by kernel_rfl) rfl ?_
                    have e205 : (Go.bits .and .i64 (((fm o.toNat) : Nat) : Int) 32) = ((fm o.toNat / 2 ^ 5 % 2 * 2 ^ 5 : Nat) : Int) := i_andbit (k := 5) (by decide) (fm_lt _)
                    refine GL.eq (M' := [(1, pt p3 0), (4, .int .i64 (((fm o.toNat) : Nat) : Int)), (5, pt p27 0), (68, .bool (((fm o.toNat / 2 ^ 5 % 2 * 2 ^ 5 : Nat) : Int) != 0))]) (by rw [e205]) ?_
                    clear e205
                    refine GL.k rfl hK204 (fun _ _ h => h) ?_
                    cases hb206 : (((fm o.toNat / 2 ^ 5 % 2 * 2 ^ 5 : Nat) : Int) != 0)
                    · skip
                      have hb206f : ((fm o.toNat / 2 ^ 5 % 2 * 2 ^ 5 : Nat) : Int) = 0 := bne_eq_false_iff_eq.1 hb206
                      refine G.no rfl ?_
                      refine G.skipK hK202 (fun _ _ h => h) ?_
                      refine G.fit [1, 4, 5] (M' := [(1, pt p3 0), (4, .int .i64 (((fm o.toNat) : Nat) : Int)), (5, pt p27 0)]) (by kernel_rfl) ?_
                      exact J200 ⟨A_4, c_4, m_4, b_4⟩ _ ⟨⟨by rw [fld, if_neg (by omega), List.append_nil], by omega⟩, H199⟩
                    · skip
                      have hb206f : ((fm o.toNat / 2 ^ 5 % 2 * 2 ^ 5 : Nat) : Int) ≠ 0 := bne_iff_ne.1 hb206
                      refine G.yes rfl ?_
                      refine G.seqK fun K208 hK209 => ?_
                      refine G.region ?_
                      refine GL.run (j := 1) 1 [1, 4, 5, 69] [(1, pt p3 0), (4, .int .i64 (((fm o.toNat) : Nat) : Int)), (5, pt p27 0), (69, pt p3 25)] (by kernel_rfl) rfl ?_
                      refine GL.sem (j := 2) (H199.ld (o := 25) (ty := 4) (v := .bool ag) 2 rfl (by kernel_rfl) rfl) [1, 4, 5, 70] [(1, pt p3 0), (4, .int .i64 (((fm o.toNat) : Nat) : Int)), (5, pt p27 0), (70, .bool ag)] (by kernel_rfl) (by kernel_rfl) rfl ?_
                      refine GL.k rfl hK209 (fun _ _ h => h) ?_
                      rcases (Bool.eq_false_or_eq_true ag).symm with hb210 | hb210
                      · skip
                        refine G.eq (M' := [(1, pt p3 0), (4, .int .i64 (((fm o.toNat) : Nat) : Int)), (5, pt p27 0), (70, .bool false)]) (by first | (rw [hb210]; done) | (rw [hb210]; rfl)) ?_
                        refine G.no rfl ?_
                        refine G.region ?_
                        refine GL.call (j := 1) (Put1_calls (ids [.blk p27 [.slice A_4 m_4 c_4] 53, .row A_4 m_4 c_4 5 1 (by8 b_4)]) p27 A_4 m_4 c_4 b_4 0 w197 (Hp.startL (A := [.blk p27 [.slice A_4 m_4 c_4] 53, .row A_4 m_4 c_4 5 1 (by8 b_4)]) (B := [.blk p3 [.int .u8 (o.toNat : Int), .int .u8 (wh.toNat : Int), .int .u8 (t.toNat : Int), .int .u64 (am : Int), .int .u64 (id : Int), .int .u8 ((ad 0).toNat : Int), .int .u8 ((ad 1).toNat : Int), .int .u8 ((ad 2).toNat : Int), .int .u8 ((ad 3).toNat : Int), .int .u8 ((ad 4).toNat : Int), .int .u8 ((ad 5).toNat : Int), .int .u8 ((ad 6).toNat : Int), .int .u8 ((ad 7).toNat : Int), .int .u8 ((ad 8).toNat : Int), .int .u8 ((ad 9).toNat : Int), .int .u8 ((ad 10).toNat : Int), .int .u8 ((ad 11).toNat : Int), .int .u8 ((ad 12).toNat : Int), .int .u8 ((ad 13).toNat : Int), .int .u8 ((ad 14).toNat : Int), .int .u8 ((ad 15).toNat : Int), .int .u8 ((ad 16).toNat : Int), .int .u8 ((ad 17).toNat : Int), .int .u8 ((ad 18).toNat : Int), .int .u8 ((ad 19).toNat : Int), .bool ag, .slice Bd bd.length bc] 28]) H199) (by omega)) (by kernel_rfl) rfl (fun e_ w213 hR => ?_)
                        obtain ⟨A211, c212, rfl, H215⟩ := hR
                        have H214 : Hp w [] [.blk p27 [.slice A211 (m_4 + 1) c212] 53, .row A211 (m_4 + 1) c212 5 1 (by8 (b_4 ++ (putB 0 1))), .blk p3 [.int .u8 (o.toNat : Int), .int .u8 (wh.toNat : Int), .int .u8 (t.toNat : Int), .int .u64 (am : Int), .int .u64 (id : Int), .int .u8 ((ad 0).toNat : Int), .int .u8 ((ad 1).toNat : Int), .int .u8 ((ad 2).toNat : Int), .int .u8 ((ad 3).toNat : Int), .int .u8 ((ad 4).toNat : Int), .int .u8 ((ad 5).toNat : Int), .int .u8 ((ad 6).toNat : Int), .int .u8 ((ad 7).toNat : Int), .int .u8 ((ad 8).toNat : Int), .int .u8 ((ad 9).toNat : Int), .int .u8 ((ad 10).toNat : Int), .int .u8 ((ad 11).toNat : Int), .int .u8 ((ad 12).toNat : Int), .int .u8 ((ad 13).toNat : Int), .int .u8 ((ad 14).toNat : Int), .int .u8 ((ad 15).toNat : Int), .int .u8 ((ad 16).toNat : Int), .int .u8 ((ad 17).toNat : Int), .int .u8 ((ad 18).toNat : Int), .int .u8 ((ad 19).toNat : Int), .bool ag, .slice Bd bd.length bc] 28] w213 := Hp.callL (A := [.blk p27 [.slice A_4 m_4 c_4] 53, .row A_4 m_4 c_4 5 1 (by8 b_4)]) (B := [.blk p3 [.int .u8 (o.toNat : Int), .int .u8 (wh.toNat : Int), .int .u8 (t.toNat : Int), .int .u64 (am : Int), .int .u64 (id : Int), .int .u8 ((ad 0).toNat : Int), .int .u8 ((ad 1).toNat : Int), .int .u8 ((ad 2).toNat : Int), .int .u8 ((ad 3).toNat : Int), .int .u8 ((ad 4).toNat : Int), .int .u8 ((ad 5).toNat : Int), .int .u8 ((ad 6).toNat : Int), .int .u8 ((ad 7).toNat : Int), .int .u8 ((ad 8).toNat : Int), .int .u8 ((ad 9).toNat : Int), .int .u8 ((ad 10).toNat : Int), .int .u8 ((ad 11).toNat : Int), .int .u8 ((ad 12).toNat : Int), .int .u8 ((ad 13).toNat : Int), .int .u8 ((ad 14).toNat : Int), .int .u8 ((ad 15).toNat : Int), .int .u8 ((ad 16).toNat : Int), .int .u8 ((ad 17).toNat : Int), .int .u8 ((ad 18).toNat : Int), .int .u8 ((ad 19).toNat : Int), .bool ag, .slice Bd bd.length bc] 28]) H199 H215
                        refine ⟨_, rfl, [1, 4, 5], [(1, pt p3 0), (4, .int .i64 (((fm o.toNat) : Nat) : Int)), (5, pt p27 0)], by kernel_rfl, ?_⟩
                        refine GL.k rfl hK202 (fun _ _ h => h) ?_
                        have eag : (if ag = true then 1 else 0) = 0 := by rw [(by assumption : ag = false)]; rfl
                        refine G.fit [1, 4, 5] (M' := [(1, pt p3 0), (4, .int .i64 (((fm o.toNat) : Nat) : Int)), (5, pt p27 0)]) (by kernel_rfl) ?_
                        exact J200 ⟨A211, c212, (m_4 + 1), (b_4 ++ (putB 0 1))⟩ _ ⟨⟨by rw [fld, if_pos (by omega), eag], by omega⟩, H214⟩
                      · skip
                        refine G.eq (M' := [(1, pt p3 0), (4, .int .i64 (((fm o.toNat) : Nat) : Int)), (5, pt p27 0), (70, .bool true)]) (by first | (rw [hb210]; done) | (rw [hb210]; rfl)) ?_
                        refine G.yes rfl ?_
                        refine G.region ?_
                        refine GL.call (j := 1) (Put1_calls (ids [.blk p27 [.slice A_4 m_4 c_4] 53, .row A_4 m_4 c_4 5 1 (by8 b_4)]) p27 A_4 m_4 c_4 b_4 1 w197 (Hp.startL (A := [.blk p27 [.slice A_4 m_4 c_4] 53, .row A_4 m_4 c_4 5 1 (by8 b_4)]) (B := [.blk p3 [.int .u8 (o.toNat : Int), .int .u8 (wh.toNat : Int), .int .u8 (t.toNat : Int), .int .u64 (am : Int), .int .u64 (id : Int), .int .u8 ((ad 0).toNat : Int), .int .u8 ((ad 1).toNat : Int), .int .u8 ((ad 2).toNat : Int), .int .u8 ((ad 3).toNat : Int), .int .u8 ((ad 4).toNat : Int), .int .u8 ((ad 5).toNat : Int), .int .u8 ((ad 6).toNat : Int), .int .u8 ((ad 7).toNat : Int), .int .u8 ((ad 8).toNat : Int), .int .u8 ((ad 9).toNat : Int), .int .u8 ((ad 10).toNat : Int), .int .u8 ((ad 11).toNat : Int), .int .u8 ((ad 12).toNat : Int), .int .u8 ((ad 13).toNat : Int), .int .u8 ((ad 14).toNat : Int), .int .u8 ((ad 15).toNat : Int), .int .u8 ((ad 16).toNat : Int), .int .u8 ((ad 17).toNat : Int), .int .u8 ((ad 18).toNat : Int), .int .u8 ((ad 19).toNat : Int), .bool ag, .slice Bd bd.length bc] 28]) H199) (by omega)) (by kernel_rfl) rfl (fun e_ w219 hR => ?_)
                        obtain ⟨A217, c218, rfl, H221⟩ := hR
                        have H220 : Hp w [] [.blk p27 [.slice A217 (m_4 + 1) c218] 53, .row A217 (m_4 + 1) c218 5 1 (by8 (b_4 ++ (putB 1 1))), .blk p3 [.int .u8 (o.toNat : Int), .int .u8 (wh.toNat : Int), .int .u8 (t.toNat : Int), .int .u64 (am : Int), .int .u64 (id : Int), .int .u8 ((ad 0).toNat : Int), .int .u8 ((ad 1).toNat : Int), .int .u8 ((ad 2).toNat : Int), .int .u8 ((ad 3).toNat : Int), .int .u8 ((ad 4).toNat : Int), .int .u8 ((ad 5).toNat : Int), .int .u8 ((ad 6).toNat : Int), .int .u8 ((ad 7).toNat : Int), .int .u8 ((ad 8).toNat : Int), .int .u8 ((ad 9).toNat : Int), .int .u8 ((ad 10).toNat : Int), .int .u8 ((ad 11).toNat : Int), .int .u8 ((ad 12).toNat : Int), .int .u8 ((ad 13).toNat : Int), .int .u8 ((ad 14).toNat : Int), .int .u8 ((ad 15).toNat : Int), .int .u8 ((ad 16).toNat : Int), .int .u8 ((ad 17).toNat : Int), .int .u8 ((ad 18).toNat : Int), .int .u8 ((ad 19).toNat : Int), .bool ag, .slice Bd bd.length bc] 28] w219 := Hp.callL (A := [.blk p27 [.slice A_4 m_4 c_4] 53, .row A_4 m_4 c_4 5 1 (by8 b_4)]) (B := [.blk p3 [.int .u8 (o.toNat : Int), .int .u8 (wh.toNat : Int), .int .u8 (t.toNat : Int), .int .u64 (am : Int), .int .u64 (id : Int), .int .u8 ((ad 0).toNat : Int), .int .u8 ((ad 1).toNat : Int), .int .u8 ((ad 2).toNat : Int), .int .u8 ((ad 3).toNat : Int), .int .u8 ((ad 4).toNat : Int), .int .u8 ((ad 5).toNat : Int), .int .u8 ((ad 6).toNat : Int), .int .u8 ((ad 7).toNat : Int), .int .u8 ((ad 8).toNat : Int), .int .u8 ((ad 9).toNat : Int), .int .u8 ((ad 10).toNat : Int), .int .u8 ((ad 11).toNat : Int), .int .u8 ((ad 12).toNat : Int), .int .u8 ((ad 13).toNat : Int), .int .u8 ((ad 14).toNat : Int), .int .u8 ((ad 15).toNat : Int), .int .u8 ((ad 16).toNat : Int), .int .u8 ((ad 17).toNat : Int), .int .u8 ((ad 18).toNat : Int), .int .u8 ((ad 19).toNat : Int), .bool ag, .slice Bd bd.length bc] 28]) H199 H221
                        refine ⟨_, rfl, [1, 4, 5], [(1, pt p3 0), (4, .int .i64 (((fm o.toNat) : Nat) : Int)), (5, pt p27 0)], by kernel_rfl, ?_⟩
                        refine GL.k rfl hK202 (fun _ _ h => h) ?_
                        have eag : (if ag = true then 1 else 0) = 1 := by rw [(by assumption : ag = true)]; rfl
                        refine G.fit [1, 4, 5] (M' := [(1, pt p3 0), (4, .int .i64 (((fm o.toNat) : Nat) : Int)), (5, pt p27 0)]) (by kernel_rfl) ?_
                        exact J200 ⟨A217, c218, (m_4 + 1), (b_4 ++ (putB 1 1))⟩ _ ⟨⟨by rw [fld, if_pos (by omega), eag], by omega⟩, H220⟩
                  · skip
                    rintro ⟨A_5, c_5, m_5, b_5⟩ w223 ⟨hi224, H225⟩
                    refine G.eq (M' := [(1, pt p3 0), (4, .int .i64 (((fm o.toNat) : Nat) : Int)), (5, pt p27 0)]) rfl ?_
                    have H225 : Hp w [] [.blk p27 [.slice A_5 m_5 c_5] 53, .row A_5 m_5 c_5 5 1 (by8 b_5), .blk p3 [.int .u8 (o.toNat : Int), .int .u8 (wh.toNat : Int), .int .u8 (t.toNat : Int), .int .u64 (am : Int), .int .u64 (id : Int), .int .u8 ((ad 0).toNat : Int), .int .u8 ((ad 1).toNat : Int), .int .u8 ((ad 2).toNat : Int), .int .u8 ((ad 3).toNat : Int), .int .u8 ((ad 4).toNat : Int), .int .u8 ((ad 5).toNat : Int), .int .u8 ((ad 6).toNat : Int), .int .u8 ((ad 7).toNat : Int), .int .u8 ((ad 8).toNat : Int), .int .u8 ((ad 9).toNat : Int), .int .u8 ((ad 10).toNat : Int), .int .u8 ((ad 11).toNat : Int), .int .u8 ((ad 12).toNat : Int), .int .u8 ((ad 13).toNat : Int), .int .u8 ((ad 14).toNat : Int), .int .u8 ((ad 15).toNat : Int), .int .u8 ((ad 16).toNat : Int), .int .u8 ((ad 17).toNat : Int), .int .u8 ((ad 18).toNat : Int), .int .u8 ((ad 19).toNat : Int), .bool ag, .slice Bd bd.length bc] 28] w223 := H225
                    obtain ⟨hb_5, hm_5⟩ := hi224
                    refine G.seqJ (X := Option Addr × Nat × Nat × List UInt8) (fun ⟨A_6, c_6, m_6, b_6⟩ => [(5, pt p27 0)]) (fun ⟨A_6, c_6, m_6, b_6⟩ w_ => (b_6 = b_5 ++ fld o.toNat 6 (cnt bd.length ++ bd) ∧ m_6 ≤ m_5 + 9020) ∧ Hp w [] [.blk p27 [.slice A_6 m_6 c_6] 53, .row A_6 m_6 c_6 5 1 (by8 b_6), .blk p3 [.int .u8 (o.toNat : Int), .int .u8 (wh.toNat : Int), .int .u8 (t.toNat : Int), .int .u64 (am : Int), .int .u64 (id : Int), .int .u8 ((ad 0).toNat : Int), .int .u8 ((ad 1).toNat : Int), .int .u8 ((ad 2).toNat : Int), .int .u8 ((ad 3).toNat : Int), .int .u8 ((ad 4).toNat : Int), .int .u8 ((ad 5).toNat : Int), .int .u8 ((ad 6).toNat : Int), .int .u8 ((ad 7).toNat : Int), .int .u8 ((ad 8).toNat : Int), .int .u8 ((ad 9).toNat : Int), .int .u8 ((ad 10).toNat : Int), .int .u8 ((ad 11).toNat : Int), .int .u8 ((ad 12).toNat : Int), .int .u8 ((ad 13).toNat : Int), .int .u8 ((ad 14).toNat : Int), .int .u8 ((ad 15).toNat : Int), .int .u8 ((ad 16).toNat : Int), .int .u8 ((ad 17).toNat : Int), .int .u8 ((ad 18).toNat : Int), .int .u8 ((ad 19).toNat : Int), .bool ag, .slice Bd bd.length bc] 28] w_) (fun J226 K227 hK228 => ?_) ?_
                    · skip
                      refine G.seqK fun K229 hK230 => ?_
                      refine G.region ?_
                      refine GL.run (j := 3) 3 [1, 5, 75] [(1, pt p3 0), (5, pt p27 0), (75, .bool ((Go.bits .and .i64 (((fm o.toNat) : Nat) : Int) 64) != 0))] (by kernel_rfl) rfl ?_
                      have e231 : (Go.bits .and .i64 (((fm o.toNat) : Nat) : Int) 64) = ((fm o.toNat / 2 ^ 6 % 2 * 2 ^ 6 : Nat) : Int) := i_andbit (k := 6) (by decide) (fm_lt _)
                      refine GL.eq (M' := [(1, pt p3 0), (5, pt p27 0), (75, .bool (((fm o.toNat / 2 ^ 6 % 2 * 2 ^ 6 : Nat) : Int) != 0))]) (by rw [e231]) ?_
                      clear e231
                      refine GL.k rfl hK230 (fun _ _ h => h) ?_
                      cases hb232 : (((fm o.toNat / 2 ^ 6 % 2 * 2 ^ 6 : Nat) : Int) != 0)
                      · skip
                        have hb232f : ((fm o.toNat / 2 ^ 6 % 2 * 2 ^ 6 : Nat) : Int) = 0 := bne_eq_false_iff_eq.1 hb232
                        refine G.no rfl ?_
                        refine G.skipK hK228 (fun _ _ h => h) ?_
                        refine G.fit [5] (M' := [(5, pt p27 0)]) (by kernel_rfl) ?_
                        exact J226 ⟨A_5, c_5, m_5, b_5⟩ _ ⟨⟨by rw [fld, if_neg (by omega), List.append_nil], by omega⟩, H225⟩
                      · skip
                        have hb232f : ((fm o.toNat / 2 ^ 6 % 2 * 2 ^ 6 : Nat) : Int) ≠ 0 := bne_iff_ne.1 hb232
                        refine G.yes rfl ?_
                        refine G.region ?_
                        refine GL.run (j := 1) 1 [5, 76] [(5, pt p27 0), (76, pt p3 26)] (by kernel_rfl) rfl ?_
                        refine GL.sem (j := 2) (H225.ld (o := 26) (ty := 26) (v := .slice Bd bd.length bc) 2 rfl (by kernel_rfl) rfl) [5, 77] [(5, pt p27 0), (77, .slice Bd bd.length bc)] (by kernel_rfl) (by kernel_rfl) rfl ?_
                        have hcA234 := cntSz_le bd.length
                        refine GL.call (j := 3) (WCounted_calls (ids [.blk p27 [.slice A_5 m_5 c_5] 53, .row A_5 m_5 c_5 5 1 (by8 b_5)]) p27 A_5 m_5 c_5 b_5 Bd bd.length bc bd w223 (Hp.startL (A := [.blk p27 [.slice A_5 m_5 c_5] 53, .row A_5 m_5 c_5 5 1 (by8 b_5)]) (B := [.blk p3 [.int .u8 (o.toNat : Int), .int .u8 (wh.toNat : Int), .int .u8 (t.toNat : Int), .int .u64 (am : Int), .int .u64 (id : Int), .int .u8 ((ad 0).toNat : Int), .int .u8 ((ad 1).toNat : Int), .int .u8 ((ad 2).toNat : Int), .int .u8 ((ad 3).toNat : Int), .int .u8 ((ad 4).toNat : Int), .int .u8 ((ad 5).toNat : Int), .int .u8 ((ad 6).toNat : Int), .int .u8 ((ad 7).toNat : Int), .int .u8 ((ad 8).toNat : Int), .int .u8 ((ad 9).toNat : Int), .int .u8 ((ad 10).toNat : Int), .int .u8 ((ad 11).toNat : Int), .int .u8 ((ad 12).toNat : Int), .int .u8 ((ad 13).toNat : Int), .int .u8 ((ad 14).toNat : Int), .int .u8 ((ad 15).toNat : Int), .int .u8 ((ad 16).toNat : Int), .int .u8 ((ad 17).toNat : Int), .int .u8 ((ad 18).toNat : Int), .int .u8 ((ad 19).toNat : Int), .bool ag, .slice Bd bd.length bc] 28]) H225) (by omega) (RdO.mid (A' := [.blk p27 [.slice A_5 m_5 c_5] 53, .row A_5 m_5 c_5 5 1 (by8 b_5)]) (B' := [.blk p3 [.int .u8 (o.toNat : Int), .int .u8 (wh.toNat : Int), .int .u8 (t.toNat : Int), .int .u64 (am : Int), .int .u64 (id : Int), .int .u8 ((ad 0).toNat : Int), .int .u8 ((ad 1).toNat : Int), .int .u8 ((ad 2).toNat : Int), .int .u8 ((ad 3).toNat : Int), .int .u8 ((ad 4).toNat : Int), .int .u8 ((ad 5).toNat : Int), .int .u8 ((ad 6).toNat : Int), .int .u8 ((ad 7).toNat : Int), .int .u8 ((ad 8).toNat : Int), .int .u8 ((ad 9).toNat : Int), .int .u8 ((ad 10).toNat : Int), .int .u8 ((ad 11).toNat : Int), .int .u8 ((ad 12).toNat : Int), .int .u8 ((ad 13).toNat : Int), .int .u8 ((ad 14).toNat : Int), .int .u8 ((ad 15).toNat : Int), .int .u8 ((ad 16).toNat : Int), .int .u8 ((ad 17).toNat : Int), .int .u8 ((ad 18).toNat : Int), .int .u8 ((ad 19).toNat : Int), .bool ag, .slice Bd bd.length bc] 28]) (RdO.of hBd) H225) (rfl) (by omega)) (by kernel_rfl) rfl (fun e_ w236 hR => ?_)
                        obtain ⟨A234, c235, rfl, H238⟩ := hR
                        have H237 : Hp w [] [.blk p27 [.slice A234 (m_5 + (cntSz bd.length + bd.length)) c235] 53, .row A234 (m_5 + (cntSz bd.length + bd.length)) c235 5 1 (by8 (b_5 ++ (cnt bd.length ++ bd))), .blk p3 [.int .u8 (o.toNat : Int), .int .u8 (wh.toNat : Int), .int .u8 (t.toNat : Int), .int .u64 (am : Int), .int .u64 (id : Int), .int .u8 ((ad 0).toNat : Int), .int .u8 ((ad 1).toNat : Int), .int .u8 ((ad 2).toNat : Int), .int .u8 ((ad 3).toNat : Int), .int .u8 ((ad 4).toNat : Int), .int .u8 ((ad 5).toNat : Int), .int .u8 ((ad 6).toNat : Int), .int .u8 ((ad 7).toNat : Int), .int .u8 ((ad 8).toNat : Int), .int .u8 ((ad 9).toNat : Int), .int .u8 ((ad 10).toNat : Int), .int .u8 ((ad 11).toNat : Int), .int .u8 ((ad 12).toNat : Int), .int .u8 ((ad 13).toNat : Int), .int .u8 ((ad 14).toNat : Int), .int .u8 ((ad 15).toNat : Int), .int .u8 ((ad 16).toNat : Int), .int .u8 ((ad 17).toNat : Int), .int .u8 ((ad 18).toNat : Int), .int .u8 ((ad 19).toNat : Int), .bool ag, .slice Bd bd.length bc] 28] w236 := Hp.callL (A := [.blk p27 [.slice A_5 m_5 c_5] 53, .row A_5 m_5 c_5 5 1 (by8 b_5)]) (B := [.blk p3 [.int .u8 (o.toNat : Int), .int .u8 (wh.toNat : Int), .int .u8 (t.toNat : Int), .int .u64 (am : Int), .int .u64 (id : Int), .int .u8 ((ad 0).toNat : Int), .int .u8 ((ad 1).toNat : Int), .int .u8 ((ad 2).toNat : Int), .int .u8 ((ad 3).toNat : Int), .int .u8 ((ad 4).toNat : Int), .int .u8 ((ad 5).toNat : Int), .int .u8 ((ad 6).toNat : Int), .int .u8 ((ad 7).toNat : Int), .int .u8 ((ad 8).toNat : Int), .int .u8 ((ad 9).toNat : Int), .int .u8 ((ad 10).toNat : Int), .int .u8 ((ad 11).toNat : Int), .int .u8 ((ad 12).toNat : Int), .int .u8 ((ad 13).toNat : Int), .int .u8 ((ad 14).toNat : Int), .int .u8 ((ad 15).toNat : Int), .int .u8 ((ad 16).toNat : Int), .int .u8 ((ad 17).toNat : Int), .int .u8 ((ad 18).toNat : Int), .int .u8 ((ad 19).toNat : Int), .bool ag, .slice Bd bd.length bc] 28]) H225 H238
                        refine ⟨_, rfl, [5], [(5, pt p27 0)], by kernel_rfl, ?_⟩
                        refine GL.k rfl hK228 (fun _ _ h => h) ?_
                        refine G.fit [5] (M' := [(5, pt p27 0)]) (by kernel_rfl) ?_
                        exact J226 ⟨A234, c235, (m_5 + (cntSz bd.length + bd.length)), (b_5 ++ (cnt bd.length ++ bd))⟩ _ ⟨⟨by rw [fld, if_pos (by omega)], by omega⟩, H237⟩
                    · skip
                      rintro ⟨A_6, c_6, m_6, b_6⟩ w240 ⟨hi241, H242⟩
                      refine G.eq (M' := [(5, pt p27 0)]) rfl ?_
                      have H242 : Hp w [] [.blk p27 [.slice A_6 m_6 c_6] 53, .row A_6 m_6 c_6 5 1 (by8 b_6), .blk p3 [.int .u8 (o.toNat : Int), .int .u8 (wh.toNat : Int), .int .u8 (t.toNat : Int), .int .u64 (am : Int), .int .u64 (id : Int), .int .u8 ((ad 0).toNat : Int), .int .u8 ((ad 1).toNat : Int), .int .u8 ((ad 2).toNat : Int), .int .u8 ((ad 3).toNat : Int), .int .u8 ((ad 4).toNat : Int), .int .u8 ((ad 5).toNat : Int), .int .u8 ((ad 6).toNat : Int), .int .u8 ((ad 7).toNat : Int), .int .u8 ((ad 8).toNat : Int), .int .u8 ((ad 9).toNat : Int), .int .u8 ((ad 10).toNat : Int), .int .u8 ((ad 11).toNat : Int), .int .u8 ((ad 12).toNat : Int), .int .u8 ((ad 13).toNat : Int), .int .u8 ((ad 14).toNat : Int), .int .u8 ((ad 15).toNat : Int), .int .u8 ((ad 16).toNat : Int), .int .u8 ((ad 17).toNat : Int), .int .u8 ((ad 18).toNat : Int), .int .u8 ((ad 19).toNat : Int), .bool ag, .slice Bd bd.length bc] 28] w240 := H242
                      obtain ⟨hb_6, hm_6⟩ := hi241
                      refine G.seqK fun K243 hK244 => ?_
                      refine G.region ?_
                      refine GL.call (j := 1) (WBytes_calls (ids [.blk p27 [.slice A_6 m_6 c_6] 53, .row A_6 m_6 c_6 5 1 (by8 b_6)]) p27 A_6 m_6 c_6 b_6 w240 (Hp.startL (A := [.blk p27 [.slice A_6 m_6 c_6] 53, .row A_6 m_6 c_6 5 1 (by8 b_6)]) (B := [.blk p3 [.int .u8 (o.toNat : Int), .int .u8 (wh.toNat : Int), .int .u8 (t.toNat : Int), .int .u64 (am : Int), .int .u64 (id : Int), .int .u8 ((ad 0).toNat : Int), .int .u8 ((ad 1).toNat : Int), .int .u8 ((ad 2).toNat : Int), .int .u8 ((ad 3).toNat : Int), .int .u8 ((ad 4).toNat : Int), .int .u8 ((ad 5).toNat : Int), .int .u8 ((ad 6).toNat : Int), .int .u8 ((ad 7).toNat : Int), .int .u8 ((ad 8).toNat : Int), .int .u8 ((ad 9).toNat : Int), .int .u8 ((ad 10).toNat : Int), .int .u8 ((ad 11).toNat : Int), .int .u8 ((ad 12).toNat : Int), .int .u8 ((ad 13).toNat : Int), .int .u8 ((ad 14).toNat : Int), .int .u8 ((ad 15).toNat : Int), .int .u8 ((ad 16).toNat : Int), .int .u8 ((ad 17).toNat : Int), .int .u8 ((ad 18).toNat : Int), .int .u8 ((ad 19).toNat : Int), .bool ag, .slice Bd bd.length bc] 28]) H242) (by omega)) (by kernel_rfl) rfl (fun e_ w247 hR => ?_)
                      obtain ⟨A245, c246, rfl, H249⟩ := hR
                      have H248 : Hp w [] [.blk p27 [.slice A_6 m_6 c_6] 53, .row A_6 m_6 c_6 5 1 (by8 b_6), .row A245 m_6 c246 5 1 (by8 b_6), .blk p3 [.int .u8 (o.toNat : Int), .int .u8 (wh.toNat : Int), .int .u8 (t.toNat : Int), .int .u64 (am : Int), .int .u64 (id : Int), .int .u8 ((ad 0).toNat : Int), .int .u8 ((ad 1).toNat : Int), .int .u8 ((ad 2).toNat : Int), .int .u8 ((ad 3).toNat : Int), .int .u8 ((ad 4).toNat : Int), .int .u8 ((ad 5).toNat : Int), .int .u8 ((ad 6).toNat : Int), .int .u8 ((ad 7).toNat : Int), .int .u8 ((ad 8).toNat : Int), .int .u8 ((ad 9).toNat : Int), .int .u8 ((ad 10).toNat : Int), .int .u8 ((ad 11).toNat : Int), .int .u8 ((ad 12).toNat : Int), .int .u8 ((ad 13).toNat : Int), .int .u8 ((ad 14).toNat : Int), .int .u8 ((ad 15).toNat : Int), .int .u8 ((ad 16).toNat : Int), .int .u8 ((ad 17).toNat : Int), .int .u8 ((ad 18).toNat : Int), .int .u8 ((ad 19).toNat : Int), .bool ag, .slice Bd bd.length bc] 28] w247 := Hp.callL (A := [.blk p27 [.slice A_6 m_6 c_6] 53, .row A_6 m_6 c_6 5 1 (by8 b_6)]) (B := [.blk p3 [.int .u8 (o.toNat : Int), .int .u8 (wh.toNat : Int), .int .u8 (t.toNat : Int), .int .u64 (am : Int), .int .u64 (id : Int), .int .u8 ((ad 0).toNat : Int), .int .u8 ((ad 1).toNat : Int), .int .u8 ((ad 2).toNat : Int), .int .u8 ((ad 3).toNat : Int), .int .u8 ((ad 4).toNat : Int), .int .u8 ((ad 5).toNat : Int), .int .u8 ((ad 6).toNat : Int), .int .u8 ((ad 7).toNat : Int), .int .u8 ((ad 8).toNat : Int), .int .u8 ((ad 9).toNat : Int), .int .u8 ((ad 10).toNat : Int), .int .u8 ((ad 11).toNat : Int), .int .u8 ((ad 12).toNat : Int), .int .u8 ((ad 13).toNat : Int), .int .u8 ((ad 14).toNat : Int), .int .u8 ((ad 15).toNat : Int), .int .u8 ((ad 16).toNat : Int), .int .u8 ((ad 17).toNat : Int), .int .u8 ((ad 18).toNat : Int), .int .u8 ((ad 19).toNat : Int), .bool ag, .slice Bd bd.length bc] 28]) H242 H249
                      refine ⟨_, rfl, [79], [(79, .slice A245 m_6 c246)], by kernel_rfl, ?_⟩
                      refine GL.run (j := 3) 2 [2, 3] [(2, .slice A245 m_6 c246), (3, .int .i64 0)] (by kernel_rfl) rfl ?_
                      refine GL.k rfl hK244 (fun _ _ h => h) ?_
                      refine G.ret ?_
                      intro F_ hF_ hM_
                      refine hRet _ _ (bodyPost_2 rfl (RV.tmp rfl) (RV.tmp rfl) ?_ F_ hF_ hM_)
                      have e0 : cmdE o wh t am id ad ag bd = 0 := by unfold cmdE; (repeat' split) <;> omega
                      have H250 : Hp w [] [.row A245 m_6 c246 5 1 (by8 b_6)] w247 := H248.sub (List.Sublist.cons _ (List.Sublist.cons _ (List.Sublist.cons_cons _ (List.Sublist.cons _ (List.Sublist.slnil)))))
                      have eB : b_6 = cmdB o wh t am id ad ag bd := by rw [hb_6, hb_5, hb_4, hb_3, hb_2, hb_1, hb_0]; unfold cmdB; simp only [List.append_assoc]
                      have HF := H250
                      rw [eB] at HF
                      rw [e0, cmdO, if_pos e0]
                      exact ⟨_, _, _, rfl, HF⟩
      · skip
        have hb24f := of_decide_eq_true hb24
        refine G.yes rfl ?_
        refine G.seqK fun K251 hK252 => ?_
        refine G.region ?_
        refine GL.run (j := 2) 2 [2, 3] [(2, .slice none 0 0), (3, .int .i64 3)] (by kernel_rfl) rfl ?_
        refine GL.k rfl hK252 (fun _ _ h => h) ?_
        refine G.ret ?_
        intro F_ hF_ hM_
        refine hRet _ _ (bodyPost_2 rfl (RV.tmp rfl) (RV.tmp rfl) ?_ F_ hF_ hM_)
        have e0 : cmdE o wh t am id ad ag bd = 3 := by unfold cmdE; (repeat' split) <;> omega
        rw [e0, cmdO, if_neg (by omega)]
        exact ⟨none, 0, 0, rfl, (H18.sub (List.nil_sublist _)).rowNil 5 1⟩
    · skip
      have hb21f : ((lacks (cmdM wh t am id ad ag bd) (fm o.toNat) : Nat) : Int) ≠ 0 := bne_iff_ne.1 hb21
      refine G.yes rfl ?_
      refine G.seqK fun K253 hK254 => ?_
      refine G.region ?_
      refine GL.run (j := 2) 2 [2, 3] [(2, .slice none 0 0), (3, .int .i64 1)] (by kernel_rfl) rfl ?_
      refine GL.k rfl hK254 (fun _ _ h => h) ?_
      refine G.ret ?_
      intro F_ hF_ hM_
      refine hRet _ _ (bodyPost_2 rfl (RV.tmp rfl) (RV.tmp rfl) ?_ F_ hF_ hM_)
      have e0 : cmdE o wh t am id ad ag bd = 1 := by unfold cmdE; (repeat' split) <;> omega
      rw [e0, cmdO, if_neg (by omega)]
      exact ⟨none, 0, 0, rfl, (H18.sub (List.nil_sublist _)).rowNil 5 1⟩
  · skip
    have hb16f := eq_of_beq hb16
    refine GL.run (j := 10) 7 [1, 4, 11] [(1, pt p3 0), (4, .int .i64 (((fm o.toNat) : Nat) : Int)), (11, .bool true)] (by kernel_rfl) rfl ?_
    refine GL.k rfl hK15 (fun _ _ h => h) ?_
    refine G.yes rfl ?_
    refine G.seqK fun K255 hK256 => ?_
    refine G.region ?_
    refine GL.run (j := 2) 2 [2, 3] [(2, .slice none 0 0), (3, .int .i64 1)] (by kernel_rfl) rfl ?_
    refine GL.k rfl hK256 (fun _ _ h => h) ?_
    refine G.ret ?_
    intro F_ hF_ hM_
    refine hRet _ _ (bodyPost_2 rfl (RV.tmp rfl) (RV.tmp rfl) ?_ F_ hF_ hM_)
    have e0 : cmdE o wh t am id ad ag bd = 1 := by unfold cmdE; (repeat' split) <;> omega
    rw [e0, cmdO, if_neg (by omega)]
    exact ⟨none, 0, 0, rfl, (H10.sub (List.nil_sublist _)).rowNil 5 1⟩
end Go.Proofs.Ytkfhcogdpmndkaa
namespace Go.Proofs.Ytkfhcogdpmndkaa
open Go.RowKit
def ref27 (o w t : UInt8) (am id : Nat) (ad : Nat → UInt8) (ag : Bool) (s : ByteArray) : List Value :=
  [.int .u8 (o.toNat : Int), .int .u8 (w.toNat : Int), .int .u8 (t.toNat : Int), .int .u64 (am : Int), .int .u64 (id : Int)] ++ (List.range 20).map (fun i => Value.int .u8 ((ad i).toNat : Int)) ++ [.bool ag, .string s]
def refL (o w t : UInt8) (am id : Nat) (ad : Nat → UInt8) (ag : Bool) (s : List UInt8) : List Lit :=
  [.int .u8 (o.toNat : Int)] ++ ([.int .u8 (w.toNat : Int)] ++ ([.int .u8 (t.toNat : Int)] ++ ([.int .u64 (am : Int)] ++ ([.int .u64 (id : Int)] ++ ((List.range 20).map (fun i => Lit.int .u8 ((ad i).toNat : Int)) ++ ([.bool ag] ++ [.string s]))))))
theorem ref_lits (o w t : UInt8) (am id : Nat) (ad : Nat → UInt8) (ag : Bool) (s : ByteArray) (ham : am < K) (hid : id < K) (hs : s.size ≤ maxLen) :
    Try.prog.keyLits 3 34 (ref27 o w t am id ad ag s) = some (refL o w t am id ad ag s.data.toList) := by
  rw [keyLits_struct Try.underlying34, if_pos ⟨by kernel_rfl, by kernel_rfl⟩]
  have h1 : ∀ (ty off : Nat) (b : UInt8), Try.prog.underlying ty = some (.int .u8) → Try.prog.cellsOf ty = 1 → ((ref27 o w t am id ad ag s).drop off).take 1 = [.int .u8 (b.toNat : Int)] → Try.prog.keyLits 2 ty (((ref27 o w t am id ad ag s).drop off).take (Try.prog.cellsOf ty)) = some [.int .u8 (b.toNat : Int)] := by
    intro ty off b h1 h2 h3
    rw [h2, h3]
    exact lits_u8 h1 b
  simp only [List.mapM_cons, List.mapM_nil]
  rw [h1 5 0 o Try.underlying5 (by kernel_rfl) rfl, h1 5 1 w Try.underlying5 (by kernel_rfl) rfl, h1 5 2 t Try.underlying5 (by kernel_rfl) rfl]
  rw [show Try.prog.cellsOf 23 = 1 by kernel_rfl, show Try.prog.cellsOf 24 = 20 by kernel_rfl, show Try.prog.cellsOf 4 = 1 by kernel_rfl, show Try.prog.cellsOf 9 = 1 by kernel_rfl]
  rw [show ((ref27 o w t am id ad ag s).drop 3).take 1 = [.int .u64 (am : Int)] from rfl, show ((ref27 o w t am id ad ag s).drop 4).take 1 = [.int .u64 (id : Int)] from rfl,
    show ((ref27 o w t am id ad ag s).drop 5).take 20 = (List.range 20).map (fun i => Value.int .u8 ((ad i).toNat : Int)) from rfl, show ((ref27 o w t am id ad ag s).drop 25).take 1 = [.bool ag] from rfl, show ((ref27 o w t am id ad ag s).drop 26).take 1 = [.string s] from rfl]
  rw [lits_u64 Try.underlying23 ham, lits_u64 Try.underlying23 hid, lits_u8s (d := 0) Try.underlying24 Try.underlying5 (by kernel_rfl) (by kernel_rfl), lits_bool Try.underlying4, lits_str Try.underlying9 hs]
  rfl
theorem mapAd_inj {a b : Nat → UInt8} : (List.range 20).map (fun i => Lit.int .u8 ((a i).toNat : Int)) = (List.range 20).map (fun i => Lit.int .u8 ((b i).toNat : Int)) ↔ (List.range 20).map a = (List.range 20).map b := by
  constructor
  · intro h
    refine List.map_congr_left fun i hi => ?_
    have := List.map_inj_left.1 h i hi
    injection this with _ this
    exact UInt8.toNat_inj.1 (by omega)
  · intro h
    refine List.map_congr_left fun i hi => ?_
    rw [List.map_inj_left.1 h i hi]
def sameC (o w t : UInt8) (am id : Nat) (ad : Nat → UInt8) (ag : Bool) (bd : List UInt8) (o' w' t' : UInt8) (am' id' : Nat) (ad' : Nat → UInt8) (ag' : Bool) (bd' : List UInt8) : Bool :=
  decide (o = o' ∧ w = w' ∧ t = t' ∧ am = am' ∧ id = id' ∧ (List.range 20).map ad = (List.range 20).map ad' ∧ ag = ag' ∧ bd = bd')
theorem refL_inj {o w t o' w' t' : UInt8} {am id am' id' : Nat} {ad ad' : Nat → UInt8} {ag ag' : Bool} {bd bd' : List UInt8} : refL o w t am id ad ag bd = refL o' w' t' am' id' ad' ag' bd' ↔ sameC o w t am id ad ag bd o' w' t' am' id' ad' ag' bd' = true := by
  have hu : ∀ x y : UInt8, ([Lit.int .u8 (x.toNat : Int)] = [Lit.int .u8 (y.toNat : Int)]) ↔ x = y := by
    intro x y
    constructor
    · intro h
      injection h with h _
      injection h with _ h
      exact UInt8.toNat_inj.1 (by omega)
    · intro h
      rw [h]
  have hn : ∀ x y : Nat, ([Lit.int .u64 (x : Int)] = [Lit.int .u64 (y : Int)]) ↔ x = y := by
    intro x y
    constructor
    · intro h
      injection h with h _
      injection h with _ h
      omega
    · intro h
      rw [h]
  have hb : ∀ x y : Bool, ([Lit.bool x] = [Lit.bool y]) ↔ x = y := by simp
  have hs : ∀ x y : List UInt8, ([Lit.string x] = [Lit.string y]) ↔ x = y := by simp
  unfold refL sameC
  rw [decide_eq_true_eq]
  constructor
  · intro h
    obtain ⟨h1, h⟩ := List.append_inj h rfl
    obtain ⟨h2, h⟩ := List.append_inj h rfl
    obtain ⟨h3, h⟩ := List.append_inj h rfl
    obtain ⟨h4, h⟩ := List.append_inj h rfl
    obtain ⟨h5, h⟩ := List.append_inj h rfl
    obtain ⟨h6, h⟩ := List.append_inj h (by simp)
    obtain ⟨h7, h8⟩ := List.append_inj h rfl
    exact ⟨(hu _ _).1 h1, (hu _ _).1 h2, (hu _ _).1 h3, (hn _ _).1 h4, (hn _ _).1 h5, mapAd_inj.1 h6, (hb _ _).1 h7, (hs _ _).1 h8⟩
  · rintro ⟨rfl, rfl, rfl, rfl, rfl, h6, rfl, rfl⟩
    rw [mapAd_inj.2 h6]
theorem Ref_calls (o wh t : UInt8) (am id : Nat) (ad : Nat → UInt8) (ag : Bool) (Bd : Option Addr) (bd : List UInt8) (bc : Nat) (w : World) (ham : am < K) (hid : id < K) (hBd : RdS w Bd (by8 bd)) (hbc : bd.length ≤ 9000) : Calls Try.prog 9 #[.agg #[.int .u8 (o.toNat : Int), .int .u8 (wh.toNat : Int), .int .u8 (t.toNat : Int), .int .u64 (am : Int), .int .u64 (id : Int), .int .u8 ((ad 0).toNat : Int), .int .u8 ((ad 1).toNat : Int), .int .u8 ((ad 2).toNat : Int), .int .u8 ((ad 3).toNat : Int), .int .u8 ((ad 4).toNat : Int), .int .u8 ((ad 5).toNat : Int), .int .u8 ((ad 6).toNat : Int), .int .u8 ((ad 7).toNat : Int), .int .u8 ((ad 8).toNat : Int), .int .u8 ((ad 9).toNat : Int), .int .u8 ((ad 10).toNat : Int), .int .u8 ((ad 11).toNat : Int), .int .u8 ((ad 12).toNat : Int), .int .u8 ((ad 13).toNat : Int), .int .u8 ((ad 14).toNat : Int), .int .u8 ((ad 15).toNat : Int), .int .u8 ((ad 16).toNat : Int), .int .u8 ((ad 17).toNat : Int), .int .u8 ((ad 18).toNat : Int), .int .u8 ((ad 19).toNat : Int), .bool ag, .slice Bd bd.length bc]] w fun e w' => e = .returned (.agg #[.int .u8 (o.toNat : Int), .int .u8 (wh.toNat : Int), .int .u8 (t.toNat : Int), .int .u64 (am : Int), .int .u64 (id : Int), .int .u8 ((ad 0).toNat : Int), .int .u8 ((ad 1).toNat : Int), .int .u8 ((ad 2).toNat : Int), .int .u8 ((ad 3).toNat : Int), .int .u8 ((ad 4).toNat : Int), .int .u8 ((ad 5).toNat : Int), .int .u8 ((ad 6).toNat : Int), .int .u8 ((ad 7).toNat : Int), .int .u8 ((ad 8).toNat : Int), .int .u8 ((ad 9).toNat : Int), .int .u8 ((ad 10).toNat : Int), .int .u8 ((ad 11).toNat : Int), .int .u8 ((ad 12).toNat : Int), .int .u8 ((ad 13).toNat : Int), .int .u8 ((ad 14).toNat : Int), .int .u8 ((ad 15).toNat : Int), .int .u8 ((ad 16).toNat : Int), .int .u8 ((ad 17).toNat : Int), .int .u8 ((ad 18).toNat : Int), .int .u8 ((ad 19).toNat : Int), .bool ag, .string (strOf bd)]) ∧ Hp w [] [] w' := by
  refine calls_G (args := [.agg #[.int .u8 (o.toNat : Int), .int .u8 (wh.toNat : Int), .int .u8 (t.toNat : Int), .int .u64 (am : Int), .int .u64 (id : Int), .int .u8 ((ad 0).toNat : Int), .int .u8 ((ad 1).toNat : Int), .int .u8 ((ad 2).toNat : Int), .int .u8 ((ad 3).toNat : Int), .int .u8 ((ad 4).toNat : Int), .int .u8 ((ad 5).toNat : Int), .int .u8 ((ad 6).toNat : Int), .int .u8 ((ad 7).toNat : Int), .int .u8 ((ad 8).toNat : Int), .int .u8 ((ad 9).toNat : Int), .int .u8 ((ad 10).toNat : Int), .int .u8 ((ad 11).toNat : Int), .int .u8 ((ad 12).toNat : Int), .int .u8 ((ad 13).toNat : Int), .int .u8 ((ad 14).toNat : Int), .int .u8 ((ad 15).toNat : Int), .int .u8 ((ad 16).toNat : Int), .int .u8 ((ad 17).toNat : Int), .int .u8 ((ad 18).toNat : Int), .int .u8 ((ad 19).toNat : Int), .bool ag, .slice Bd bd.length bc]]) Try.func9 rfl Try.ntmps9 rfl ?_
  intro Q0 hRet hNor hPan
  have H := Hp.start w
  have H : Hp w [] [] w := H
  refine G.seqK fun K1 hK2 => ?_
  refine G.region ?_
  obtain ⟨p3, w4, r5, H6⟩ := H.box (P := Try.prog) 28 [.int .u8 (o.toNat : Int), .int .u8 (wh.toNat : Int), .int .u8 (t.toNat : Int), .int .u64 (am : Int), .int .u64 (id : Int), .int .u8 ((ad 0).toNat : Int), .int .u8 ((ad 1).toNat : Int), .int .u8 ((ad 2).toNat : Int), .int .u8 ((ad 3).toNat : Int), .int .u8 ((ad 4).toNat : Int), .int .u8 ((ad 5).toNat : Int), .int .u8 ((ad 6).toNat : Int), .int .u8 ((ad 7).toNat : Int), .int .u8 ((ad 8).toNat : Int), .int .u8 ((ad 9).toNat : Int), .int .u8 ((ad 10).toNat : Int), .int .u8 ((ad 11).toNat : Int), .int .u8 ((ad 12).toNat : Int), .int .u8 ((ad 13).toNat : Int), .int .u8 ((ad 14).toNat : Int), .int .u8 ((ad 15).toNat : Int), .int .u8 ((ad 16).toNat : Int), .int .u8 ((ad 17).toNat : Int), .int .u8 ((ad 18).toNat : Int), .int .u8 ((ad 19).toNat : Int), .bool ag, .slice Bd bd.length bc] (.agg #[.int .u8 (o.toNat : Int), .int .u8 (wh.toNat : Int), .int .u8 (t.toNat : Int), .int .u64 (am : Int), .int .u64 (id : Int), .int .u8 ((ad 0).toNat : Int), .int .u8 ((ad 1).toNat : Int), .int .u8 ((ad 2).toNat : Int), .int .u8 ((ad 3).toNat : Int), .int .u8 ((ad 4).toNat : Int), .int .u8 ((ad 5).toNat : Int), .int .u8 ((ad 6).toNat : Int), .int .u8 ((ad 7).toNat : Int), .int .u8 ((ad 8).toNat : Int), .int .u8 ((ad 9).toNat : Int), .int .u8 ((ad 10).toNat : Int), .int .u8 ((ad 11).toNat : Int), .int .u8 ((ad 12).toNat : Int), .int .u8 ((ad 13).toNat : Int), .int .u8 ((ad 14).toNat : Int), .int .u8 ((ad 15).toNat : Int), .int .u8 ((ad 16).toNat : Int), .int .u8 ((ad 17).toNat : Int), .int .u8 ((ad 18).toNat : Int), .int .u8 ((ad 19).toNat : Int), .bool ag, .slice Bd bd.length bc]) rfl
  have H6 : Hp w [] [.blk p3 [.int .u8 (o.toNat : Int), .int .u8 (wh.toNat : Int), .int .u8 (t.toNat : Int), .int .u64 (am : Int), .int .u64 (id : Int), .int .u8 ((ad 0).toNat : Int), .int .u8 ((ad 1).toNat : Int), .int .u8 ((ad 2).toNat : Int), .int .u8 ((ad 3).toNat : Int), .int .u8 ((ad 4).toNat : Int), .int .u8 ((ad 5).toNat : Int), .int .u8 ((ad 6).toNat : Int), .int .u8 ((ad 7).toNat : Int), .int .u8 ((ad 8).toNat : Int), .int .u8 ((ad 9).toNat : Int), .int .u8 ((ad 10).toNat : Int), .int .u8 ((ad 11).toNat : Int), .int .u8 ((ad 12).toNat : Int), .int .u8 ((ad 13).toNat : Int), .int .u8 ((ad 14).toNat : Int), .int .u8 ((ad 15).toNat : Int), .int .u8 ((ad 16).toNat : Int), .int .u8 ((ad 17).toNat : Int), .int .u8 ((ad 18).toNat : Int), .int .u8 ((ad 19).toNat : Int), .bool ag, .slice Bd bd.length bc] 28] w4 := H6
  refine GL.sem (j := 1) (r5) [1] [(1, pt p3 0)] (by kernel_rfl) (by kernel_rfl) rfl ?_
  obtain ⟨p7, w8, r9, H10⟩ := H6.alloc (P := Try.prog) 34 [.int .u8 0, .int .u8 0, .int .u8 0, .int .u64 0, .int .u64 0, .int .u8 0, .int .u8 0, .int .u8 0, .int .u8 0, .int .u8 0, .int .u8 0, .int .u8 0, .int .u8 0, .int .u8 0, .int .u8 0, .int .u8 0, .int .u8 0, .int .u8 0, .int .u8 0, .int .u8 0, .int .u8 0, .int .u8 0, .int .u8 0, .int .u8 0, .int .u8 0, .bool false, .string ⟨#[]⟩] (by kernel_rfl)
  have H10 : Hp w [] [.blk p3 [.int .u8 (o.toNat : Int), .int .u8 (wh.toNat : Int), .int .u8 (t.toNat : Int), .int .u64 (am : Int), .int .u64 (id : Int), .int .u8 ((ad 0).toNat : Int), .int .u8 ((ad 1).toNat : Int), .int .u8 ((ad 2).toNat : Int), .int .u8 ((ad 3).toNat : Int), .int .u8 ((ad 4).toNat : Int), .int .u8 ((ad 5).toNat : Int), .int .u8 ((ad 6).toNat : Int), .int .u8 ((ad 7).toNat : Int), .int .u8 ((ad 8).toNat : Int), .int .u8 ((ad 9).toNat : Int), .int .u8 ((ad 10).toNat : Int), .int .u8 ((ad 11).toNat : Int), .int .u8 ((ad 12).toNat : Int), .int .u8 ((ad 13).toNat : Int), .int .u8 ((ad 14).toNat : Int), .int .u8 ((ad 15).toNat : Int), .int .u8 ((ad 16).toNat : Int), .int .u8 ((ad 17).toNat : Int), .int .u8 ((ad 18).toNat : Int), .int .u8 ((ad 19).toNat : Int), .bool ag, .slice Bd bd.length bc] 28, .blk p7 [.int .u8 0, .int .u8 0, .int .u8 0, .int .u64 0, .int .u64 0, .int .u8 0, .int .u8 0, .int .u8 0, .int .u8 0, .int .u8 0, .int .u8 0, .int .u8 0, .int .u8 0, .int .u8 0, .int .u8 0, .int .u8 0, .int .u8 0, .int .u8 0, .int .u8 0, .int .u8 0, .int .u8 0, .int .u8 0, .int .u8 0, .int .u8 0, .int .u8 0, .bool false, .string ⟨#[]⟩] 34] w8 := H10
  refine GL.sem (j := 2) (r9) [1, 2] [(1, pt p3 0), (2, pt p7 0)] (by kernel_rfl) (by kernel_rfl) rfl ?_
  refine GL.k rfl hK2 (fun _ _ h => h) ?_
  refine G.seqK fun K11 hK12 => ?_
  refine G.region ?_
  refine GL.run (j := 1) 1 [1, 2, 3] [(1, pt p3 0), (2, pt p7 0), (3, pt p3 0)] (by kernel_rfl) rfl ?_
  refine GL.sem (j := 2) (H10.ld (o := 0) (ty := 5) (v := .int .u8 (o.toNat : Int)) 0 rfl (by kernel_rfl) rfl) [1, 2, 4] [(1, pt p3 0), (2, pt p7 0), (4, .int .u8 (o.toNat : Int))] (by kernel_rfl) (by kernel_rfl) rfl ?_
  refine GL.run (j := 3) 1 [1, 2, 4, 5] [(1, pt p3 0), (2, pt p7 0), (4, .int .u8 (o.toNat : Int)), (5, pt p3 1)] (by kernel_rfl) rfl ?_
  refine GL.sem (j := 4) (H10.ld (o := 1) (ty := 22) (v := .int .u8 (wh.toNat : Int)) 0 rfl (by kernel_rfl) rfl) [1, 2, 4, 6] [(1, pt p3 0), (2, pt p7 0), (4, .int .u8 (o.toNat : Int)), (6, .int .u8 (wh.toNat : Int))] (by kernel_rfl) (by kernel_rfl) rfl ?_
  refine GL.run (j := 5) 1 [1, 2, 4, 6, 7] [(1, pt p3 0), (2, pt p7 0), (4, .int .u8 (o.toNat : Int)), (6, .int .u8 (wh.toNat : Int)), (7, pt p3 2)] (by kernel_rfl) rfl ?_
  refine GL.sem (j := 6) (H10.ld (o := 2) (ty := 22) (v := .int .u8 (t.toNat : Int)) 0 rfl (by kernel_rfl) rfl) [1, 2, 4, 6, 8] [(1, pt p3 0), (2, pt p7 0), (4, .int .u8 (o.toNat : Int)), (6, .int .u8 (wh.toNat : Int)), (8, .int .u8 (t.toNat : Int))] (by kernel_rfl) (by kernel_rfl) rfl ?_
  refine GL.run (j := 7) 1 [1, 2, 4, 6, 8, 9] [(1, pt p3 0), (2, pt p7 0), (4, .int .u8 (o.toNat : Int)), (6, .int .u8 (wh.toNat : Int)), (8, .int .u8 (t.toNat : Int)), (9, pt p3 3)] (by kernel_rfl) rfl ?_
  refine GL.sem (j := 8) (H10.ld (o := 3) (ty := 23) (v := .int .u64 (am : Int)) 0 rfl (by kernel_rfl) rfl) [1, 2, 4, 6, 8, 10] [(1, pt p3 0), (2, pt p7 0), (4, .int .u8 (o.toNat : Int)), (6, .int .u8 (wh.toNat : Int)), (8, .int .u8 (t.toNat : Int)), (10, .int .u64 (am : Int))] (by kernel_rfl) (by kernel_rfl) rfl ?_
  refine GL.run (j := 9) 1 [1, 2, 4, 6, 8, 10, 11] [(1, pt p3 0), (2, pt p7 0), (4, .int .u8 (o.toNat : Int)), (6, .int .u8 (wh.toNat : Int)), (8, .int .u8 (t.toNat : Int)), (10, .int .u64 (am : Int)), (11, pt p3 4)] (by kernel_rfl) rfl ?_
  refine GL.sem (j := 10) (H10.ld (o := 4) (ty := 23) (v := .int .u64 (id : Int)) 0 rfl (by kernel_rfl) rfl) [1, 2, 4, 6, 8, 10, 12] [(1, pt p3 0), (2, pt p7 0), (4, .int .u8 (o.toNat : Int)), (6, .int .u8 (wh.toNat : Int)), (8, .int .u8 (t.toNat : Int)), (10, .int .u64 (am : Int)), (12, .int .u64 (id : Int))] (by kernel_rfl) (by kernel_rfl) rfl ?_
  refine GL.run (j := 11) 1 [1, 2, 4, 6, 8, 10, 12, 13] [(1, pt p3 0), (2, pt p7 0), (4, .int .u8 (o.toNat : Int)), (6, .int .u8 (wh.toNat : Int)), (8, .int .u8 (t.toNat : Int)), (10, .int .u64 (am : Int)), (12, .int .u64 (id : Int)), (13, pt p3 5)] (by kernel_rfl) rfl ?_
  refine GL.sem (j := 12) (H10.ldA (o := 5) (ty := 25) (m := 20) (sub := [.int .u8 ((ad 0).toNat : Int), .int .u8 ((ad 1).toNat : Int), .int .u8 ((ad 2).toNat : Int), .int .u8 ((ad 3).toNat : Int), .int .u8 ((ad 4).toNat : Int), .int .u8 ((ad 5).toNat : Int), .int .u8 ((ad 6).toNat : Int), .int .u8 ((ad 7).toNat : Int), .int .u8 ((ad 8).toNat : Int), .int .u8 ((ad 9).toNat : Int), .int .u8 ((ad 10).toNat : Int), .int .u8 ((ad 11).toNat : Int), .int .u8 ((ad 12).toNat : Int), .int .u8 ((ad 13).toNat : Int), .int .u8 ((ad 14).toNat : Int), .int .u8 ((ad 15).toNat : Int), .int .u8 ((ad 16).toNat : Int), .int .u8 ((ad 17).toNat : Int), .int .u8 ((ad 18).toNat : Int), .int .u8 ((ad 19).toNat : Int)]) 0 rfl (by kernel_rfl) rfl rfl) [1, 2, 4, 6, 8, 10, 12, 14] [(1, pt p3 0), (2, pt p7 0), (4, .int .u8 (o.toNat : Int)), (6, .int .u8 (wh.toNat : Int)), (8, .int .u8 (t.toNat : Int)), (10, .int .u64 (am : Int)), (12, .int .u64 (id : Int)), (14, .agg #[.int .u8 ((ad 0).toNat : Int), .int .u8 ((ad 1).toNat : Int), .int .u8 ((ad 2).toNat : Int), .int .u8 ((ad 3).toNat : Int), .int .u8 ((ad 4).toNat : Int), .int .u8 ((ad 5).toNat : Int), .int .u8 ((ad 6).toNat : Int), .int .u8 ((ad 7).toNat : Int), .int .u8 ((ad 8).toNat : Int), .int .u8 ((ad 9).toNat : Int), .int .u8 ((ad 10).toNat : Int), .int .u8 ((ad 11).toNat : Int), .int .u8 ((ad 12).toNat : Int), .int .u8 ((ad 13).toNat : Int), .int .u8 ((ad 14).toNat : Int), .int .u8 ((ad 15).toNat : Int), .int .u8 ((ad 16).toNat : Int), .int .u8 ((ad 17).toNat : Int), .int .u8 ((ad 18).toNat : Int), .int .u8 ((ad 19).toNat : Int)])] (by kernel_rfl) (by kernel_rfl) rfl ?_
  refine GL.run (j := 13) 1 [1, 2, 4, 6, 8, 10, 12, 14, 15] [(1, pt p3 0), (2, pt p7 0), (4, .int .u8 (o.toNat : Int)), (6, .int .u8 (wh.toNat : Int)), (8, .int .u8 (t.toNat : Int)), (10, .int .u64 (am : Int)), (12, .int .u64 (id : Int)), (14, .agg #[.int .u8 ((ad 0).toNat : Int), .int .u8 ((ad 1).toNat : Int), .int .u8 ((ad 2).toNat : Int), .int .u8 ((ad 3).toNat : Int), .int .u8 ((ad 4).toNat : Int), .int .u8 ((ad 5).toNat : Int), .int .u8 ((ad 6).toNat : Int), .int .u8 ((ad 7).toNat : Int), .int .u8 ((ad 8).toNat : Int), .int .u8 ((ad 9).toNat : Int), .int .u8 ((ad 10).toNat : Int), .int .u8 ((ad 11).toNat : Int), .int .u8 ((ad 12).toNat : Int), .int .u8 ((ad 13).toNat : Int), .int .u8 ((ad 14).toNat : Int), .int .u8 ((ad 15).toNat : Int), .int .u8 ((ad 16).toNat : Int), .int .u8 ((ad 17).toNat : Int), .int .u8 ((ad 18).toNat : Int), .int .u8 ((ad 19).toNat : Int)]), (15, pt p3 25)] (by kernel_rfl) rfl ?_
  refine GL.sem (j := 14) (H10.ld (o := 25) (ty := 4) (v := .bool ag) 0 rfl (by kernel_rfl) rfl) [1, 2, 4, 6, 8, 10, 12, 14, 16] [(1, pt p3 0), (2, pt p7 0), (4, .int .u8 (o.toNat : Int)), (6, .int .u8 (wh.toNat : Int)), (8, .int .u8 (t.toNat : Int)), (10, .int .u64 (am : Int)), (12, .int .u64 (id : Int)), (14, .agg #[.int .u8 ((ad 0).toNat : Int), .int .u8 ((ad 1).toNat : Int), .int .u8 ((ad 2).toNat : Int), .int .u8 ((ad 3).toNat : Int), .int .u8 ((ad 4).toNat : Int), .int .u8 ((ad 5).toNat : Int), .int .u8 ((ad 6).toNat : Int), .int .u8 ((ad 7).toNat : Int), .int .u8 ((ad 8).toNat : Int), .int .u8 ((ad 9).toNat : Int), .int .u8 ((ad 10).toNat : Int), .int .u8 ((ad 11).toNat : Int), .int .u8 ((ad 12).toNat : Int), .int .u8 ((ad 13).toNat : Int), .int .u8 ((ad 14).toNat : Int), .int .u8 ((ad 15).toNat : Int), .int .u8 ((ad 16).toNat : Int), .int .u8 ((ad 17).toNat : Int), .int .u8 ((ad 18).toNat : Int), .int .u8 ((ad 19).toNat : Int)]), (16, .bool ag)] (by kernel_rfl) (by kernel_rfl) rfl ?_
  refine GL.run (j := 15) 1 [2, 4, 6, 8, 10, 12, 14, 16, 17] [(2, pt p7 0), (4, .int .u8 (o.toNat : Int)), (6, .int .u8 (wh.toNat : Int)), (8, .int .u8 (t.toNat : Int)), (10, .int .u64 (am : Int)), (12, .int .u64 (id : Int)), (14, .agg #[.int .u8 ((ad 0).toNat : Int), .int .u8 ((ad 1).toNat : Int), .int .u8 ((ad 2).toNat : Int), .int .u8 ((ad 3).toNat : Int), .int .u8 ((ad 4).toNat : Int), .int .u8 ((ad 5).toNat : Int), .int .u8 ((ad 6).toNat : Int), .int .u8 ((ad 7).toNat : Int), .int .u8 ((ad 8).toNat : Int), .int .u8 ((ad 9).toNat : Int), .int .u8 ((ad 10).toNat : Int), .int .u8 ((ad 11).toNat : Int), .int .u8 ((ad 12).toNat : Int), .int .u8 ((ad 13).toNat : Int), .int .u8 ((ad 14).toNat : Int), .int .u8 ((ad 15).toNat : Int), .int .u8 ((ad 16).toNat : Int), .int .u8 ((ad 17).toNat : Int), .int .u8 ((ad 18).toNat : Int), .int .u8 ((ad 19).toNat : Int)]), (16, .bool ag), (17, pt p3 26)] (by kernel_rfl) rfl ?_
  refine GL.sem (j := 16) (H10.ld (o := 26) (ty := 26) (v := .slice Bd bd.length bc) 0 rfl (by kernel_rfl) rfl) [2, 4, 6, 8, 10, 12, 14, 16, 18] [(2, pt p7 0), (4, .int .u8 (o.toNat : Int)), (6, .int .u8 (wh.toNat : Int)), (8, .int .u8 (t.toNat : Int)), (10, .int .u64 (am : Int)), (12, .int .u64 (id : Int)), (14, .agg #[.int .u8 ((ad 0).toNat : Int), .int .u8 ((ad 1).toNat : Int), .int .u8 ((ad 2).toNat : Int), .int .u8 ((ad 3).toNat : Int), .int .u8 ((ad 4).toNat : Int), .int .u8 ((ad 5).toNat : Int), .int .u8 ((ad 6).toNat : Int), .int .u8 ((ad 7).toNat : Int), .int .u8 ((ad 8).toNat : Int), .int .u8 ((ad 9).toNat : Int), .int .u8 ((ad 10).toNat : Int), .int .u8 ((ad 11).toNat : Int), .int .u8 ((ad 12).toNat : Int), .int .u8 ((ad 13).toNat : Int), .int .u8 ((ad 14).toNat : Int), .int .u8 ((ad 15).toNat : Int), .int .u8 ((ad 16).toNat : Int), .int .u8 ((ad 17).toNat : Int), .int .u8 ((ad 18).toNat : Int), .int .u8 ((ad 19).toNat : Int)]), (16, .bool ag), (18, .slice Bd bd.length bc)] (by kernel_rfl) (by kernel_rfl) rfl ?_
  refine GL.sem (j := 17) (run_toStr (P := Try.prog) (src := 26) (dst := 9) (A := Bd) (bs := bd) (n := bd.length) (c := bc) (by kernel_rfl) (by kernel_rfl) (hBd.hp H10) (rfl)) [2, 4, 6, 8, 10, 12, 14, 16, 19] [(2, pt p7 0), (4, .int .u8 (o.toNat : Int)), (6, .int .u8 (wh.toNat : Int)), (8, .int .u8 (t.toNat : Int)), (10, .int .u64 (am : Int)), (12, .int .u64 (id : Int)), (14, .agg #[.int .u8 ((ad 0).toNat : Int), .int .u8 ((ad 1).toNat : Int), .int .u8 ((ad 2).toNat : Int), .int .u8 ((ad 3).toNat : Int), .int .u8 ((ad 4).toNat : Int), .int .u8 ((ad 5).toNat : Int), .int .u8 ((ad 6).toNat : Int), .int .u8 ((ad 7).toNat : Int), .int .u8 ((ad 8).toNat : Int), .int .u8 ((ad 9).toNat : Int), .int .u8 ((ad 10).toNat : Int), .int .u8 ((ad 11).toNat : Int), .int .u8 ((ad 12).toNat : Int), .int .u8 ((ad 13).toNat : Int), .int .u8 ((ad 14).toNat : Int), .int .u8 ((ad 15).toNat : Int), .int .u8 ((ad 16).toNat : Int), .int .u8 ((ad 17).toNat : Int), .int .u8 ((ad 18).toNat : Int), .int .u8 ((ad 19).toNat : Int)]), (16, .bool ag), (19, .string (strOf bd))] (by kernel_rfl) (by kernel_rfl) rfl ?_
  refine GL.run (j := 18) 1 [2, 20] [(2, pt p7 0), (20, .agg #[.int .u8 (o.toNat : Int), .int .u8 (wh.toNat : Int), .int .u8 (t.toNat : Int), .int .u64 (am : Int), .int .u64 (id : Int), .int .u8 ((ad 0).toNat : Int), .int .u8 ((ad 1).toNat : Int), .int .u8 ((ad 2).toNat : Int), .int .u8 ((ad 3).toNat : Int), .int .u8 ((ad 4).toNat : Int), .int .u8 ((ad 5).toNat : Int), .int .u8 ((ad 6).toNat : Int), .int .u8 ((ad 7).toNat : Int), .int .u8 ((ad 8).toNat : Int), .int .u8 ((ad 9).toNat : Int), .int .u8 ((ad 10).toNat : Int), .int .u8 ((ad 11).toNat : Int), .int .u8 ((ad 12).toNat : Int), .int .u8 ((ad 13).toNat : Int), .int .u8 ((ad 14).toNat : Int), .int .u8 ((ad 15).toNat : Int), .int .u8 ((ad 16).toNat : Int), .int .u8 ((ad 17).toNat : Int), .int .u8 ((ad 18).toNat : Int), .int .u8 ((ad 19).toNat : Int), .bool ag, .string (strOf bd)])] (by kernel_rfl) rfl ?_
  obtain ⟨w13, r14, H15⟩ := H10.stA (P := Try.prog) (o := 0) (vs := [.int .u8 (o.toNat : Int), .int .u8 (wh.toNat : Int), .int .u8 (t.toNat : Int), .int .u64 (am : Int), .int .u64 (id : Int), .int .u8 ((ad 0).toNat : Int), .int .u8 ((ad 1).toNat : Int), .int .u8 ((ad 2).toNat : Int), .int .u8 ((ad 3).toNat : Int), .int .u8 ((ad 4).toNat : Int), .int .u8 ((ad 5).toNat : Int), .int .u8 ((ad 6).toNat : Int), .int .u8 ((ad 7).toNat : Int), .int .u8 ((ad 8).toNat : Int), .int .u8 ((ad 9).toNat : Int), .int .u8 ((ad 10).toNat : Int), .int .u8 ((ad 11).toNat : Int), .int .u8 ((ad 12).toNat : Int), .int .u8 ((ad 13).toNat : Int), .int .u8 ((ad 14).toNat : Int), .int .u8 ((ad 15).toNat : Int), .int .u8 ((ad 16).toNat : Int), .int .u8 ((ad 17).toNat : Int), .int .u8 ((ad 18).toNat : Int), .int .u8 ((ad 19).toNat : Int), .bool ag, .string (strOf bd)]) (ty := 34) (m := 27) 1 rfl (by kernel_rfl) rfl (by simp) (by simp [Value.oneCell'])
  have H15 : Hp w [] [.blk p3 [.int .u8 (o.toNat : Int), .int .u8 (wh.toNat : Int), .int .u8 (t.toNat : Int), .int .u64 (am : Int), .int .u64 (id : Int), .int .u8 ((ad 0).toNat : Int), .int .u8 ((ad 1).toNat : Int), .int .u8 ((ad 2).toNat : Int), .int .u8 ((ad 3).toNat : Int), .int .u8 ((ad 4).toNat : Int), .int .u8 ((ad 5).toNat : Int), .int .u8 ((ad 6).toNat : Int), .int .u8 ((ad 7).toNat : Int), .int .u8 ((ad 8).toNat : Int), .int .u8 ((ad 9).toNat : Int), .int .u8 ((ad 10).toNat : Int), .int .u8 ((ad 11).toNat : Int), .int .u8 ((ad 12).toNat : Int), .int .u8 ((ad 13).toNat : Int), .int .u8 ((ad 14).toNat : Int), .int .u8 ((ad 15).toNat : Int), .int .u8 ((ad 16).toNat : Int), .int .u8 ((ad 17).toNat : Int), .int .u8 ((ad 18).toNat : Int), .int .u8 ((ad 19).toNat : Int), .bool ag, .slice Bd bd.length bc] 28, .blk p7 [.int .u8 (o.toNat : Int), .int .u8 (wh.toNat : Int), .int .u8 (t.toNat : Int), .int .u64 (am : Int), .int .u64 (id : Int), .int .u8 ((ad 0).toNat : Int), .int .u8 ((ad 1).toNat : Int), .int .u8 ((ad 2).toNat : Int), .int .u8 ((ad 3).toNat : Int), .int .u8 ((ad 4).toNat : Int), .int .u8 ((ad 5).toNat : Int), .int .u8 ((ad 6).toNat : Int), .int .u8 ((ad 7).toNat : Int), .int .u8 ((ad 8).toNat : Int), .int .u8 ((ad 9).toNat : Int), .int .u8 ((ad 10).toNat : Int), .int .u8 ((ad 11).toNat : Int), .int .u8 ((ad 12).toNat : Int), .int .u8 ((ad 13).toNat : Int), .int .u8 ((ad 14).toNat : Int), .int .u8 ((ad 15).toNat : Int), .int .u8 ((ad 16).toNat : Int), .int .u8 ((ad 17).toNat : Int), .int .u8 ((ad 18).toNat : Int), .int .u8 ((ad 19).toNat : Int), .bool ag, .string (strOf bd)] 34] w13 := H15
  refine GL.semU (j := 19) r14 [2] [(2, pt p7 0)] (by kernel_rfl) rfl rfl rfl ?_
  refine GL.k rfl hK12 (fun _ _ h => h) ?_
  refine G.ret ?_
  intro F_ hF_ hM_
  refine hRet _ _ (bodyPost_1 rfl (RV.cell rfl (H15.ldA (o := 0) (ty := 34) (m := 27) (sub := [.int .u8 (o.toNat : Int), .int .u8 (wh.toNat : Int), .int .u8 (t.toNat : Int), .int .u64 (am : Int), .int .u64 (id : Int), .int .u8 ((ad 0).toNat : Int), .int .u8 ((ad 1).toNat : Int), .int .u8 ((ad 2).toNat : Int), .int .u8 ((ad 3).toNat : Int), .int .u8 ((ad 4).toNat : Int), .int .u8 ((ad 5).toNat : Int), .int .u8 ((ad 6).toNat : Int), .int .u8 ((ad 7).toNat : Int), .int .u8 ((ad 8).toNat : Int), .int .u8 ((ad 9).toNat : Int), .int .u8 ((ad 10).toNat : Int), .int .u8 ((ad 11).toNat : Int), .int .u8 ((ad 12).toNat : Int), .int .u8 ((ad 13).toNat : Int), .int .u8 ((ad 14).toNat : Int), .int .u8 ((ad 15).toNat : Int), .int .u8 ((ad 16).toNat : Int), .int .u8 ((ad 17).toNat : Int), .int .u8 ((ad 18).toNat : Int), .int .u8 ((ad 19).toNat : Int), .bool ag, .string (strOf bd)]) 1 rfl (by kernel_rfl) rfl rfl)) ?_ F_ hF_ hM_)
  exact ⟨rfl, H15.sub (List.nil_sublist _)⟩
theorem ref_same {x y : Operand} {o w t o' w' t' : UInt8} {am id am' id' : Nat} {ad ad' : Nat → UInt8} {ag ag' : Bool} {bd bd' : List UInt8} (ham : am < K) (hid : id < K) (ham' : am' < K) (hid' : id' < K) (hb : bd.length ≤ maxLen) (hb' : bd'.length ≤ maxLen) (W : World) :
    (do eqGuard .eql 34 x y (.agg (ref27 o w t am id ad ag (strOf bd)).toArray) (.agg (ref27 o' w' t' am' id' ad' ag' (strOf bd')).toArray); binOp .eql 34 (.agg (ref27 o w t am id ad ag (strOf bd)).toArray) (.agg (ref27 o' w' t' am' id' ad' ag' (strOf bd')).toArray) : Sem Value).run Try.prog W = .ok (.bool (sameC o w t am id ad ag bd o' w' t' am' id' ad' ag' bd')) W := by
  have hs : ∀ b : List UInt8, b.length ≤ maxLen → (strOf b).size ≤ maxLen := fun b h => by rw [strOf_size]; exact h
  have hd : ∀ b : List UInt8, (strOf b).data.toList = b := fun b => by simp [strOf]
  obtain ⟨r, h1, h2⟩ := run_deep_eql (P := Try.prog) (x := x) (y := y) (m := 3) (t := 34) (by kernel_rfl) (by decide) (by kernel_rfl) (by kernel_rfl) (ref_lits o w t am id ad ag (strOf bd) ham hid (hs _ hb)) (ref_lits o' w' t' am' id' ad' ag' (strOf bd') ham' hid' (hs _ hb')) W
  rw [hd, hd] at h2
  rw [h1, show r = sameC o w t am id ad ag bd o' w' t' am' id' ad' ag' bd' from Bool.eq_iff_iff.2 (h2.trans refL_inj)]
end Go.Proofs.Ytkfhcogdpmndkaa
