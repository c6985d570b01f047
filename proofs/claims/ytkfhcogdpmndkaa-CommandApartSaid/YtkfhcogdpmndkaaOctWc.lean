/- Package octet: counts, raw bytes, written; nothing to write into. -/
import Derived.Test.YtkfhcogdpmndkaaOctW
import Derived.Test.YtkfhcogdpmndkaaOctR
import Derived.Test.YtkfhcogdpmndkaaOc
namespace Go.Proofs.Ytkfhcogdpmndkaa
open Go.RowKit
theorem CountSize_calls (x : Nat) (w : World) : Calls Try.prog 39 #[.int .u64 (x : Int)] w fun e w' => e = .returned (.int .i64 ((cntSz x : Nat) : Int)) ∧ Hp w [] [] w' := by
  refine calls_G (args := [.int .u64 (x : Int)]) Try.func39 rfl Try.ntmps39 rfl ?_
  intro Q0 hRet hNor hPan
  have H := Hp.start w
  have H : Hp w [] [] w := H
  refine G.seqK fun K1 hK2 => ?_
  refine G.region ?_
  refine GL.run (j := 1) 1 [0] [(0, .int .u64 (x : Int))] (by kernel_rfl) rfl ?_
  refine GL.k rfl hK2 (fun _ _ h => h) ?_
  refine G.seqK fun K3 hK4 => ?_
  refine G.block ?_
  refine G.seqK fun K5 hK6 => ?_
  refine G.region ?_
  refine GL.run (j := 3) 3 [0, 3] [(0, .int .u64 (x : Int)), (3, .bool (decide ((x : Int) < 253)))] (by kernel_rfl) rfl ?_
  refine GL.k rfl hK6 (fun _ _ h => h) ?_
  cases hb7 : (decide ((x : Int) < 253))
  · skip
    have hb7f := of_decide_eq_false hb7
    refine G.no rfl ?_
    refine G.seqK fun K8 hK9 => ?_
    refine G.region ?_
    refine GL.run (j := 3) 3 [0, 6] [(0, .int .u64 (x : Int)), (6, .bool (decide ((x : Int) < 65536)))] (by kernel_rfl) rfl ?_
    refine GL.k rfl hK9 (fun _ _ h => h) ?_
    cases hb10 : (decide ((x : Int) < 65536))
    · skip
      have hb10f := of_decide_eq_false hb10
      refine G.no rfl ?_
      refine G.seqK fun K11 hK12 => ?_
      refine G.region ?_
      refine GL.run (j := 3) 3 [9] [(9, .bool (decide ((x : Int) < 4294967296)))] (by kernel_rfl) rfl ?_
      refine GL.k rfl hK12 (fun _ _ h => h) ?_
      cases hb13 : (decide ((x : Int) < 4294967296))
      · skip
        have hb13f := of_decide_eq_false hb13
        refine G.no rfl ?_
        refine G.skipK hK4 (fun _ _ h => h) ?_
        refine G.seqK fun K14 hK15 => ?_
        refine G.region ?_
        refine GL.run (j := 1) 1 [2] [(2, .int .i64 9)] (by kernel_rfl) rfl ?_
        refine GL.k rfl hK15 (fun _ _ h => h) ?_
        refine G.ret ?_
        intro F_ hF_ hM_
        refine hRet _ _ (bodyPost_1 rfl (RV.tmp rfl) ?_ F_ hF_ hM_)
        have e0 : cntSz x = 9 := by unfold cntSz; (repeat' split) <;> omega
        rw [e0]
        exact ⟨rfl, H.sub (List.nil_sublist _)⟩
      · skip
        have hb13f := of_decide_eq_true hb13
        refine G.yes rfl ?_
        refine G.seqK fun K16 hK17 => ?_
        refine G.region ?_
        refine GL.run (j := 1) 1 [2] [(2, .int .i64 5)] (by kernel_rfl) rfl ?_
        refine GL.k rfl hK17 (fun _ _ h => h) ?_
        refine G.ret ?_
        intro F_ hF_ hM_
        refine hRet _ _ (bodyPost_1 rfl (RV.tmp rfl) ?_ F_ hF_ hM_)
        have e0 : cntSz x = 5 := by unfold cntSz; (repeat' split) <;> omega
        rw [e0]
        exact ⟨rfl, H.sub (List.nil_sublist _)⟩
    · skip
      have hb10f := of_decide_eq_true hb10
      refine G.yes rfl ?_
      refine G.seqK fun K18 hK19 => ?_
      refine G.region ?_
      refine GL.run (j := 1) 1 [2] [(2, .int .i64 3)] (by kernel_rfl) rfl ?_
      refine GL.k rfl hK19 (fun _ _ h => h) ?_
      refine G.ret ?_
      intro F_ hF_ hM_
      refine hRet _ _ (bodyPost_1 rfl (RV.tmp rfl) ?_ F_ hF_ hM_)
      have e0 : cntSz x = 3 := by unfold cntSz; (repeat' split) <;> omega
      rw [e0]
      exact ⟨rfl, H.sub (List.nil_sublist _)⟩
  · skip
    have hb7f := of_decide_eq_true hb7
    refine G.yes rfl ?_
    refine G.seqK fun K20 hK21 => ?_
    refine G.region ?_
    refine GL.run (j := 1) 1 [2] [(2, .int .i64 1)] (by kernel_rfl) rfl ?_
    refine GL.k rfl hK21 (fun _ _ h => h) ?_
    refine G.ret ?_
    intro F_ hF_ hM_
    refine hRet _ _ (bodyPost_1 rfl (RV.tmp rfl) ?_ F_ hF_ hM_)
    have e0 : cntSz x = 1 := by unfold cntSz; (repeat' split) <;> omega
    rw [e0]
    exact ⟨rfl, H.sub (List.nil_sublist _)⟩
theorem WCount_calls (S : List Nat) (p : Nat) (A : Option Addr) (n c : Nat) (bs : List UInt8) (x : Nat) (w : World) (h0 : Hp w S [.blk p [.slice A n c] 53, .row A n c 5 1 (by8 bs)] w) (hn : n ≤ 900000) : Calls Try.prog 33 #[pt p 0, .int .u64 (x : Int)] w fun e w' => ∃ A c, e = .returned (.tuple #[]) ∧ Hp w S [.blk p [.slice A (n + cntSz x) c] 53, .row A (n + cntSz x) c 5 1 (by8 (bs ++ cnt x))] w' := by
  have hc9 := cntSz_le x
  refine calls_G (args := [pt p 0, .int .u64 (x : Int)]) Try.func33 rfl Try.ntmps33 rfl ?_
  intro Q0 hRet hNor hPan
  have H := h0
  have H : Hp w S [.blk p [.slice A n c] 53, .row A n c 5 1 (by8 bs)] w := H
  refine G.seqK fun K1 hK2 => ?_
  refine G.region ?_
  refine GL.run (j := 1) 1 [0, 1, 4] [(0, pt p 0), (1, .int .u64 (x : Int)), (4, .int .u64 (x : Int))] (by kernel_rfl) rfl ?_
  refine GL.call (j := 2) (CountSize_calls x w) (by kernel_rfl) rfl (fun e_ w3 hR => ?_)
  obtain ⟨rfl, H5⟩ := hR
  have H4 : Hp w S [.blk p [.slice A n c] 53, .row A n c 5 1 (by8 bs)] w3 := H.callNil H5
  refine ⟨_, rfl, [0, 1, 5], [(0, pt p 0), (1, .int .u64 (x : Int)), (5, .int .i64 (((cntSz x) : Nat) : Int))], by kernel_rfl, ?_⟩
  refine GL.k rfl hK2 (fun _ _ h => h) ?_
  refine G.block ?_
  refine G.seqK fun K6 hK7 => ?_
  refine G.region ?_
  refine GL.run (j := 2) 2 [0, 1, 5, 11] [(0, pt p 0), (1, .int .u64 (x : Int)), (5, .int .i64 (((cntSz x) : Nat) : Int)), (11, .bool ((((cntSz x) : Nat) : Int) == 1))] (by kernel_rfl) rfl ?_
  refine GL.k rfl hK7 (fun _ _ h => h) ?_
  cases hb8 : ((((cntSz x) : Nat) : Int) == 1)
  · skip
    have hb8f := ne_of_beq_false hb8
    refine G.no rfl ?_
    refine G.seqK fun K9 hK10 => ?_
    refine G.region ?_
    refine GL.run (j := 2) 2 [0, 1, 5, 16] [(0, pt p 0), (1, .int .u64 (x : Int)), (5, .int .i64 (((cntSz x) : Nat) : Int)), (16, .bool ((((cntSz x) : Nat) : Int) == 3))] (by kernel_rfl) rfl ?_
    refine GL.k rfl hK10 (fun _ _ h => h) ?_
    cases hb11 : ((((cntSz x) : Nat) : Int) == 3)
    · skip
      have hb11f := ne_of_beq_false hb11
      refine G.no rfl ?_
      refine G.seqK fun K12 hK13 => ?_
      refine G.region ?_
      refine GL.run (j := 2) 2 [0, 1, 23] [(0, pt p 0), (1, .int .u64 (x : Int)), (23, .bool ((((cntSz x) : Nat) : Int) == 5))] (by kernel_rfl) rfl ?_
      refine GL.k rfl hK13 (fun _ _ h => h) ?_
      cases hb14 : ((((cntSz x) : Nat) : Int) == 5)
      · skip
        have hb14f := ne_of_beq_false hb14
        refine G.no rfl ?_
        refine G.seqK fun K15 hK16 => ?_
        refine G.region ?_
        refine GL.run (j := 1) 1 [0, 1, 6] [(0, pt p 0), (1, .int .u64 (x : Int)), (6, pt p 0)] (by kernel_rfl) rfl ?_
        refine GL.call (j := 2) (Put1_calls (ids [.blk p [.slice A n c] 53, .row A n c 5 1 (by8 bs)]) p A n c bs 255 w3 (Hp.startL (A := [.blk p [.slice A n c] 53, .row A n c 5 1 (by8 bs)]) (B := []) H4) (by omega)) (by kernel_rfl) rfl (fun e_ w19 hR => ?_)
        obtain ⟨A17, c18, rfl, H21⟩ := hR
        have H20 : Hp w S [.blk p [.slice A17 (n + 1) c18] 53, .row A17 (n + 1) c18 5 1 (by8 (bs ++ (putB 255 1)))] w19 := Hp.callL (A := [.blk p [.slice A n c] 53, .row A n c 5 1 (by8 bs)]) (B := []) H4 H21
        refine ⟨_, rfl, [0, 1], [(0, pt p 0), (1, .int .u64 (x : Int))], by kernel_rfl, ?_⟩
        refine GL.k rfl hK16 (fun _ _ h => h) ?_
        refine G.region ?_
        refine GL.run (j := 2) 2 [8, 9] [(8, pt p 0), (9, .int .u64 (x : Int))] (by kernel_rfl) rfl ?_
        refine GL.call (j := 3) (Put8_calls (ids [.blk p [.slice A17 (n + 1) c18] 53, .row A17 (n + 1) c18 5 1 (by8 (bs ++ (putB 255 1)))]) p A17 (n + 1) c18 (bs ++ (putB 255 1)) x w19 (Hp.startL (A := [.blk p [.slice A17 (n + 1) c18] 53, .row A17 (n + 1) c18 5 1 (by8 (bs ++ (putB 255 1)))]) (B := []) H20) (by omega)) (by kernel_rfl) rfl (fun e_ w24 hR => ?_)
        obtain ⟨A22, c23, rfl, H26⟩ := hR
        have H25 : Hp w S [.blk p [.slice A22 ((n + 1) + 8) c23] 53, .row A22 ((n + 1) + 8) c23 5 1 (by8 ((bs ++ (putB 255 1)) ++ (putB x 8)))] w24 := Hp.callL (A := [.blk p [.slice A17 (n + 1) c18] 53, .row A17 (n + 1) c18 5 1 (by8 (bs ++ (putB 255 1)))]) (B := []) H20 H26
        refine ⟨_, rfl, [], [], by kernel_rfl, ?_⟩
        refine GL.done rfl ?_
        intro F_ hF_ hM_
        refine hNor _ _ (bodyPost_0 rfl  ?_ F_ hF_ hM_)
        have e0 : cntSz x = 9 ∧ cnt x = putB 255 1 ++ putB x 8 := by rcases cnt_cases x with ⟨_, a, b⟩ | ⟨_, _, a, b⟩ | ⟨_, _, a, b⟩ | ⟨_, a, b⟩ <;> first | exact ⟨a, b⟩ | (exfalso; omega)
        have HF := H25
        rw [List.append_assoc] at HF
        rw [e0.1, e0.2]
        exact ⟨_, _, rfl, HF⟩
      · skip
        have hb14f := eq_of_beq hb14
        refine G.yes rfl ?_
        refine G.seqK fun K27 hK28 => ?_
        refine G.region ?_
        refine GL.run (j := 1) 1 [0, 1, 25] [(0, pt p 0), (1, .int .u64 (x : Int)), (25, pt p 0)] (by kernel_rfl) rfl ?_
        refine GL.call (j := 2) (Put1_calls (ids [.blk p [.slice A n c] 53, .row A n c 5 1 (by8 bs)]) p A n c bs 254 w3 (Hp.startL (A := [.blk p [.slice A n c] 53, .row A n c 5 1 (by8 bs)]) (B := []) H4) (by omega)) (by kernel_rfl) rfl (fun e_ w31 hR => ?_)
        obtain ⟨A29, c30, rfl, H33⟩ := hR
        have H32 : Hp w S [.blk p [.slice A29 (n + 1) c30] 53, .row A29 (n + 1) c30 5 1 (by8 (bs ++ (putB 254 1)))] w31 := Hp.callL (A := [.blk p [.slice A n c] 53, .row A n c 5 1 (by8 bs)]) (B := []) H4 H33
        refine ⟨_, rfl, [0, 1], [(0, pt p 0), (1, .int .u64 (x : Int))], by kernel_rfl, ?_⟩
        refine GL.k rfl hK28 (fun _ _ h => h) ?_
        refine G.region ?_
        refine GL.run (j := 2) 2 [27, 28] [(27, pt p 0), (28, .int .u64 (x : Int))] (by kernel_rfl) rfl ?_
        refine GL.call (j := 3) (Put4_calls (ids [.blk p [.slice A29 (n + 1) c30] 53, .row A29 (n + 1) c30 5 1 (by8 (bs ++ (putB 254 1)))]) p A29 (n + 1) c30 (bs ++ (putB 254 1)) x w31 (Hp.startL (A := [.blk p [.slice A29 (n + 1) c30] 53, .row A29 (n + 1) c30 5 1 (by8 (bs ++ (putB 254 1)))]) (B := []) H32) (by omega)) (by kernel_rfl) rfl (fun e_ w36 hR => ?_)
        obtain ⟨A34, c35, rfl, H38⟩ := hR
        have H37 : Hp w S [.blk p [.slice A34 ((n + 1) + 4) c35] 53, .row A34 ((n + 1) + 4) c35 5 1 (by8 ((bs ++ (putB 254 1)) ++ (putB x 4)))] w36 := Hp.callL (A := [.blk p [.slice A29 (n + 1) c30] 53, .row A29 (n + 1) c30 5 1 (by8 (bs ++ (putB 254 1)))]) (B := []) H32 H38
        refine ⟨_, rfl, [], [], by kernel_rfl, ?_⟩
        refine GL.done rfl ?_
        intro F_ hF_ hM_
        refine hNor _ _ (bodyPost_0 rfl  ?_ F_ hF_ hM_)
        have e0 : cntSz x = 5 ∧ cnt x = putB 254 1 ++ putB x 4 := by rcases cnt_cases x with ⟨_, a, b⟩ | ⟨_, _, a, b⟩ | ⟨_, _, a, b⟩ | ⟨_, a, b⟩ <;> first | exact ⟨a, b⟩ | (exfalso; omega)
        have HF := H37
        rw [List.append_assoc] at HF
        rw [e0.1, e0.2]
        exact ⟨_, _, rfl, HF⟩
    · skip
      have hb11f := eq_of_beq hb11
      refine G.yes rfl ?_
      refine G.seqK fun K39 hK40 => ?_
      refine G.region ?_
      refine GL.run (j := 1) 1 [0, 1, 18] [(0, pt p 0), (1, .int .u64 (x : Int)), (18, pt p 0)] (by kernel_rfl) rfl ?_
      refine GL.call (j := 2) (Put1_calls (ids [.blk p [.slice A n c] 53, .row A n c 5 1 (by8 bs)]) p A n c bs 253 w3 (Hp.startL (A := [.blk p [.slice A n c] 53, .row A n c 5 1 (by8 bs)]) (B := []) H4) (by omega)) (by kernel_rfl) rfl (fun e_ w43 hR => ?_)
      obtain ⟨A41, c42, rfl, H45⟩ := hR
      have H44 : Hp w S [.blk p [.slice A41 (n + 1) c42] 53, .row A41 (n + 1) c42 5 1 (by8 (bs ++ (putB 253 1)))] w43 := Hp.callL (A := [.blk p [.slice A n c] 53, .row A n c 5 1 (by8 bs)]) (B := []) H4 H45
      refine ⟨_, rfl, [0, 1], [(0, pt p 0), (1, .int .u64 (x : Int))], by kernel_rfl, ?_⟩
      refine GL.k rfl hK40 (fun _ _ h => h) ?_
      refine G.region ?_
      refine GL.run (j := 2) 2 [20, 21] [(20, pt p 0), (21, .int .u64 (x : Int))] (by kernel_rfl) rfl ?_
      refine GL.call (j := 3) (Put2_calls (ids [.blk p [.slice A41 (n + 1) c42] 53, .row A41 (n + 1) c42 5 1 (by8 (bs ++ (putB 253 1)))]) p A41 (n + 1) c42 (bs ++ (putB 253 1)) x w43 (Hp.startL (A := [.blk p [.slice A41 (n + 1) c42] 53, .row A41 (n + 1) c42 5 1 (by8 (bs ++ (putB 253 1)))]) (B := []) H44) (by omega)) (by kernel_rfl) rfl (fun e_ w48 hR => ?_)
      obtain ⟨A46, c47, rfl, H50⟩ := hR
      have H49 : Hp w S [.blk p [.slice A46 ((n + 1) + 2) c47] 53, .row A46 ((n + 1) + 2) c47 5 1 (by8 ((bs ++ (putB 253 1)) ++ (putB x 2)))] w48 := Hp.callL (A := [.blk p [.slice A41 (n + 1) c42] 53, .row A41 (n + 1) c42 5 1 (by8 (bs ++ (putB 253 1)))]) (B := []) H44 H50
      refine ⟨_, rfl, [], [], by kernel_rfl, ?_⟩
      refine GL.done rfl ?_
      intro F_ hF_ hM_
      refine hNor _ _ (bodyPost_0 rfl  ?_ F_ hF_ hM_)
      have e0 : cntSz x = 3 ∧ cnt x = putB 253 1 ++ putB x 2 := by rcases cnt_cases x with ⟨_, a, b⟩ | ⟨_, _, a, b⟩ | ⟨_, _, a, b⟩ | ⟨_, a, b⟩ <;> first | exact ⟨a, b⟩ | (exfalso; omega)
      have HF := H49
      rw [List.append_assoc] at HF
      rw [e0.1, e0.2]
      exact ⟨_, _, rfl, HF⟩
  · skip
    have hb8f := eq_of_beq hb8
    refine G.yes rfl ?_
    refine G.region ?_
    refine GL.run (j := 2) 2 [13, 14] [(13, pt p 0), (14, .int .u64 (x : Int))] (by kernel_rfl) rfl ?_
    refine GL.call (j := 3) (Put1_calls (ids [.blk p [.slice A n c] 53, .row A n c 5 1 (by8 bs)]) p A n c bs x w3 (Hp.startL (A := [.blk p [.slice A n c] 53, .row A n c 5 1 (by8 bs)]) (B := []) H4) (by omega)) (by kernel_rfl) rfl (fun e_ w53 hR => ?_)
    obtain ⟨A51, c52, rfl, H55⟩ := hR
    have H54 : Hp w S [.blk p [.slice A51 (n + 1) c52] 53, .row A51 (n + 1) c52 5 1 (by8 (bs ++ (putB x 1)))] w53 := Hp.callL (A := [.blk p [.slice A n c] 53, .row A n c 5 1 (by8 bs)]) (B := []) H4 H55
    refine ⟨_, rfl, [], [], by kernel_rfl, ?_⟩
    refine GL.done rfl ?_
    intro F_ hF_ hM_
    refine hNor _ _ (bodyPost_0 rfl  ?_ F_ hF_ hM_)
    have e0 : cntSz x = 1 ∧ cnt x = putB x 1 := by rcases cnt_cases x with ⟨_, a, b⟩ | ⟨_, _, a, b⟩ | ⟨_, _, a, b⟩ | ⟨_, a, b⟩ <;> first | exact ⟨a, b⟩ | (exfalso; omega)
    have HF := H54
    rw [e0.1, e0.2]
    exact ⟨_, _, rfl, HF⟩
theorem WRaw_calls (S : List Nat) (p : Nat) (A : Option Addr) (n c : Nat) (bs : List UInt8) (B : Option Addr) (m d : Nat) (ys : List UInt8) (w : World) (h0 : Hp w S [.blk p [.slice A n c] 53, .row A n c 5 1 (by8 bs)] w) (hn : n ≤ 1000000) (hx : RdO w S B (by8 ys)) (hm : m = ys.length) (hmb : m ≤ 100000) : Calls Try.prog 20 #[pt p 0, .slice B m d] w fun e w' => ∃ A c, e = .returned (.tuple #[]) ∧ Hp w S [.blk p [.slice A (n + m) c] 53, .row A (n + m) c 5 1 (by8 (bs ++ ys))] w' := by
  refine calls_G (args := [pt p 0, .slice B m d]) Try.func20 rfl Try.ntmps20 rfl ?_
  intro Q0 hRet hNor hPan
  have H := h0
  have H : Hp w S [.blk p [.slice A n c] 53, .row A n c 5 1 (by8 bs)] w := H
  refine G.seqK fun K1 hK2 => ?_
  refine G.region ?_
  refine GL.run (j := 2) 2 [0, 1, 5] [(0, pt p 0), (1, .slice B m d), (5, .bool true)] (by kernel_rfl) rfl ?_
  refine GL.k rfl hK2 (fun _ _ h => h) ?_
  refine G.yes rfl ?_
  refine G.region ?_
  refine GL.run (j := 4) 4 [1, 6, 9] [(1, .slice B m d), (6, pt p 0), (9, pt p 0)] (by kernel_rfl) rfl ?_
  refine GL.sem (j := 5) (H.ld (o := 0) (ty := 26) (v := .slice A n c) 0 rfl (by kernel_rfl) rfl) [1, 6, 10] [(1, .slice B m d), (6, pt p 0), (10, .slice A n c)] (by kernel_rfl) (by kernel_rfl) rfl ?_
  refine GL.run (j := 6) 1 [6, 10, 11] [(6, pt p 0), (10, .slice A n c), (11, .slice B m d)] (by kernel_rfl) rfl ?_
  obtain ⟨A3, c4, w5, r6, H7⟩ := H.append (P := Try.prog) (e := 5) (sz := 1) (by_ := 1) (n := n) (c := c) (m := m) (d := d) (t := 26) (ty := 26) (xs := by8 bs) (news := by8 ys) 1 rfl (by kernel_rfl) (hx.hp H) (by first | (simp [by8_length]; done) | (rw [by8_length]; omega) | (rw [by8_length, putB_length])) (by8_one _) (by omega) (by simp only [maxLen]; omega)
  rw [← by8_append] at H7
  have H7 : Hp w S [.blk p [.slice A n c] 53, .row A3 (n + m) c4 5 1 (by8 (bs ++ ys))] w5 := H7
  refine GL.sem (j := 7) (r6) [6, 12] [(6, pt p 0), (12, .slice A3 (n + m) c4)] (by kernel_rfl) (by kernel_rfl) rfl ?_
  refine GL.run (j := 9) 2 [12, 14] [(12, .slice A3 (n + m) c4), (14, pt p 0)] (by kernel_rfl) rfl ?_
  obtain ⟨w8, r9, H10⟩ := H7.st (P := Try.prog) (o := 0) (ty := 26) (v := .slice A3 (n + m) c4) 0 rfl (by kernel_rfl) (by simp) rfl
  have H10 : Hp w S [.blk p [.slice A3 (n + m) c4] 53, .row A3 (n + m) c4 5 1 (by8 (bs ++ ys))] w8 := H10
  refine GL.semU (j := 10) r9 [] [] (by kernel_rfl) rfl rfl rfl ?_
  refine GL.done rfl ?_
  intro F_ hF_ hM_
  refine hNor _ _ (bodyPost_0 rfl  ?_ F_ hF_ hM_)
  exact ⟨_, _, rfl, H10⟩
theorem WCounted_calls (S : List Nat) (p : Nat) (A : Option Addr) (n c : Nat) (bs : List UInt8) (B : Option Addr) (m d : Nat) (ys : List UInt8) (w : World) (h0 : Hp w S [.blk p [.slice A n c] 53, .row A n c 5 1 (by8 bs)] w) (hn : n ≤ 800000) (hx : RdO w S B (by8 ys)) (hm : m = ys.length) (hmb : m ≤ 100000) : Calls Try.prog 21 #[pt p 0, .slice B m d] w fun e w' => ∃ A c, e = .returned (.tuple #[]) ∧ Hp w S [.blk p [.slice A (n + (cntSz m + m)) c] 53, .row A (n + (cntSz m + m)) c 5 1 (by8 (bs ++ (cnt m ++ ys)))] w' := by
  refine calls_G (args := [pt p 0, .slice B m d]) Try.func21 rfl Try.ntmps21 rfl ?_
  intro Q0 hRet hNor hPan
  have H := h0
  have H : Hp w S [.blk p [.slice A n c] 53, .row A n c 5 1 (by8 bs)] w := H
  refine G.seqK fun K1 hK2 => ?_
  refine G.region ?_
  refine GL.run (j := 4) 4 [0, 1, 4, 7] [(0, pt p 0), (1, .slice B m d), (4, pt p 0), (7, .int .u64 (IntKind.u64.wrap (m : Int)))] (by kernel_rfl) rfl ?_
  have e3 : (IntKind.u64.wrap (m : Int)) = (m : Int) := in_u64 (by omega)
  refine GL.eq (M' := [(0, pt p 0), (1, .slice B m d), (4, pt p 0), (7, .int .u64 (m : Int))]) (by rw [e3]) ?_
  clear e3
  have hcA4 := cntSz_le m
  refine GL.call (j := 5) (WCount_calls (ids [.blk p [.slice A n c] 53, .row A n c 5 1 (by8 bs)]) p A n c bs m w (Hp.startL (A := [.blk p [.slice A n c] 53, .row A n c 5 1 (by8 bs)]) (B := []) H) (by omega)) (by kernel_rfl) rfl (fun e_ w6 hR => ?_)
  obtain ⟨A4, c5, rfl, H8⟩ := hR
  have H7 : Hp w S [.blk p [.slice A4 (n + cntSz m) c5] 53, .row A4 (n + cntSz m) c5 5 1 (by8 (bs ++ cnt m))] w6 := Hp.callL (A := [.blk p [.slice A n c] 53, .row A n c 5 1 (by8 bs)]) (B := []) H H8
  refine ⟨_, rfl, [0, 1], [(0, pt p 0), (1, .slice B m d)], by kernel_rfl, ?_⟩
  refine GL.k rfl hK2 (fun _ _ h => h) ?_
  refine G.region ?_
  refine GL.run (j := 2) 2 [9, 10] [(9, pt p 0), (10, .slice B m d)] (by kernel_rfl) rfl ?_
  refine GL.call (j := 3) (WRaw_calls (ids [.blk p [.slice A4 (n + cntSz m) c5] 53, .row A4 (n + cntSz m) c5 5 1 (by8 (bs ++ cnt m))]) p A4 (n + cntSz m) c5 (bs ++ cnt m) B m d ys w6 (Hp.startL (A := [.blk p [.slice A4 (n + cntSz m) c5] 53, .row A4 (n + cntSz m) c5 5 1 (by8 (bs ++ cnt m))]) (B := []) H7) (by omega) (RdO.mid (A' := [.blk p [.slice A4 (n + cntSz m) c5] 53, .row A4 (n + cntSz m) c5 5 1 (by8 (bs ++ cnt m))]) (B' := []) hx H7) (by omega) (by omega)) (by kernel_rfl) rfl (fun e_ w11 hR => ?_)
  obtain ⟨A9, c10, rfl, H13⟩ := hR
  have H12 : Hp w S [.blk p [.slice A9 ((n + cntSz m) + m) c10] 53, .row A9 ((n + cntSz m) + m) c10 5 1 (by8 ((bs ++ cnt m) ++ ys))] w11 := Hp.callL (A := [.blk p [.slice A4 (n + cntSz m) c5] 53, .row A4 (n + cntSz m) c5 5 1 (by8 (bs ++ cnt m))]) (B := []) H7 H13
  refine ⟨_, rfl, [], [], by kernel_rfl, ?_⟩
  refine GL.done rfl ?_
  intro F_ hF_ hM_
  refine hNor _ _ (bodyPost_0 rfl  ?_ F_ hF_ hM_)
  have HF := H12
  rw [List.append_assoc, Nat.add_assoc] at HF
  exact ⟨_, _, rfl, HF⟩
/-- A number, in so many bytes, if there may be so many. -/
def rightS (s : Int) : Prop := s = 1 ∨ s = 2 ∨ s = 4 ∨ s = 8
def putS (x : Nat) (s : Int) : List UInt8 := if s = 1 then putB x 1 else if s = 2 then putB x 2 else if s = 4 then putB x 4 else if s = 8 then putB x 8 else []
theorem putS_len (x : Nat) (s : Int) : (putS x s).length ≤ 8 := by
  unfold putS
  repeat' split
  all_goals simp [putB_length]
theorem putS_right {x : Nat} {s : Int} (h : rightS s) : putS x s = putB x s.toNat ∧ (putS x s).length = s.toNat := by
  rcases h with h | h | h | h <;> subst h <;> exact ⟨rfl, putB_length _ _⟩
theorem putS_not {x : Nat} {s : Int} (h : ¬ rightS s) : putS x s = [] := by
  unfold rightS at h
  unfold putS
  rw [if_neg (by omega), if_neg (by omega), if_neg (by omega), if_neg (by omega)]
theorem Put_other (S : List Nat) (p : Nat) (A : Option Addr) (n c : Nat) (bs : List UInt8) (x : Nat) (s : Int) (w : World) (h0 : Hp w S [.blk p [.slice A n c] 53, .row A n c 5 1 (by8 bs)] w) (hs : ¬ (s = 1 ∨ s = 2 ∨ s = 4 ∨ s = 8)) : Calls Try.prog 19 #[pt p 0, .int .u64 (x : Int), .int .i64 s] w fun e w' => ∃ A c, e = .returned (.tuple #[]) ∧ Hp w S [.blk p [.slice A n c] 53, .row A n c 5 1 (by8 bs)] w' := by
  refine calls_G (args := [pt p 0, .int .u64 (x : Int), .int .i64 s]) Try.func19 rfl Try.ntmps19 rfl ?_
  intro Q0 hRet hNor hPan
  have H := h0
  have H : Hp w S [.blk p [.slice A n c] 53, .row A n c 5 1 (by8 bs)] w := H
  refine G.seqK fun K1 hK2 => ?_
  refine G.seqK fun K3 hK4 => ?_
  refine G.region ?_
  refine GL.run (j := 2) 2 [0, 1, 2, 7] [(0, pt p 0), (1, .int .u64 (x : Int)), (2, .int .i64 s), (7, .bool false)] (by kernel_rfl) rfl ?_
  refine GL.k rfl hK4 (fun _ _ h => h) ?_
  refine G.no rfl ?_
  refine G.skipK hK2 (fun _ _ h => h) ?_
  refine G.seqK fun K5 hK6 => ?_
  refine G.region ?_
  refine GL.run (j := 1) 1 [0, 1, 2, 8] [(0, pt p 0), (1, .int .u64 (x : Int)), (2, .int .i64 s), (8, .int .i64 s)] (by kernel_rfl) rfl ?_
  refine GL.k rfl hK6 (fun _ _ h => h) ?_
  refine G.block ?_
  refine G.seqK fun K7 hK8 => ?_
  refine G.seqK fun K9 hK10 => ?_
  refine G.region ?_
  refine GL.run (j := 2) 2 [0, 1, 2, 8, 9] [(0, pt p 0), (1, .int .u64 (x : Int)), (2, .int .i64 s), (8, .int .i64 s), (9, .bool (s == 1))] (by kernel_rfl) rfl ?_
  refine GL.k rfl hK10 (fun _ _ h => h) ?_
  have hb11 : (s == 1) = false := beq_eq_false_iff_ne.2 (by omega)
  rw [hb11]
  refine G.no rfl ?_
  refine G.seqK fun K12 hK13 => ?_
  refine G.region ?_
  refine GL.run (j := 2) 2 [0, 1, 2, 8, 9] [(0, pt p 0), (1, .int .u64 (x : Int)), (2, .int .i64 s), (8, .int .i64 s), (9, .bool (s == 2))] (by kernel_rfl) rfl ?_
  refine GL.k rfl hK13 (fun _ _ h => h) ?_
  have hb14 : (s == 2) = false := beq_eq_false_iff_ne.2 (by omega)
  rw [hb14]
  refine G.no rfl ?_
  refine G.seqK fun K15 hK16 => ?_
  refine G.region ?_
  refine GL.run (j := 2) 2 [0, 1, 2, 8, 9] [(0, pt p 0), (1, .int .u64 (x : Int)), (2, .int .i64 s), (8, .int .i64 s), (9, .bool (s == 4))] (by kernel_rfl) rfl ?_
  refine GL.k rfl hK16 (fun _ _ h => h) ?_
  have hb17 : (s == 4) = false := beq_eq_false_iff_ne.2 (by omega)
  rw [hb17]
  refine G.no rfl ?_
  refine G.region ?_
  refine GL.run (j := 2) 2 [0, 1, 2, 9] [(0, pt p 0), (1, .int .u64 (x : Int)), (2, .int .i64 s), (9, .bool (s == 8))] (by kernel_rfl) rfl ?_
  refine GL.k rfl hK8 (fun _ _ h => h) ?_
  have hb18 : (s == 8) = false := beq_eq_false_iff_ne.2 (by omega)
  rw [hb18]
  refine G.no rfl ?_
  refine G.skipDone ?_
  intro F_ hF_ hM_
  refine hNor _ _ (bodyPost_0 rfl  ?_ F_ hF_ hM_)
  exact ⟨A, c, rfl, H⟩
theorem Put_calls (S : List Nat) (p : Nat) (A : Option Addr) (n c : Nat) (bs : List UInt8) (x : Nat) (s : Int) (w : World) (h0 : Hp w S [.blk p [.slice A n c] 53, .row A n c 5 1 (by8 bs)] w) (hn : n ≤ 1000000) : Calls Try.prog 19 #[pt p 0, .int .u64 (x : Int), .int .i64 s] w fun e w' => ∃ A c, e = .returned (.tuple #[]) ∧ Hp w S [.blk p [.slice A (n + (putS x s).length) c] 53, .row A (n + (putS x s).length) c 5 1 (by8 (bs ++ putS x s))] w' := by
  by_cases h : rightS s
  · obtain ⟨e1, e2⟩ := putS_right (x := x) h
    rw [e2, e1]
    rcases h with h | h | h | h <;> subst h
    · exact Put1_calls S p A n c bs x w h0 hn
    · exact Put2_calls S p A n c bs x w h0 hn
    · exact Put4_calls S p A n c bs x w h0 hn
    · exact Put8_calls S p A n c bs x w h0 hn
  · rw [putS_not h, List.append_nil]
    exact Put_other S p A n c bs x s w h0 h
theorem Put_nil (x : Nat) (s : Int) (w : World) : Calls Try.prog 19 #[.pointer none, .int .u64 (x : Int), .int .i64 s] w fun e w' => e = .returned (.tuple #[]) ∧ Hp w [] [] w' := by
  refine calls_G (args := [.pointer none, .int .u64 (x : Int), .int .i64 s]) Try.func19 rfl Try.ntmps19 rfl ?_
  intro Q0 hRet hNor hPan
  have H := Hp.start w
  have H : Hp w [] [] w := H
  refine G.seqK fun K1 hK2 => ?_
  refine G.seqK fun K3 hK4 => ?_
  refine G.region ?_
  refine GL.run (j := 2) 2 [0, 1, 2, 7] [(0, .pointer none), (1, .int .u64 (x : Int)), (2, .int .i64 s), (7, .bool true)] (by kernel_rfl) rfl ?_
  refine GL.k rfl hK4 (fun _ _ h => h) ?_
  refine G.yes rfl ?_
  refine G.ret ?_
  intro F_ hF_ hM_
  refine hRet _ _ (bodyPost_0 rfl  ?_ F_ hF_ hM_)
  exact ⟨rfl, H.sub (List.nil_sublist _)⟩
theorem WRaw_nil (B : Option Addr) (m d : Nat) (w : World) : Calls Try.prog 20 #[.pointer none, .slice B m d] w fun e w' => e = .returned (.tuple #[]) ∧ Hp w [] [] w' := by
  refine calls_G (args := [.pointer none, .slice B m d]) Try.func20 rfl Try.ntmps20 rfl ?_
  intro Q0 hRet hNor hPan
  have H := Hp.start w
  have H : Hp w [] [] w := H
  refine G.seqK fun K1 hK2 => ?_
  refine G.region ?_
  refine GL.run (j := 2) 2 [0, 1, 5] [(0, .pointer none), (1, .slice B m d), (5, .bool false)] (by kernel_rfl) rfl ?_
  refine GL.k rfl hK2 (fun _ _ h => h) ?_
  refine G.no rfl ?_
  refine G.skipDone ?_
  intro F_ hF_ hM_
  refine hNor _ _ (bodyPost_0 rfl  ?_ F_ hF_ hM_)
  exact ⟨rfl, H.sub (List.nil_sublist _)⟩
theorem WBytes_nil (w : World) : Calls Try.prog 22 #[.pointer none] w fun e w' => e = .returned (.slice none 0 0) ∧ Hp w [] [] w' := by
  refine calls_G (args := [.pointer none]) Try.func22 rfl Try.ntmps22 rfl ?_
  intro Q0 hRet hNor hPan
  have H := Hp.start w
  have H : Hp w [] [] w := H
  refine G.seqK fun K1 hK2 => ?_
  refine G.region ?_
  refine GL.run (j := 1) 1 [0] [(0, .pointer none)] (by kernel_rfl) rfl ?_
  refine GL.k rfl hK2 (fun _ _ h => h) ?_
  refine G.seqK fun K3 hK4 => ?_
  refine G.seqK fun K5 hK6 => ?_
  refine G.region ?_
  refine GL.run (j := 2) 2 [0, 4] [(0, .pointer none), (4, .bool true)] (by kernel_rfl) rfl ?_
  refine GL.k rfl hK6 (fun _ _ h => h) ?_
  refine G.yes rfl ?_
  refine G.seqK fun K7 hK8 => ?_
  refine G.region ?_
  refine GL.run (j := 1) 1 [2] [(2, .slice none 0 0)] (by kernel_rfl) rfl ?_
  refine GL.k rfl hK8 (fun _ _ h => h) ?_
  refine G.ret ?_
  intro F_ hF_ hM_
  refine hRet _ _ (bodyPost_1 rfl (RV.tmp rfl) ?_ F_ hF_ hM_)
  exact ⟨rfl, H.sub (List.nil_sublist _)⟩
theorem RWrong_nil (w : World) : Calls Try.prog 37 #[.pointer none] w fun e w' => e = .returned (.bool true) ∧ Hp w [] [] w' := by
  refine calls_G (args := [.pointer none]) Try.func37 rfl Try.ntmps37 rfl ?_
  intro Q0 hRet hNor hPan
  have H := Hp.start w
  have H : Hp w [] [] w := H
  refine G.seqK fun K1 hK2 => ?_
  refine G.region ?_
  refine GL.run (j := 1) 1 [0] [(0, .pointer none)] (by kernel_rfl) rfl ?_
  refine GL.k rfl hK2 (fun _ _ h => h) ?_
  refine G.seqK fun K3 hK4 => ?_
  refine G.region ?_
  refine GL.run (j := 9) 9 [2] [(2, .bool true)] (by kernel_rfl) rfl ?_
  refine GL.k rfl hK4 (fun _ _ h => h) ?_
  refine G.ret ?_
  intro F_ hF_ hM_
  refine hRet _ _ (bodyPost_1 rfl (RV.tmp rfl) ?_ F_ hF_ hM_)
  exact ⟨rfl, H.sub (List.nil_sublist _)⟩
theorem RFail_nil (w : World) : Calls Try.prog 35 #[.pointer none] w fun e w' => e = .returned (.tuple #[]) ∧ Hp w [] [] w' := by
  refine calls_G (args := [.pointer none]) Try.func35 rfl Try.ntmps35 rfl ?_
  intro Q0 hRet hNor hPan
  have H := Hp.start w
  have H : Hp w [] [] w := H
  refine G.seqK fun K1 hK2 => ?_
  refine G.region ?_
  refine GL.run (j := 2) 2 [0, 3] [(0, .pointer none), (3, .bool false)] (by kernel_rfl) rfl ?_
  refine GL.k rfl hK2 (fun _ _ h => h) ?_
  refine G.no rfl ?_
  refine G.skipDone ?_
  intro F_ hF_ hM_
  refine hNor _ _ (bodyPost_0 rfl  ?_ F_ hF_ hM_)
  exact ⟨rfl, H.sub (List.nil_sublist _)⟩
theorem RRaw_nil (n : Int) (w : World) : Calls Try.prog 28 #[.pointer none, .int .i64 n] w fun e w' => e = .returned (.slice none 0 0) ∧ Hp w [] [] w' := by
  refine calls_G (args := [.pointer none, .int .i64 n]) Try.func28 rfl Try.ntmps28 rfl ?_
  intro Q0 hRet hNor hPan
  have H := Hp.start w
  have H : Hp w [] [] w := H
  refine G.seqK fun K1 hK2 => ?_
  refine G.region ?_
  refine GL.run (j := 1) 1 [0, 1] [(0, .pointer none), (1, .int .i64 n)] (by kernel_rfl) rfl ?_
  refine GL.k rfl hK2 (fun _ _ h => h) ?_
  refine G.seqK fun K3 hK4 => ?_
  refine G.seqK fun K5 hK6 => ?_
  refine G.region ?_
  refine GL.run (j := 1) 1 [0, 1, 6] [(0, .pointer none), (1, .int .i64 n), (6, .pointer none)] (by kernel_rfl) rfl ?_
  refine GL.call (j := 2) (RWrong_nil w) (by kernel_rfl) rfl (fun e_ w7 hR => ?_)
  obtain ⟨rfl, H9⟩ := hR
  have H8 : Hp w [] [] w7 := H.callNil H9
  refine ⟨_, rfl, [0, 1, 7], [(0, .pointer none), (1, .int .i64 n), (7, .bool true)], by kernel_rfl, ?_⟩
  refine GL.run (j := 15) 13 [0, 1, 20] [(0, .pointer none), (1, .int .i64 n), (20, .bool true)] (by kernel_rfl) rfl ?_
  refine GL.k rfl hK6 (fun _ _ h => h) ?_
  refine G.yes rfl ?_
  refine G.seqK fun K10 hK11 => ?_
  refine G.region ?_
  refine GL.run (j := 1) 1 [21] [(21, .pointer none)] (by kernel_rfl) rfl ?_
  refine GL.call (j := 2) (RFail_nil w7) (by kernel_rfl) rfl (fun e_ w12 hR => ?_)
  obtain ⟨rfl, H14⟩ := hR
  have H13 : Hp w [] [] w12 := H8.callNil H14
  refine ⟨_, rfl, [], [], by kernel_rfl, ?_⟩
  refine GL.k rfl hK11 (fun _ _ h => h) ?_
  refine G.seqK fun K15 hK16 => ?_
  refine G.region ?_
  refine GL.run (j := 1) 1 [4] [(4, .slice none 0 0)] (by kernel_rfl) rfl ?_
  refine GL.k rfl hK16 (fun _ _ h => h) ?_
  refine G.ret ?_
  intro F_ hF_ hM_
  refine hRet _ _ (bodyPost_1 rfl (RV.tmp rfl) ?_ F_ hF_ hM_)
  exact ⟨rfl, H13.sub (List.nil_sublist _)⟩
theorem REnd_nil (w : World) : Calls Try.prog 25 #[.pointer none] w fun e w' => e = .returned (.bool false) ∧ Hp w [] [] w' := by
  refine calls_G (args := [.pointer none]) Try.func25 rfl Try.ntmps25 rfl ?_
  intro Q0 hRet hNor hPan
  have H := Hp.start w
  have H : Hp w [] [] w := H
  refine G.seqK fun K1 hK2 => ?_
  refine G.region ?_
  refine GL.run (j := 1) 1 [0] [(0, .pointer none)] (by kernel_rfl) rfl ?_
  refine GL.k rfl hK2 (fun _ _ h => h) ?_
  refine G.seqK fun K3 hK4 => ?_
  refine G.region ?_
  refine GL.run (j := 1) 1 [0, 3] [(0, .pointer none), (3, .pointer none)] (by kernel_rfl) rfl ?_
  refine GL.call (j := 2) (RWrong_nil w) (by kernel_rfl) rfl (fun e_ w5 hR => ?_)
  obtain ⟨rfl, H7⟩ := hR
  have H6 : Hp w [] [] w5 := H.callNil H7
  refine ⟨_, rfl, [0, 4], [(0, .pointer none), (4, .bool true)], by kernel_rfl, ?_⟩
  refine GL.run (j := 12) 10 [2] [(2, .bool false)] (by kernel_rfl) rfl ?_
  refine GL.k rfl hK4 (fun _ _ h => h) ?_
  refine G.ret ?_
  intro F_ hF_ hM_
  refine hRet _ _ (bodyPost_1 rfl (RV.tmp rfl) ?_ F_ hF_ hM_)
  exact ⟨rfl, H6.sub (List.nil_sublist _)⟩
end Go.Proofs.Ytkfhcogdpmndkaa
