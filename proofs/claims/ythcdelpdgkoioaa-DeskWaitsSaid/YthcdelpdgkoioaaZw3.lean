/- DeskWaits: the row. -/
import Derived.Test.YthcdelpdgkoioaaZw2
set_option linter.unusedVariables false
set_option maxRecDepth 100000
namespace Go.Proofs.Ythcdelpdgkoioaa
open Go.RowKit
theorem u64_of (n : Int) : ∃ u : Nat, IntKind.u64.wrap n = (u : Int) ∧ u < 18446744073709551616 := ⟨(n % 18446744073709551616).toNat, by rw [IntKind.wrap_u64]; omega, by omega⟩
theorem sel3_at {k x y z : Nat} (hk : k < 3) : ([.int .i64 (x : Int), .int .i64 (y : Int), .int .i64 (z : Int)] : List Value)[0 + k * 1]? = some (.int .i64 ((sel3 k x y z : Nat) : Int)) := by
  obtain rfl | rfl | rfl : k = 0 ∨ k = 1 ∨ k = 2 := by omega
  · rfl
  · rfl
  · rfl
theorem wt_start {a0 a1 a2 : Lane} {k n0 n1 n2 : Nat} (h0 : LQ a0 0 n0) (h1 : LQ a1 0 n1) (h2 : LQ a2 0 n2) (z0 : a0.p = 0) (z1 : a1.p = 0) (z2 : a2.p = 0) (hk : k < 3) (h : 0 < sel3 k n0 n1 n2) : WT 0 k a0 a1 a2 := by
  have l0 := h0.len
  have l1 := h1.len
  have l2 := h2.len
  obtain rfl | rfl | rfl : k = 0 ∨ k = 1 ∨ k = 2 := by omega
  · have e : 0 < n0 := h
    exact .inl ⟨rfl, by omega, z0, by decide, fun _ => .inl z1, fun e => by omega⟩
  · have e : 0 < n1 := h
    exact .inr (.inl ⟨rfl, by omega, z1, by decide, fun _ => .inl z0, fun e => by omega⟩)
  · have e : 0 < n2 := h
    exact .inr (.inr ⟨rfl, by omega, z2, by decide, fun _ => .inl z0, fun e => by omega⟩)
set_option maxHeartbeats 8000000 in
theorem DeskWaits_calls (x0 x1 x2 : UInt8) (z_ : Int) (A : Option Addr) (ms : List UInt8) (c : Nat) (w : World) (hx : RdS w A (by8 ms)) : Calls Try.prog 3 #[.int .u8 (x0.toNat : Int), .int .u8 (x1.toNat : Int), .int .u8 (x2.toNat : Int), .int .i64 z_, .slice A ms.length c] w fun e w' => e = .returned (.bool true) ∧ Hp w [] [] w' := by
  refine calls_G (args := [.int .u8 (x0.toNat : Int), .int .u8 (x1.toNat : Int), .int .u8 (x2.toNat : Int), .int .i64 z_, .slice A ms.length c]) Try.func3 rfl Try.ntmps3 rfl ?_
  intro Q0 hRet hNor hPan
  have H := Hp.start w
  have H : Hp w [] [] w := H
  refine G.seqK fun K1 hK2 => ?_
  refine G.region ?_
  refine GL.run (j := 1) 1 [0, 1, 2, 3, 4] [(0, .int .u8 (x0.toNat : Int)), (1, .int .u8 (x1.toNat : Int)), (2, .int .u8 (x2.toNat : Int)), (3, .int .i64 z_), (4, .slice A ms.length c)] (by kernel_rfl) rfl ?_
  refine GL.k rfl hK2 (fun _ _ h => h) ?_
  refine G.seqK fun K3 hK4 => ?_
  refine G.seqK fun K5 hK6 => ?_
  refine G.region ?_
  refine GL.call (j := 1) (lives_calls w) (by kernel_rfl) rfl (fun e_ w7 hR => ?_)
  obtain ⟨rfl, H9⟩ := hR
  have H8 : Hp w [] [] w7 := H.callNil H9
  refine ⟨_, rfl, [0, 1, 2, 3, 4, 24], [(0, .int .u8 (x0.toNat : Int)), (1, .int .u8 (x1.toNat : Int)), (2, .int .u8 (x2.toNat : Int)), (3, .int .i64 z_), (4, .slice A ms.length c), (24, .bool true)], by kernel_rfl, ?_⟩
  refine GL.run (j := 7) 6 [0, 1, 2, 3, 4, 30] [(0, .int .u8 (x0.toNat : Int)), (1, .int .u8 (x1.toNat : Int)), (2, .int .u8 (x2.toNat : Int)), (3, .int .i64 z_), (4, .slice A ms.length c), (30, .bool (decide (60 < (ms.length : Int))))] (by kernel_rfl) rfl ?_
  refine GL.k rfl hK6 (fun _ _ h => h) ?_
  cases hb10 : (decide (60 < (ms.length : Int)))
  · skip
    have hb10f := of_decide_eq_false hb10
    have hms : ms.length ≤ 60 := by omega
    refine G.no rfl ?_
    refine G.skipK hK4 (fun _ _ h => h) ?_
    refine G.seqK fun K11 hK12 => ?_
    refine G.region ?_
    refine GL.call (j := 1) (New_calls 256 w7 (by omega) (by omega)) (by kernel_rfl) rfl (fun e_ w17 hR => ?_)
    obtain ⟨d13, c14, c15, c16, rfl, H19⟩ := hR
    have H18 : Hp w [] [.blk d13 [.chan (some (Lane.new c14).ch), .chan (some (Lane.new c15).ch), .chan (some (Lane.new c16).ch), .int .i64 (((Lane.new c14).p : Nat) : Int), .int .i64 (((Lane.new c15).p : Nat) : Int), .int .i64 (((Lane.new c16).p : Nat) : Int), .bool false] 52, .obj (Lane.new c14).ch (chO 256 (Lane.new c14).l false (Lane.new c14).s (Lane.new c14).r), .obj (Lane.new c15).ch (chO 256 (Lane.new c15).l false (Lane.new c15).s (Lane.new c15).r), .obj (Lane.new c16).ch (chO 256 (Lane.new c16).l false (Lane.new c16).s (Lane.new c16).r), .bag []] w17 := H8.callNew H19
    refine ⟨_, rfl, [0, 1, 2, 3, 4, 33], [(0, .int .u8 (x0.toNat : Int)), (1, .int .u8 (x1.toNat : Int)), (2, .int .u8 (x2.toNat : Int)), (3, .int .i64 z_), (4, .slice A ms.length c), (33, .tuple #[pt d13 0, .int .i64 0])], by kernel_rfl, ?_⟩
    refine GL.run (j := 6) 5 [0, 1, 2, 3, 4, 11] [(0, .int .u8 (x0.toNat : Int)), (1, .int .u8 (x1.toNat : Int)), (2, .int .u8 (x2.toNat : Int)), (3, .int .i64 z_), (4, .slice A ms.length c), (11, pt d13 0)] (by kernel_rfl) rfl ?_
    refine GL.k rfl hK12 (fun _ _ h => h) ?_
    refine G.seqK fun K20 hK21 => ?_
    refine G.region ?_
    obtain ⟨n0, hn0, hn0b⟩ : ∃ n_ : Nat, n_ = x0.toNat % 60 ∧ n_ < 60 := ⟨_, rfl, Nat.mod_lt _ (by decide)⟩
    obtain ⟨n1, hn1, hn1b⟩ : ∃ n_ : Nat, n_ = x1.toNat % 60 ∧ n_ < 60 := ⟨_, rfl, Nat.mod_lt _ (by decide)⟩
    obtain ⟨n2, hn2, hn2b⟩ : ∃ n_ : Nat, n_ = x2.toNat % 60 ∧ n_ < 60 := ⟨_, rfl, Nat.mod_lt _ (by decide)⟩
    refine GL.run (j := 10) 10 [3, 4, 11, 45] [(3, .int .i64 z_), (4, .slice A ms.length c), (11, pt d13 0), (45, .agg #[.int .i64 (IntKind.i64.wrap (Int.tmod (x0.toNat : Int) 60)), .int .i64 (IntKind.i64.wrap (Int.tmod (x1.toNat : Int) 60)), .int .i64 (IntKind.i64.wrap (Int.tmod (x2.toNat : Int) 60))])] (by kernel_rfl) rfl ?_
    have e22 : (Int.tmod (x0.toNat : Int) 60) = (n0 : Int) := (n_rem _ 60).trans (by rw [hn0])
    have e23 : (IntKind.i64.wrap (n0 : Int)) = (n0 : Int) := in_i64 (by omega)
    have e24 : (Int.tmod (x1.toNat : Int) 60) = (n1 : Int) := (n_rem _ 60).trans (by rw [hn1])
    have e25 : (IntKind.i64.wrap (n1 : Int)) = (n1 : Int) := in_i64 (by omega)
    have e26 : (Int.tmod (x2.toNat : Int) 60) = (n2 : Int) := (n_rem _ 60).trans (by rw [hn2])
    have e27 : (IntKind.i64.wrap (n2 : Int)) = (n2 : Int) := in_i64 (by omega)
    refine GL.eq (M' := [(3, .int .i64 z_), (4, .slice A ms.length c), (11, pt d13 0), (45, .agg #[.int .i64 (n0 : Int), .int .i64 (n1 : Int), .int .i64 (n2 : Int)])]) (by rw [e22, e23, e24, e25, e26, e27]) ?_
    clear e22 e23 e24 e25 e26 e27
    obtain ⟨p28, w29, r30, H31⟩ := H18.alloc (P := Try.prog) 28 [.int .i64 0, .int .i64 0, .int .i64 0] (by kernel_rfl)
    have H31 : Hp w [] [.blk d13 [.chan (some (Lane.new c14).ch), .chan (some (Lane.new c15).ch), .chan (some (Lane.new c16).ch), .int .i64 (((Lane.new c14).p : Nat) : Int), .int .i64 (((Lane.new c15).p : Nat) : Int), .int .i64 (((Lane.new c16).p : Nat) : Int), .bool false] 52, .obj (Lane.new c14).ch (chO 256 (Lane.new c14).l false (Lane.new c14).s (Lane.new c14).r), .obj (Lane.new c15).ch (chO 256 (Lane.new c15).l false (Lane.new c15).s (Lane.new c15).r), .obj (Lane.new c16).ch (chO 256 (Lane.new c16).l false (Lane.new c16).s (Lane.new c16).r), .bag [], .blk p28 [.int .i64 0, .int .i64 0, .int .i64 0] 28] w29 := H31
    refine GL.sem (j := 11) (r30) [3, 4, 11, 13, 45] [(3, .int .i64 z_), (4, .slice A ms.length c), (11, pt d13 0), (13, pt p28 0), (45, .agg #[.int .i64 (n0 : Int), .int .i64 (n1 : Int), .int .i64 (n2 : Int)])] (by kernel_rfl) (by kernel_rfl) rfl ?_
    obtain ⟨w32, r33, H34⟩ := H31.stA (P := Try.prog) (o := 0) (vs := [.int .i64 (n0 : Int), .int .i64 (n1 : Int), .int .i64 (n2 : Int)]) (ty := 28) (m := 3) 5 rfl (by kernel_rfl) rfl (by simp) (by simp [Value.oneCell'])
    have H34 : Hp w [] [.blk d13 [.chan (some (Lane.new c14).ch), .chan (some (Lane.new c15).ch), .chan (some (Lane.new c16).ch), .int .i64 (((Lane.new c14).p : Nat) : Int), .int .i64 (((Lane.new c15).p : Nat) : Int), .int .i64 (((Lane.new c16).p : Nat) : Int), .bool false] 52, .obj (Lane.new c14).ch (chO 256 (Lane.new c14).l false (Lane.new c14).s (Lane.new c14).r), .obj (Lane.new c15).ch (chO 256 (Lane.new c15).l false (Lane.new c15).s (Lane.new c15).r), .obj (Lane.new c16).ch (chO 256 (Lane.new c16).l false (Lane.new c16).s (Lane.new c16).r), .bag [], .blk p28 [.int .i64 (n0 : Int), .int .i64 (n1 : Int), .int .i64 (n2 : Int)] 28] w32 := H34
    refine GL.semU (j := 12) r33 [3, 4, 11, 13] [(3, .int .i64 z_), (4, .slice A ms.length c), (11, pt d13 0), (13, pt p28 0)] (by kernel_rfl) rfl rfl rfl ?_
    refine GL.k rfl hK21 (fun _ _ h => h) ?_
    refine G.seqK fun K35 hK36 => ?_
    refine G.seqK fun K37 hK38 => ?_
    refine G.region ?_
    refine GL.sem (j := 1) (H34.ldA (o := 0) (ty := 28) (m := 3) (sub := [.int .i64 (n0 : Int), .int .i64 (n1 : Int), .int .i64 (n2 : Int)]) 5 rfl (by kernel_rfl) rfl rfl) [3, 4, 11, 13, 46] [(3, .int .i64 z_), (4, .slice A ms.length c), (11, pt d13 0), (13, pt p28 0), (46, .agg #[.int .i64 (n0 : Int), .int .i64 (n1 : Int), .int .i64 (n2 : Int)])] (by kernel_rfl) (by kernel_rfl) rfl ?_
    refine GL.run (j := 2) 1 [3, 4, 11, 13, 46, 47] [(3, .int .i64 z_), (4, .slice A ms.length c), (11, pt d13 0), (13, pt p28 0), (46, .agg #[.int .i64 (n0 : Int), .int .i64 (n1 : Int), .int .i64 (n2 : Int)]), (47, .int .i64 0)] (by kernel_rfl) rfl ?_
    refine GL.k rfl hK38 (fun _ _ h => h) ?_
    refine G.block ?_
    refine G.unroll 3 ?_
    refine G.seqK fun K39 hK40 => ?_
    refine G.region ?_
    refine GL.run (j := 1) 1 [3, 4, 11, 13, 46, 47, 48] [(3, .int .i64 z_), (4, .slice A ms.length c), (11, pt d13 0), (13, pt p28 0), (46, .agg #[.int .i64 (n0 : Int), .int .i64 (n1 : Int), .int .i64 (n2 : Int)]), (47, .int .i64 0), (48, .bool true)] (by kernel_rfl) rfl ?_
    refine GL.k rfl hK40 (fun _ _ h => h) ?_
    refine G.seqK fun K41 hK42 => ?_
    refine G.yes rfl ?_
    refine G.skipK hK42 (fun _ _ h => h) ?_
    refine G.seqK fun K43 hK44 => ?_
    refine G.block ?_
    refine G.seqK fun K45 hK46 => ?_
    refine G.region ?_
    refine GL.run (j := 4) 4 [3, 4, 11, 13, 14, 15, 46, 47] [(3, .int .i64 z_), (4, .slice A ms.length c), (11, pt d13 0), (13, pt p28 0), (14, .int .i64 0), (15, .int .i64 (n0 : Int)), (46, .agg #[.int .i64 (n0 : Int), .int .i64 (n1 : Int), .int .i64 (n2 : Int)]), (47, .int .i64 0)] (by kernel_rfl) rfl ?_
    refine GL.k rfl hK46 (fun _ _ h => h) ?_
    refine G.seqK fun K47 hK48 => ?_
    refine G.region ?_
    refine GL.run (j := 2) 2 [3, 4, 11, 13, 14, 46, 47, 51, 52] [(3, .int .i64 z_), (4, .slice A ms.length c), (11, pt d13 0), (13, pt p28 0), (14, .int .i64 0), (46, .agg #[.int .i64 (n0 : Int), .int .i64 (n1 : Int), .int .i64 (n2 : Int)]), (47, .int .i64 0), (51, .int .i64 (n0 : Int)), (52, .int .i64 0)] (by kernel_rfl) rfl ?_
    refine GL.k rfl hK48 (fun _ _ h => h) ?_
    refine G.block ?_
    have H49 := (Hp.reorder (L' := [.blk p28 [.int .i64 (n0 : Int), .int .i64 (n1 : Int), .int .i64 (n2 : Int)] 28, .blk d13 [.chan (some (Lane.new c14).ch), .chan (some (Lane.new c15).ch), .chan (some (Lane.new c16).ch), .int .i64 (((Lane.new c14).p : Nat) : Int), .int .i64 (((Lane.new c15).p : Nat) : Int), .int .i64 (((Lane.new c16).p : Nat) : Int), .bool false] 52, .obj (Lane.new c14).ch (chO 256 (Lane.new c14).l false (Lane.new c14).s (Lane.new c14).r), .obj (Lane.new c15).ch (chO 256 (Lane.new c15).l false (Lane.new c15).s (Lane.new c15).r), .obj (Lane.new c16).ch (chO 256 (Lane.new c16).l false (Lane.new c16).s (Lane.new c16).r), .bag []]) H34 (List.Perm.trans (List.Perm.cons _ (List.Perm.cons _ (List.Perm.cons _ (List.Perm.cons _ (List.Perm.swap _ _ _))))) (List.Perm.trans (List.Perm.cons _ (List.Perm.cons _ (List.Perm.cons _ (List.Perm.swap _ _ _)))) (List.Perm.trans (List.Perm.cons _ (List.Perm.cons _ (List.Perm.swap _ _ _))) (List.Perm.trans (List.Perm.cons _ (List.Perm.swap _ _ _)) (List.Perm.trans (List.Perm.swap _ _ _) (List.Perm.refl _)))))))
    refine G.fit [3, 4, 11, 13, 14, 46, 47, 51, 52] (M' := [(3, .int .i64 z_), (4, .slice A ms.length c), (11, pt d13 0), (13, pt p28 0), (14, .int .i64 0), (46, .agg #[.int .i64 (n0 : Int), .int .i64 (n1 : Int), .int .i64 (n2 : Int)]), (47, .int .i64 0), (51, .int .i64 (n0 : Int)), (52, .int .i64 0)]) (by kernel_rfl) ?_
    refine G.loop (X := Nat × Lane × List (Option Addr × Nat × Nat × TypeId × List Value)) (fun ⟨i0, b0, G0⟩ => [(3, .int .i64 z_), (4, .slice A ms.length c), (11, pt d13 0), (13, pt p28 0), (14, .int .i64 0), (46, .agg #[.int .i64 (n0 : Int), .int .i64 (n1 : Int), .int .i64 (n2 : Int)]), (47, .int .i64 0), (51, .int .i64 (n0 : Int)), (52, .int .i64 (i0 : Int))]) (fun ⟨i0, b0, G0⟩ w_ => ((i0 ≤ n0 ∧ LQ b0 0 i0) ∧ b0.z ∧ b0.p = 0 ∧ LnOk G0 b0 ∧ LnOk G0 (Lane.new c15) ∧ LnOk G0 (Lane.new c16)) ∧ Hp w [] [.blk p28 [.int .i64 (n0 : Int), .int .i64 (n1 : Int), .int .i64 (n2 : Int)] 28, .blk d13 [.chan (some b0.ch), .chan (some (Lane.new c15).ch), .chan (some (Lane.new c16).ch), .int .i64 (b0.p : Int), .int .i64 (((Lane.new c15).p : Nat) : Int), .int .i64 (((Lane.new c16).p : Nat) : Int), .bool false] 52, .obj b0.ch (chO 256 b0.l false b0.s b0.r), .obj (Lane.new c15).ch (chO 256 (Lane.new c15).l false (Lane.new c15).s (Lane.new c15).r), .obj (Lane.new c16).ch (chO 256 (Lane.new c16).l false (Lane.new c16).s (Lane.new c16).r), .bag G0] w_) (fun ⟨i0, b0, G0⟩ => n0 - i0) ⟨0, (Lane.new c14), ([] : List (Option Addr × Nat × Nat × TypeId × List Value))⟩ [3, 4, 11, 13, 14, 46, 47, 51, 52] (by kernel_rfl) ⟨⟨⟨Nat.zero_le _, (LQ.new _)⟩, (Lane.z.new _), rfl, (LnOk.new _ _), (LnOk.new _ _), (LnOk.new _ _)⟩, H49⟩ ?_
    rintro ⟨i0, b0, G0⟩ w50 ⟨hi51, H52⟩
    refine G.eq (M' := [(3, .int .i64 z_), (4, .slice A ms.length c), (11, pt d13 0), (13, pt p28 0), (14, .int .i64 0), (46, .agg #[.int .i64 (n0 : Int), .int .i64 (n1 : Int), .int .i64 (n2 : Int)]), (47, .int .i64 0), (51, .int .i64 (n0 : Int)), (52, .int .i64 (i0 : Int))]) rfl ?_
    have H52 : Hp w [] [.blk p28 [.int .i64 (n0 : Int), .int .i64 (n1 : Int), .int .i64 (n2 : Int)] 28, .blk d13 [.chan (some b0.ch), .chan (some (Lane.new c15).ch), .chan (some (Lane.new c16).ch), .int .i64 (b0.p : Int), .int .i64 (((Lane.new c15).p : Nat) : Int), .int .i64 (((Lane.new c16).p : Nat) : Int), .bool false] 52, .obj b0.ch (chO 256 b0.l false b0.s b0.r), .obj (Lane.new c15).ch (chO 256 (Lane.new c15).l false (Lane.new c15).s (Lane.new c15).r), .obj (Lane.new c16).ch (chO 256 (Lane.new c16).l false (Lane.new c16).s (Lane.new c16).r), .bag G0] w50 := H52
    obtain ⟨⟨hi0, hL0⟩, hz0, hp0, hok0_0, hok0_1, hok0_2⟩ := hi51
    refine G.seqK fun K53 hK54 => ?_
    refine G.region ?_
    refine GL.run (j := 1) 1 [3, 4, 11, 13, 14, 46, 47, 51, 52, 53] [(3, .int .i64 z_), (4, .slice A ms.length c), (11, pt d13 0), (13, pt p28 0), (14, .int .i64 0), (46, .agg #[.int .i64 (n0 : Int), .int .i64 (n1 : Int), .int .i64 (n2 : Int)]), (47, .int .i64 0), (51, .int .i64 (n0 : Int)), (52, .int .i64 (i0 : Int)), (53, .bool (decide ((i0 : Int) < (n0 : Int))))] (by kernel_rfl) rfl ?_
    refine GL.k rfl hK54 (fun _ _ h => h) ?_
    refine G.seqK fun K55 hK56 => ?_
    cases hb57 : (decide ((i0 : Int) < (n0 : Int)))
    · skip
      have hb57f := of_decide_eq_false hb57
      obtain rfl : n0 = i0 := by omega
      refine G.no rfl ?_
      refine G.exitK hK44 (fun _ _ h => h) ?_
      refine G.region ?_
      refine GL.run (j := 2) 2 [3, 4, 11, 13, 46, 47] [(3, .int .i64 z_), (4, .slice A ms.length c), (11, pt d13 0), (13, pt p28 0), (46, .agg #[.int .i64 (n0 : Int), .int .i64 (n1 : Int), .int .i64 (n2 : Int)]), (47, .int .i64 1)] (by kernel_rfl) rfl ?_
      refine GL.round rfl ?_
      refine G.seqK fun K58 hK59 => ?_
      refine G.region ?_
      refine GL.run (j := 1) 1 [3, 4, 11, 13, 46, 47, 48] [(3, .int .i64 z_), (4, .slice A ms.length c), (11, pt d13 0), (13, pt p28 0), (46, .agg #[.int .i64 (n0 : Int), .int .i64 (n1 : Int), .int .i64 (n2 : Int)]), (47, .int .i64 1), (48, .bool true)] (by kernel_rfl) rfl ?_
      refine GL.k rfl hK59 (fun _ _ h => h) ?_
      refine G.seqK fun K60 hK61 => ?_
      refine G.yes rfl ?_
      refine G.skipK hK61 (fun _ _ h => h) ?_
      refine G.seqK fun K62 hK63 => ?_
      refine G.block ?_
      refine G.seqK fun K64 hK65 => ?_
      refine G.region ?_
      refine GL.run (j := 4) 4 [3, 4, 11, 13, 14, 15, 46, 47] [(3, .int .i64 z_), (4, .slice A ms.length c), (11, pt d13 0), (13, pt p28 0), (14, .int .i64 1), (15, .int .i64 (n1 : Int)), (46, .agg #[.int .i64 (n0 : Int), .int .i64 (n1 : Int), .int .i64 (n2 : Int)]), (47, .int .i64 1)] (by kernel_rfl) rfl ?_
      refine GL.k rfl hK65 (fun _ _ h => h) ?_
      refine G.seqK fun K66 hK67 => ?_
      refine G.region ?_
      refine GL.run (j := 2) 2 [3, 4, 11, 13, 14, 46, 47, 51, 52] [(3, .int .i64 z_), (4, .slice A ms.length c), (11, pt d13 0), (13, pt p28 0), (14, .int .i64 1), (46, .agg #[.int .i64 (n0 : Int), .int .i64 (n1 : Int), .int .i64 (n2 : Int)]), (47, .int .i64 1), (51, .int .i64 (n1 : Int)), (52, .int .i64 0)] (by kernel_rfl) rfl ?_
      refine GL.k rfl hK67 (fun _ _ h => h) ?_
      refine G.block ?_
      refine G.fit [3, 4, 11, 13, 14, 46, 47, 51, 52] (M' := [(3, .int .i64 z_), (4, .slice A ms.length c), (11, pt d13 0), (13, pt p28 0), (14, .int .i64 1), (46, .agg #[.int .i64 (n0 : Int), .int .i64 (n1 : Int), .int .i64 (n2 : Int)]), (47, .int .i64 1), (51, .int .i64 (n1 : Int)), (52, .int .i64 0)]) (by kernel_rfl) ?_
      refine G.loop (X := Nat × Lane × List (Option Addr × Nat × Nat × TypeId × List Value)) (fun ⟨i1, b1, G1⟩ => [(3, .int .i64 z_), (4, .slice A ms.length c), (11, pt d13 0), (13, pt p28 0), (14, .int .i64 1), (46, .agg #[.int .i64 (n0 : Int), .int .i64 (n1 : Int), .int .i64 (n2 : Int)]), (47, .int .i64 1), (51, .int .i64 (n1 : Int)), (52, .int .i64 (i1 : Int))]) (fun ⟨i1, b1, G1⟩ w_ => ((i1 ≤ n1 ∧ LQ b1 0 i1) ∧ b1.z ∧ b1.p = 0 ∧ LnOk G1 b0 ∧ LnOk G1 b1 ∧ LnOk G1 (Lane.new c16)) ∧ Hp w [] [.blk p28 [.int .i64 (n0 : Int), .int .i64 (n1 : Int), .int .i64 (n2 : Int)] 28, .blk d13 [.chan (some b0.ch), .chan (some b1.ch), .chan (some (Lane.new c16).ch), .int .i64 (b0.p : Int), .int .i64 (b1.p : Int), .int .i64 (((Lane.new c16).p : Nat) : Int), .bool false] 52, .obj b0.ch (chO 256 b0.l false b0.s b0.r), .obj b1.ch (chO 256 b1.l false b1.s b1.r), .obj (Lane.new c16).ch (chO 256 (Lane.new c16).l false (Lane.new c16).s (Lane.new c16).r), .bag G1] w_) (fun ⟨i1, b1, G1⟩ => n1 - i1) ⟨0, (Lane.new c15), G0⟩ [3, 4, 11, 13, 14, 46, 47, 51, 52] (by kernel_rfl) ⟨⟨⟨Nat.zero_le _, (LQ.new _)⟩, (Lane.z.new _), rfl, hok0_0, hok0_1, hok0_2⟩, H52⟩ ?_
      rintro ⟨i1, b1, G1⟩ w68 ⟨hi69, H70⟩
      refine G.eq (M' := [(3, .int .i64 z_), (4, .slice A ms.length c), (11, pt d13 0), (13, pt p28 0), (14, .int .i64 1), (46, .agg #[.int .i64 (n0 : Int), .int .i64 (n1 : Int), .int .i64 (n2 : Int)]), (47, .int .i64 1), (51, .int .i64 (n1 : Int)), (52, .int .i64 (i1 : Int))]) rfl ?_
      have H70 : Hp w [] [.blk p28 [.int .i64 (n0 : Int), .int .i64 (n1 : Int), .int .i64 (n2 : Int)] 28, .blk d13 [.chan (some b0.ch), .chan (some b1.ch), .chan (some (Lane.new c16).ch), .int .i64 (b0.p : Int), .int .i64 (b1.p : Int), .int .i64 (((Lane.new c16).p : Nat) : Int), .bool false] 52, .obj b0.ch (chO 256 b0.l false b0.s b0.r), .obj b1.ch (chO 256 b1.l false b1.s b1.r), .obj (Lane.new c16).ch (chO 256 (Lane.new c16).l false (Lane.new c16).s (Lane.new c16).r), .bag G1] w68 := H70
      obtain ⟨⟨hi1, hL1⟩, hz1, hp1, hok1_0, hok1_1, hok1_2⟩ := hi69
      refine G.seqK fun K71 hK72 => ?_
      refine G.region ?_
      refine GL.run (j := 1) 1 [3, 4, 11, 13, 14, 46, 47, 51, 52, 53] [(3, .int .i64 z_), (4, .slice A ms.length c), (11, pt d13 0), (13, pt p28 0), (14, .int .i64 1), (46, .agg #[.int .i64 (n0 : Int), .int .i64 (n1 : Int), .int .i64 (n2 : Int)]), (47, .int .i64 1), (51, .int .i64 (n1 : Int)), (52, .int .i64 (i1 : Int)), (53, .bool (decide ((i1 : Int) < (n1 : Int))))] (by kernel_rfl) rfl ?_
      refine GL.k rfl hK72 (fun _ _ h => h) ?_
      refine G.seqK fun K73 hK74 => ?_
      cases hb75 : (decide ((i1 : Int) < (n1 : Int)))
      · skip
        have hb75f := of_decide_eq_false hb75
        obtain rfl : n1 = i1 := by omega
        refine G.no rfl ?_
        refine G.exitK hK63 (fun _ _ h => h) ?_
        refine G.region ?_
        refine GL.run (j := 2) 2 [3, 4, 11, 13, 46, 47] [(3, .int .i64 z_), (4, .slice A ms.length c), (11, pt d13 0), (13, pt p28 0), (46, .agg #[.int .i64 (n0 : Int), .int .i64 (n1 : Int), .int .i64 (n2 : Int)]), (47, .int .i64 2)] (by kernel_rfl) rfl ?_
        refine GL.round rfl ?_
        refine G.seqK fun K76 hK77 => ?_
        refine G.region ?_
        refine GL.run (j := 1) 1 [3, 4, 11, 13, 46, 47, 48] [(3, .int .i64 z_), (4, .slice A ms.length c), (11, pt d13 0), (13, pt p28 0), (46, .agg #[.int .i64 (n0 : Int), .int .i64 (n1 : Int), .int .i64 (n2 : Int)]), (47, .int .i64 2), (48, .bool true)] (by kernel_rfl) rfl ?_
        refine GL.k rfl hK77 (fun _ _ h => h) ?_
        refine G.seqK fun K78 hK79 => ?_
        refine G.yes rfl ?_
        refine G.skipK hK79 (fun _ _ h => h) ?_
        refine G.seqK fun K80 hK81 => ?_
        refine G.block ?_
        refine G.seqK fun K82 hK83 => ?_
        refine G.region ?_
        refine GL.run (j := 4) 4 [3, 4, 11, 13, 14, 15, 46, 47] [(3, .int .i64 z_), (4, .slice A ms.length c), (11, pt d13 0), (13, pt p28 0), (14, .int .i64 2), (15, .int .i64 (n2 : Int)), (46, .agg #[.int .i64 (n0 : Int), .int .i64 (n1 : Int), .int .i64 (n2 : Int)]), (47, .int .i64 2)] (by kernel_rfl) rfl ?_
        refine GL.k rfl hK83 (fun _ _ h => h) ?_
        refine G.seqK fun K84 hK85 => ?_
        refine G.region ?_
        refine GL.run (j := 2) 2 [3, 4, 11, 13, 14, 46, 47, 51, 52] [(3, .int .i64 z_), (4, .slice A ms.length c), (11, pt d13 0), (13, pt p28 0), (14, .int .i64 2), (46, .agg #[.int .i64 (n0 : Int), .int .i64 (n1 : Int), .int .i64 (n2 : Int)]), (47, .int .i64 2), (51, .int .i64 (n2 : Int)), (52, .int .i64 0)] (by kernel_rfl) rfl ?_
        refine GL.k rfl hK85 (fun _ _ h => h) ?_
        refine G.block ?_
        refine G.fit [3, 4, 11, 13, 14, 46, 47, 51, 52] (M' := [(3, .int .i64 z_), (4, .slice A ms.length c), (11, pt d13 0), (13, pt p28 0), (14, .int .i64 2), (46, .agg #[.int .i64 (n0 : Int), .int .i64 (n1 : Int), .int .i64 (n2 : Int)]), (47, .int .i64 2), (51, .int .i64 (n2 : Int)), (52, .int .i64 0)]) (by kernel_rfl) ?_
        refine G.loop (X := Nat × Lane × List (Option Addr × Nat × Nat × TypeId × List Value)) (fun ⟨i2, b2, G2⟩ => [(3, .int .i64 z_), (4, .slice A ms.length c), (11, pt d13 0), (13, pt p28 0), (14, .int .i64 2), (46, .agg #[.int .i64 (n0 : Int), .int .i64 (n1 : Int), .int .i64 (n2 : Int)]), (47, .int .i64 2), (51, .int .i64 (n2 : Int)), (52, .int .i64 (i2 : Int))]) (fun ⟨i2, b2, G2⟩ w_ => ((i2 ≤ n2 ∧ LQ b2 0 i2) ∧ b2.z ∧ b2.p = 0 ∧ LnOk G2 b0 ∧ LnOk G2 b1 ∧ LnOk G2 b2) ∧ Hp w [] [.blk p28 [.int .i64 (n0 : Int), .int .i64 (n1 : Int), .int .i64 (n2 : Int)] 28, .blk d13 [.chan (some b0.ch), .chan (some b1.ch), .chan (some b2.ch), .int .i64 (b0.p : Int), .int .i64 (b1.p : Int), .int .i64 (b2.p : Int), .bool false] 52, .obj b0.ch (chO 256 b0.l false b0.s b0.r), .obj b1.ch (chO 256 b1.l false b1.s b1.r), .obj b2.ch (chO 256 b2.l false b2.s b2.r), .bag G2] w_) (fun ⟨i2, b2, G2⟩ => n2 - i2) ⟨0, (Lane.new c16), G1⟩ [3, 4, 11, 13, 14, 46, 47, 51, 52] (by kernel_rfl) ⟨⟨⟨Nat.zero_le _, (LQ.new _)⟩, (Lane.z.new _), rfl, hok1_0, hok1_1, hok1_2⟩, H70⟩ ?_
        rintro ⟨i2, b2, G2⟩ w86 ⟨hi87, H88⟩
        refine G.eq (M' := [(3, .int .i64 z_), (4, .slice A ms.length c), (11, pt d13 0), (13, pt p28 0), (14, .int .i64 2), (46, .agg #[.int .i64 (n0 : Int), .int .i64 (n1 : Int), .int .i64 (n2 : Int)]), (47, .int .i64 2), (51, .int .i64 (n2 : Int)), (52, .int .i64 (i2 : Int))]) rfl ?_
        have H88 : Hp w [] [.blk p28 [.int .i64 (n0 : Int), .int .i64 (n1 : Int), .int .i64 (n2 : Int)] 28, .blk d13 [.chan (some b0.ch), .chan (some b1.ch), .chan (some b2.ch), .int .i64 (b0.p : Int), .int .i64 (b1.p : Int), .int .i64 (b2.p : Int), .bool false] 52, .obj b0.ch (chO 256 b0.l false b0.s b0.r), .obj b1.ch (chO 256 b1.l false b1.s b1.r), .obj b2.ch (chO 256 b2.l false b2.s b2.r), .bag G2] w86 := H88
        obtain ⟨⟨hi2, hL2⟩, hz2, hp2, hok2_0, hok2_1, hok2_2⟩ := hi87
        refine G.seqK fun K89 hK90 => ?_
        refine G.region ?_
        refine GL.run (j := 1) 1 [3, 4, 11, 13, 14, 46, 47, 51, 52, 53] [(3, .int .i64 z_), (4, .slice A ms.length c), (11, pt d13 0), (13, pt p28 0), (14, .int .i64 2), (46, .agg #[.int .i64 (n0 : Int), .int .i64 (n1 : Int), .int .i64 (n2 : Int)]), (47, .int .i64 2), (51, .int .i64 (n2 : Int)), (52, .int .i64 (i2 : Int)), (53, .bool (decide ((i2 : Int) < (n2 : Int))))] (by kernel_rfl) rfl ?_
        refine GL.k rfl hK90 (fun _ _ h => h) ?_
        refine G.seqK fun K91 hK92 => ?_
        cases hb93 : (decide ((i2 : Int) < (n2 : Int)))
        · skip
          have hb93f := of_decide_eq_false hb93
          obtain rfl : n2 = i2 := by omega
          refine G.no rfl ?_
          refine G.exitK hK81 (fun _ _ h => h) ?_
          refine G.region ?_
          refine GL.run (j := 2) 2 [3, 4, 11, 13, 46, 47] [(3, .int .i64 z_), (4, .slice A ms.length c), (11, pt d13 0), (13, pt p28 0), (46, .agg #[.int .i64 (n0 : Int), .int .i64 (n1 : Int), .int .i64 (n2 : Int)]), (47, .int .i64 3)] (by kernel_rfl) rfl ?_
          refine GL.round rfl ?_
          refine G.seqK fun K94 hK95 => ?_
          refine G.region ?_
          refine GL.run (j := 1) 1 [3, 4, 11, 13, 46, 47, 48] [(3, .int .i64 z_), (4, .slice A ms.length c), (11, pt d13 0), (13, pt p28 0), (46, .agg #[.int .i64 (n0 : Int), .int .i64 (n1 : Int), .int .i64 (n2 : Int)]), (47, .int .i64 3), (48, .bool false)] (by kernel_rfl) rfl ?_
          refine GL.k rfl hK95 (fun _ _ h => h) ?_
          refine G.seqK fun K96 hK97 => ?_
          refine G.no rfl ?_
          refine G.exitK hK36 (fun _ _ h => h) ?_
          refine G.seqK fun K98 hK99 => ?_
          refine G.region ?_
          obtain ⟨ua, hua, hua2⟩ := u64_of z_
          obtain ⟨k, hk, hk3⟩ : ∃ n_ : Nat, n_ = ua % 3 ∧ n_ < 3 := ⟨_, rfl, Nat.mod_lt _ (by decide)⟩
          refine GL.run (j := 5) 5 [3, 4, 11, 13] [(3, .int .i64 (IntKind.i64.wrap (Int.tmod (IntKind.u64.wrap z_) 3))), (4, .slice A ms.length c), (11, pt d13 0), (13, pt p28 0)] (by kernel_rfl) rfl ?_
          have e100 : (IntKind.u64.wrap z_) = (ua : Int) := hua
          have e101 : (Int.tmod (ua : Int) 3) = (k : Int) := (n_rem _ 3).trans (by rw [hk])
          have e102 : (IntKind.i64.wrap (k : Int)) = (k : Int) := in_i64 (by omega)
          refine GL.eq (M' := [(3, .int .i64 (k : Int)), (4, .slice A ms.length c), (11, pt d13 0), (13, pt p28 0)]) (by rw [e100, e101, e102]) ?_
          clear e100 e101 e102
          refine GL.k rfl hK99 (fun _ _ h => h) ?_
          refine G.seqK fun K103 hK104 => ?_
          refine G.region ?_
          refine GL.run (j := 1) 1 [3, 4, 11, 13, 68] [(3, .int .i64 (k : Int)), (4, .slice A ms.length c), (11, pt d13 0), (13, pt p28 0), (68, .int .i64 (k : Int))] (by kernel_rfl) rfl ?_
          refine GL.sem (j := 2) (run_idxArr (P := Try.prog) (k := .i64) (t := 28) (len := 3) (sz := 1) (b := p28) (o := 0) (j := k) (by kernel_rfl) rfl (by omega)) [3, 4, 11, 13, 69] [(3, .int .i64 (k : Int)), (4, .slice A ms.length c), (11, pt d13 0), (13, pt p28 0), (69, pt p28 (0 + k * 1))] (by kernel_rfl) (by kernel_rfl) rfl ?_
          refine GL.sem (j := 3) (H88.ld (o := (0 + k * 1)) (ty := 3) (v := .int .i64 (((sel3 k n0 n1 n2) : Nat) : Int)) 0 rfl (by kernel_rfl) (sel3_at hk3)) [3, 4, 11, 13, 70] [(3, .int .i64 (k : Int)), (4, .slice A ms.length c), (11, pt d13 0), (13, pt p28 0), (70, .int .i64 (((sel3 k n0 n1 n2) : Nat) : Int))] (by kernel_rfl) (by kernel_rfl) rfl ?_
          refine GL.run (j := 5) 2 [3, 4, 11, 13, 17] [(3, .int .i64 (k : Int)), (4, .slice A ms.length c), (11, pt d13 0), (13, pt p28 0), (17, .bool (decide (0 < (((sel3 k n0 n1 n2) : Nat) : Int))))] (by kernel_rfl) rfl ?_
          refine GL.k rfl hK104 (fun _ _ h => h) ?_
          refine G.seqK fun K105 hK106 => ?_
          refine G.region ?_
          refine GL.run (j := 1) 1 [3, 4, 11, 13, 17, 72] [(3, .int .i64 (k : Int)), (4, .slice A ms.length c), (11, pt d13 0), (13, pt p28 0), (17, .bool (decide (0 < (((sel3 k n0 n1 n2) : Nat) : Int)))), (72, .agg #[.int .i64 0, .int .i64 0, .int .i64 0])] (by kernel_rfl) rfl ?_
          obtain ⟨p107, w108, r109, H110⟩ := H88.alloc (P := Try.prog) 28 [.int .i64 0, .int .i64 0, .int .i64 0] (by kernel_rfl)
          have H110 : Hp w [] [.blk p28 [.int .i64 (n0 : Int), .int .i64 (n1 : Int), .int .i64 (n2 : Int)] 28, .blk d13 [.chan (some b0.ch), .chan (some b1.ch), .chan (some b2.ch), .int .i64 (b0.p : Int), .int .i64 (b1.p : Int), .int .i64 (b2.p : Int), .bool false] 52, .obj b0.ch (chO 256 b0.l false b0.s b0.r), .obj b1.ch (chO 256 b1.l false b1.s b1.r), .obj b2.ch (chO 256 b2.l false b2.s b2.r), .bag G2, .blk p107 [.int .i64 0, .int .i64 0, .int .i64 0] 28] w108 := H110
          refine GL.sem (j := 2) (r109) [3, 4, 11, 13, 17, 18, 72] [(3, .int .i64 (k : Int)), (4, .slice A ms.length c), (11, pt d13 0), (13, pt p28 0), (17, .bool (decide (0 < (((sel3 k n0 n1 n2) : Nat) : Int)))), (18, pt p107 0), (72, .agg #[.int .i64 0, .int .i64 0, .int .i64 0])] (by kernel_rfl) (by kernel_rfl) rfl ?_
          obtain ⟨w111, r112, H113⟩ := H110.stA (P := Try.prog) (o := 0) (vs := [.int .i64 0, .int .i64 0, .int .i64 0]) (ty := 28) (m := 3) 6 rfl (by kernel_rfl) rfl (by simp) (by simp [Value.oneCell'])
          have H113 : Hp w [] [.blk p28 [.int .i64 (n0 : Int), .int .i64 (n1 : Int), .int .i64 (n2 : Int)] 28, .blk d13 [.chan (some b0.ch), .chan (some b1.ch), .chan (some b2.ch), .int .i64 (b0.p : Int), .int .i64 (b1.p : Int), .int .i64 (b2.p : Int), .bool false] 52, .obj b0.ch (chO 256 b0.l false b0.s b0.r), .obj b1.ch (chO 256 b1.l false b1.s b1.r), .obj b2.ch (chO 256 b2.l false b2.s b2.r), .bag G2, .blk p107 [.int .i64 0, .int .i64 0, .int .i64 0] 28] w111 := H113
          refine GL.semU (j := 3) r112 [3, 4, 11, 13, 17, 18] [(3, .int .i64 (k : Int)), (4, .slice A ms.length c), (11, pt d13 0), (13, pt p28 0), (17, .bool (decide (0 < (((sel3 k n0 n1 n2) : Nat) : Int)))), (18, pt p107 0)] (by kernel_rfl) rfl rfl rfl ?_
          refine GL.k rfl hK106 (fun _ _ h => h) ?_
          refine G.seqK fun K114 hK115 => ?_
          refine G.seqK fun K116 hK117 => ?_
          refine G.region ?_
          refine GL.run (j := 1) 1 [3, 4, 11, 13, 17, 18, 19] [(3, .int .i64 (k : Int)), (4, .slice A ms.length c), (11, pt d13 0), (13, pt p28 0), (17, .bool (decide (0 < (((sel3 k n0 n1 n2) : Nat) : Int)))), (18, pt p107 0), (19, .int .i64 0)] (by kernel_rfl) rfl ?_
          refine GL.k rfl hK117 (fun _ _ h => h) ?_
          refine G.block ?_
          have H118 := (Hp.reorder (L' := [.blk d13 [.chan (some b0.ch), .chan (some b1.ch), .chan (some b2.ch), .int .i64 (b0.p : Int), .int .i64 (b1.p : Int), .int .i64 (b2.p : Int), .bool false] 52, .obj b0.ch (chO 256 b0.l false b0.s b0.r), .obj b1.ch (chO 256 b1.l false b1.s b1.r), .obj b2.ch (chO 256 b2.l false b2.s b2.r), .bag G2, .blk p28 [.int .i64 (n0 : Int), .int .i64 (n1 : Int), .int .i64 (n2 : Int)] 28, .blk p107 [.int .i64 0, .int .i64 0, .int .i64 0] 28]) H113 (List.Perm.trans (List.Perm.swap _ _ _) (List.Perm.cons _ (List.Perm.trans (List.Perm.swap _ _ _) (List.Perm.cons _ (List.Perm.trans (List.Perm.swap _ _ _) (List.Perm.cons _ (List.Perm.trans (List.Perm.swap _ _ _) (List.Perm.cons _ (List.Perm.trans (List.Perm.swap _ _ _) (List.Perm.refl _)))))))))))
          refine G.fit [3, 4, 11, 13, 17, 18, 19] (M' := [(3, .int .i64 (k : Int)), (4, .slice A ms.length c), (11, pt d13 0), (13, pt p28 0), (17, .bool (decide (0 < (((sel3 k n0 n1 n2) : Nat) : Int)))), (18, pt p107 0), (19, .int .i64 0)]) (by kernel_rfl) ?_
          refine G.loop (X := Nat × Bool × Lane × Lane × Lane × List (Option Addr × Nat × Nat × TypeId × List Value) × Nat × Nat × Nat × Nat × Nat × Nat) (fun ⟨i, wt, a0, a1, a2, Gg, p0, p1, p2, t0, t1, t2⟩ => [(3, .int .i64 (k : Int)), (4, .slice A ms.length c), (11, pt d13 0), (13, pt p28 0), (17, .bool wt), (18, pt p107 0), (19, .int .i64 (i : Int))]) (fun ⟨i, wt, a0, a1, a2, Gg, p0, p1, p2, t0, t1, t2⟩ w_ => ((LQ a0 t0 p0 ∧ LQ a1 t1 p1 ∧ LQ a2 t2 p2) ∧ (a0.z ∧ a1.z ∧ a2.z) ∧ (LnOk Gg a0 ∧ LnOk Gg a1 ∧ LnOk Gg a2) ∧ (a0.p ≤ i ∧ a1.p ≤ i ∧ a2.p ≤ i) ∧ (t0 + t1 + t2 = i ∧ p0 + p1 + p2 ≤ 177 + min i ms.length) ∧ (wt = true → WT i k a0 a1 a2)) ∧ Hp w [] [.blk d13 [.chan (some a0.ch), .chan (some a1.ch), .chan (some a2.ch), .int .i64 (a0.p : Int), .int .i64 (a1.p : Int), .int .i64 (a2.p : Int), .bool false] 52, .obj a0.ch (chO 256 a0.l false a0.s a0.r), .obj a1.ch (chO 256 a1.l false a1.s a1.r), .obj a2.ch (chO 256 a2.l false a2.s a2.r), .bag Gg, .blk p28 [.int .i64 (p0 : Int), .int .i64 (p1 : Int), .int .i64 (p2 : Int)] 28, .blk p107 [.int .i64 (t0 : Int), .int .i64 (t1 : Int), .int .i64 (t2 : Int)] 28] w_) (fun ⟨i, wt, a0, a1, a2, Gg, p0, p1, p2, t0, t1, t2⟩ => (p0 - t0) + (p1 - t1) + (p2 - t2) + (ms.length - i)) ⟨0, (decide (0 < (((sel3 k n0 n1 n2) : Nat) : Int))), b0, b1, b2, G2, n0, n1, n2, 0, 0, 0⟩ [3, 4, 11, 13, 17, 18, 19] (by kernel_rfl) ⟨⟨⟨hL0, hL1, hL2⟩, ⟨hz0, hz1, hz2⟩, ⟨hok2_0, hok2_1, hok2_2⟩, ⟨Nat.le_of_eq hp0, Nat.le_of_eq hp1, Nat.le_of_eq hp2⟩, ⟨rfl, by omega⟩, fun h_ => wt_start hL0 hL1 hL2 hp0 hp1 hp2 hk3 (by have h2_ := of_decide_eq_true h_; omega)⟩, H118⟩ ?_
          rintro ⟨i, wt, a0, a1, a2, Gg, p0, p1, p2, t0, t1, t2⟩ w119 ⟨hi120, H121⟩
          refine G.eq (M' := [(3, .int .i64 (k : Int)), (4, .slice A ms.length c), (11, pt d13 0), (13, pt p28 0), (17, .bool wt), (18, pt p107 0), (19, .int .i64 (i : Int))]) rfl ?_
          have H121 : Hp w [] [.blk d13 [.chan (some a0.ch), .chan (some a1.ch), .chan (some a2.ch), .int .i64 (a0.p : Int), .int .i64 (a1.p : Int), .int .i64 (a2.p : Int), .bool false] 52, .obj a0.ch (chO 256 a0.l false a0.s a0.r), .obj a1.ch (chO 256 a1.l false a1.s a1.r), .obj a2.ch (chO 256 a2.l false a2.s a2.r), .bag Gg, .blk p28 [.int .i64 (p0 : Int), .int .i64 (p1 : Int), .int .i64 (p2 : Int)] 28, .blk p107 [.int .i64 (t0 : Int), .int .i64 (t1 : Int), .int .i64 (t2 : Int)] 28] w119 := H121
          obtain ⟨⟨hL0, hL1, hL2⟩, ⟨hz0, hz1, hz2⟩, ⟨hok0, hok1, hok2⟩, ⟨hb0, hb1, hb2⟩, ⟨hsum, hps⟩, hWT⟩ := hi120
          have hle0 := hL0.2
          have hll0 := hL0.len
          have hle1 := hL1.2
          have hll1 := hL1.len
          have hle2 := hL2.2
          have hll2 := hL2.len
          refine G.seqK fun K122 hK123 => ?_
          refine G.block ?_
          refine G.seqJ (X := Lane × Lane × Lane × List (Option Addr × Nat × Nat × TypeId × List Value) × Nat × Nat × Nat) (fun ⟨a0_, a1_, a2_, G_, p0_, p1_, p2_⟩ => [(3, .int .i64 (k : Int)), (4, .slice A ms.length c), (11, pt d13 0), (13, pt p28 0), (17, .bool wt), (18, pt p107 0), (19, .int .i64 (i : Int))]) (fun ⟨a0_, a1_, a2_, G_, p0_, p1_, p2_⟩ w_ => ((LQ a0_ t0 p0_ ∧ LQ a1_ t1 p1_ ∧ LQ a2_ t2 p2_) ∧ (a0_.z ∧ a1_.z ∧ a2_.z) ∧ (LnOk G_ a0_ ∧ LnOk G_ a1_ ∧ LnOk G_ a2_) ∧ (a0_.p ≤ i ∧ a1_.p ≤ i ∧ a2_.p ≤ i) ∧ (p0_ + p1_ + p2_ ≤ 177 + min (i + 1) ms.length ∧ p0_ + p1_ + p2_ + (ms.length - (i + 1)) ≤ p0 + p1 + p2 + (ms.length - i)) ∧ (wt = true → WT i k a0_ a1_ a2_)) ∧ Hp w [] [.blk d13 [.chan (some a0_.ch), .chan (some a1_.ch), .chan (some a2_.ch), .int .i64 (a0_.p : Int), .int .i64 (a1_.p : Int), .int .i64 (a2_.p : Int), .bool false] 52, .obj a0_.ch (chO 256 a0_.l false a0_.s a0_.r), .obj a1_.ch (chO 256 a1_.l false a1_.s a1_.r), .obj a2_.ch (chO 256 a2_.l false a2_.s a2_.r), .bag G_, .blk p28 [.int .i64 (p0_ : Int), .int .i64 (p1_ : Int), .int .i64 (p2_ : Int)] 28, .blk p107 [.int .i64 (t0 : Int), .int .i64 (t1 : Int), .int .i64 (t2 : Int)] 28] w_) (fun J124 K125 hK126 => ?_) ?_
          · skip
            refine G.seqK fun K127 hK128 => ?_
            refine G.region ?_
            refine GL.run (j := 4) 4 [3, 4, 11, 13, 17, 18, 19, 78] [(3, .int .i64 (k : Int)), (4, .slice A ms.length c), (11, pt d13 0), (13, pt p28 0), (17, .bool wt), (18, pt p107 0), (19, .int .i64 (i : Int)), (78, .bool (decide ((i : Int) < (ms.length : Int))))] (by kernel_rfl) rfl ?_
            refine GL.k rfl hK128 (fun _ _ h => h) ?_
            cases hb129 : (decide ((i : Int) < (ms.length : Int)))
            · skip
              have hb129f := of_decide_eq_false hb129
              refine G.no rfl ?_
              refine G.skipK hK126 (fun _ _ h => h) ?_
              refine G.fit [3, 4, 11, 13, 17, 18, 19] (M' := [(3, .int .i64 (k : Int)), (4, .slice A ms.length c), (11, pt d13 0), (13, pt p28 0), (17, .bool wt), (18, pt p107 0), (19, .int .i64 (i : Int))]) (by kernel_rfl) ?_
              exact J124 ⟨a0, a1, a2, Gg, p0, p1, p2⟩ _ ⟨⟨⟨hL0, hL1, hL2⟩, ⟨hz0, hz1, hz2⟩, ⟨hok0, hok1, hok2⟩, ⟨hb0, hb1, hb2⟩, ⟨by omega, by omega⟩, hWT⟩, H121⟩
            · skip
              have hb129f := of_decide_eq_true hb129
              refine G.yes rfl ?_
              refine G.seqK fun K131 hK132 => ?_
              refine G.region ?_
              refine GL.run (j := 2) 2 [3, 4, 11, 13, 17, 18, 19, 79, 80] [(3, .int .i64 (k : Int)), (4, .slice A ms.length c), (11, pt d13 0), (13, pt p28 0), (17, .bool wt), (18, pt p107 0), (19, .int .i64 (i : Int)), (79, .slice A ms.length c), (80, .int .i64 (i : Int))] (by kernel_rfl) rfl ?_
              refine GL.sem (j := 3) (run_idxRd (P := Try.prog) (k := .i64) (t := 22) (A := A) (len := ms.length) (cap := c) (j := i) (by kernel_rfl) rfl (hx.hp H121) (by rw [by8_length]) (by first | rfl | omega | (simp only [List.length_cons, List.length_nil, List.length_drop, List.length_take, List.length_append] <;> omega))) [3, 4, 11, 13, 17, 18, 19, 81] [(3, .int .i64 (k : Int)), (4, .slice A ms.length c), (11, pt d13 0), (13, pt p28 0), (17, .bool wt), (18, pt p107 0), (19, .int .i64 (i : Int)), (81, .pointer (Option.map (fun x => Addr.add x i) A))] (by kernel_rfl) (by kernel_rfl) rfl ?_
              refine GL.sem (j := 4) (run_ldRd (P := Try.prog) (ty := 5) (A := A) (j := i) (v := .int .u8 ((ms.getD i 0).toNat : Int)) (by kernel_rfl) (hx.hp H121) (by8_at (getD8 (by omega)))) [3, 4, 11, 13, 17, 18, 19, 82] [(3, .int .i64 (k : Int)), (4, .slice A ms.length c), (11, pt d13 0), (13, pt p28 0), (17, .bool wt), (18, pt p107 0), (19, .int .i64 (i : Int)), (82, .int .u8 ((ms.getD i 0).toNat : Int))] (by kernel_rfl) (by kernel_rfl) rfl ?_
              obtain ⟨q, hq, hq3⟩ : ∃ n_ : Nat, n_ = ((ms.getD i 0).toNat) % 3 ∧ n_ < 3 := ⟨_, rfl, Nat.mod_lt _ (by decide)⟩
              refine GL.run (j := 7) 3 [3, 4, 11, 13, 17, 18, 19, 20] [(3, .int .i64 (k : Int)), (4, .slice A ms.length c), (11, pt d13 0), (13, pt p28 0), (17, .bool wt), (18, pt p107 0), (19, .int .i64 (i : Int)), (20, .int .i64 (IntKind.i64.wrap (Int.tmod ((ms.getD i 0).toNat : Int) 3)))] (by kernel_rfl) rfl ?_
              have e133 : (Int.tmod ((ms.getD i 0).toNat : Int) 3) = (q : Int) := (n_rem _ 3).trans (by rw [hq])
              have e134 : (IntKind.i64.wrap (q : Int)) = (q : Int) := in_i64 (by omega)
              refine GL.eq (M' := [(3, .int .i64 (k : Int)), (4, .slice A ms.length c), (11, pt d13 0), (13, pt p28 0), (17, .bool wt), (18, pt p107 0), (19, .int .i64 (i : Int)), (20, .int .i64 (q : Int))]) (by rw [e133, e134]) ?_
              clear e133 e134
              refine GL.k rfl hK132 (fun _ _ h => h) ?_
              refine G.seqK fun K135 hK136 => ?_
              refine G.seqK fun K137 hK138 => ?_
              refine G.region ?_
              obtain rfl | rfl | rfl : q = 0 ∨ q = 1 ∨ q = 2 := by omega
              · skip
                refine GL.eq (M' := [(3, .int .i64 (k : Int)), (4, .slice A ms.length c), (11, pt d13 0), (13, pt p28 0), (17, .bool wt), (18, pt p107 0), (19, .int .i64 (i : Int)), (20, .int .i64 0)]) rfl ?_
                refine GL.run (j := 4) 4 [3, 4, 11, 13, 17, 18, 19, 20, 85, 86, 88] [(3, .int .i64 (k : Int)), (4, .slice A ms.length c), (11, pt d13 0), (13, pt p28 0), (17, .bool wt), (18, pt p107 0), (19, .int .i64 (i : Int)), (20, .int .i64 0), (85, pt d13 0), (86, .int .i64 0), (88, pt p28 0)] (by kernel_rfl) rfl ?_
                refine GL.sem (j := 5) (H121.ld (o := 0) (ty := 3) (v := .int .i64 (p0 : Int)) 5 rfl (by kernel_rfl) rfl) [3, 4, 11, 13, 17, 18, 19, 20, 85, 86, 89] [(3, .int .i64 (k : Int)), (4, .slice A ms.length c), (11, pt d13 0), (13, pt p28 0), (17, .bool wt), (18, pt p107 0), (19, .int .i64 (i : Int)), (20, .int .i64 0), (85, pt d13 0), (86, .int .i64 0), (89, .int .i64 (p0 : Int))] (by kernel_rfl) (by kernel_rfl) rfl ?_
                refine GL.run (j := 6) 1 [3, 4, 11, 13, 17, 18, 19, 20, 85, 86, 90] [(3, .int .i64 (k : Int)), (4, .slice A ms.length c), (11, pt d13 0), (13, pt p28 0), (17, .bool wt), (18, pt p107 0), (19, .int .i64 (i : Int)), (20, .int .i64 0), (85, pt d13 0), (86, .int .i64 0), (90, .int .u8 (IntKind.u8.wrap (p0 : Int)))] (by kernel_rfl) rfl ?_
                have e139 : (IntKind.u8.wrap (p0 : Int)) = ((UInt8.ofNat p0).toNat : Int) := n_byte _
                refine GL.eq (M' := [(3, .int .i64 (k : Int)), (4, .slice A ms.length c), (11, pt d13 0), (13, pt p28 0), (17, .bool wt), (18, pt p107 0), (19, .int .i64 (i : Int)), (20, .int .i64 0), (85, pt d13 0), (86, .int .i64 0), (90, .int .u8 ((UInt8.ofNat p0).toNat : Int))]) (by rw [e139]) ?_
                clear e139
                obtain ⟨p140, w141, r142, H143⟩ := H121.made (P := Try.prog) (Instr.buildSlice 22 1 #[(0, .int .u8 ((UInt8.ofNat p0).toNat : Int))]) (fun b_ => .slice (some ⟨b_, 0, none⟩) 1 1) [.int .u8 ((UInt8.ofNat p0).toNat : Int)] 5 (by kernel_rfl)
                have H143 : Hp w [] [.blk d13 [.chan (some a0.ch), .chan (some a1.ch), .chan (some a2.ch), .int .i64 (a0.p : Int), .int .i64 (a1.p : Int), .int .i64 (a2.p : Int), .bool false] 52, .obj a0.ch (chO 256 a0.l false a0.s a0.r), .obj a1.ch (chO 256 a1.l false a1.s a1.r), .obj a2.ch (chO 256 a2.l false a2.s a2.r), .bag Gg, .blk p28 [.int .i64 (p0 : Int), .int .i64 (p1 : Int), .int .i64 (p2 : Int)] 28, .blk p107 [.int .i64 (t0 : Int), .int .i64 (t1 : Int), .int .i64 (t2 : Int)] 28, .blk p140 [.int .u8 ((UInt8.ofNat p0).toNat : Int)] 5] w141 := H143
                refine GL.sem (j := 7) (r142) [3, 4, 11, 13, 17, 18, 19, 20, 85, 86, 91] [(3, .int .i64 (k : Int)), (4, .slice A ms.length c), (11, pt d13 0), (13, pt p28 0), (17, .bool wt), (18, pt p107 0), (19, .int .i64 (i : Int)), (20, .int .i64 0), (85, pt d13 0), (86, .int .i64 0), (91, .slice (some ⟨p140, 0, none⟩) 1 1)] (by kernel_rfl) (by kernel_rfl) rfl ?_
                refine GL.call (j := 8) (PutOk0_calls (ids [.blk d13 [.chan (some a0.ch), .chan (some a1.ch), .chan (some a2.ch), .int .i64 (a0.p : Int), .int .i64 (a1.p : Int), .int .i64 (a2.p : Int), .bool false] 52, .obj a0.ch (chO 256 a0.l false a0.s a0.r), .obj a1.ch (chO 256 a1.l false a1.s a1.r), .obj a2.ch (chO 256 a2.l false a2.s a2.r), .bag Gg]) d13 256 a0 a1 a2 Gg (some ⟨p140, 0, none⟩) ([(UInt8.ofNat p0)] : List UInt8) 1 w141 (Hp.startL (A := [.blk d13 [.chan (some a0.ch), .chan (some a1.ch), .chan (some a2.ch), .int .i64 (a0.p : Int), .int .i64 (a1.p : Int), .int .i64 (a2.p : Int), .bool false] 52, .obj a0.ch (chO 256 a0.l false a0.s a0.r), .obj a1.ch (chO 256 a1.l false a1.s a1.r), .obj a2.ch (chO 256 a2.l false a2.s a2.r), .bag Gg]) (B := [.blk p28 [.int .i64 (p0 : Int), .int .i64 (p1 : Int), .int .i64 (p2 : Int)] 28, .blk p107 [.int .i64 (t0 : Int), .int .i64 (t1 : Int), .int .i64 (t2 : Int)] 28, .blk p140 [.int .u8 ((UInt8.ofNat p0).toNat : Int)] 5]) H143) (RdO.blk (A' := [.blk d13 [.chan (some a0.ch), .chan (some a1.ch), .chan (some a2.ch), .int .i64 (a0.p : Int), .int .i64 (a1.p : Int), .int .i64 (a2.p : Int), .bool false] 52, .obj a0.ch (chO 256 a0.l false a0.s a0.r), .obj a1.ch (chO 256 a1.l false a1.s a1.r), .obj a2.ch (chO 256 a2.l false a2.s a2.r), .bag Gg]) (B' := [.blk p28 [.int .i64 (p0 : Int), .int .i64 (p1 : Int), .int .i64 (p2 : Int)] 28, .blk p107 [.int .i64 (t0 : Int), .int .i64 (t1 : Int), .int .i64 (t2 : Int)] 28, .blk p140 [.int .u8 ((UInt8.ofNat p0).toNat : Int)] 5]) H143 2 1 rfl rfl) (by have h_ := hL0.len; omega) (by show (1 : Nat) ≤ 4096; decide)) (by kernel_rfl) rfl (fun e_ w146 hR => ?_)
                obtain ⟨A144, c145, rfl, H148⟩ := hR
                have H147 : Hp w [] [.blk d13 [.chan (some (a0.put (Msg.mk A144 ([(UInt8.ofNat p0)] : List UInt8) c145)).ch), .chan (some a1.ch), .chan (some a2.ch), .int .i64 (((a0.put (Msg.mk A144 ([(UInt8.ofNat p0)] : List UInt8) c145)).p : Nat) : Int), .int .i64 (a1.p : Int), .int .i64 (a2.p : Int), .bool false] 52, .obj (a0.put (Msg.mk A144 ([(UInt8.ofNat p0)] : List UInt8) c145)).ch (chO 256 (a0.put (Msg.mk A144 ([(UInt8.ofNat p0)] : List UInt8) c145)).l false (a0.put (Msg.mk A144 ([(UInt8.ofNat p0)] : List UInt8) c145)).s (a0.put (Msg.mk A144 ([(UInt8.ofNat p0)] : List UInt8) c145)).r), .obj a1.ch (chO 256 a1.l false a1.s a1.r), .obj a2.ch (chO 256 a2.l false a2.s a2.r), .bag ((A144, ([(UInt8.ofNat p0)] : List UInt8).length, c145, 5, by8 ([(UInt8.ofNat p0)] : List UInt8)) :: Gg), .blk p28 [.int .i64 (p0 : Int), .int .i64 (p1 : Int), .int .i64 (p2 : Int)] 28, .blk p107 [.int .i64 (t0 : Int), .int .i64 (t1 : Int), .int .i64 (t2 : Int)] 28, .blk p140 [.int .u8 ((UInt8.ofNat p0).toNat : Int)] 5] w146 := Hp.callL (A := [.blk d13 [.chan (some a0.ch), .chan (some a1.ch), .chan (some a2.ch), .int .i64 (a0.p : Int), .int .i64 (a1.p : Int), .int .i64 (a2.p : Int), .bool false] 52, .obj a0.ch (chO 256 a0.l false a0.s a0.r), .obj a1.ch (chO 256 a1.l false a1.s a1.r), .obj a2.ch (chO 256 a2.l false a2.s a2.r), .bag Gg]) (B := [.blk p28 [.int .i64 (p0 : Int), .int .i64 (p1 : Int), .int .i64 (p2 : Int)] 28, .blk p107 [.int .i64 (t0 : Int), .int .i64 (t1 : Int), .int .i64 (t2 : Int)] 28, .blk p140 [.int .u8 ((UInt8.ofNat p0).toNat : Int)] 5]) H143 H148
                refine ⟨_, rfl, [3, 4, 11, 13, 17, 18, 19, 20, 92], [(3, .int .i64 (k : Int)), (4, .slice A ms.length c), (11, pt d13 0), (13, pt p28 0), (17, .bool wt), (18, pt p107 0), (19, .int .i64 (i : Int)), (20, .int .i64 0), (92, .int .i64 0)], by kernel_rfl, ?_⟩
                refine GL.run (j := 9) 1 [3, 4, 11, 13, 17, 18, 19, 20, 93] [(3, .int .i64 (k : Int)), (4, .slice A ms.length c), (11, pt d13 0), (13, pt p28 0), (17, .bool wt), (18, pt p107 0), (19, .int .i64 (i : Int)), (20, .int .i64 0), (93, .bool false)] (by kernel_rfl) rfl ?_
                refine GL.k rfl hK138 (fun _ _ h => h) ?_
                refine G.no rfl ?_
                refine G.skipK hK136 (fun _ _ h => h) ?_
                refine G.region ?_
                refine GL.run (j := 2) 2 [3, 4, 11, 13, 17, 18, 19, 94, 95] [(3, .int .i64 (k : Int)), (4, .slice A ms.length c), (11, pt d13 0), (13, pt p28 0), (17, .bool wt), (18, pt p107 0), (19, .int .i64 (i : Int)), (94, .int .i64 0), (95, pt p28 0)] (by kernel_rfl) rfl ?_
                refine GL.sem (j := 3) (H147.ld (o := 0) (ty := 3) (v := .int .i64 (p0 : Int)) 5 rfl (by kernel_rfl) rfl) [3, 4, 11, 13, 17, 18, 19, 94, 96] [(3, .int .i64 (k : Int)), (4, .slice A ms.length c), (11, pt d13 0), (13, pt p28 0), (17, .bool wt), (18, pt p107 0), (19, .int .i64 (i : Int)), (94, .int .i64 0), (96, .int .i64 (p0 : Int))] (by kernel_rfl) (by kernel_rfl) rfl ?_
                refine GL.run (j := 5) 2 [3, 4, 11, 13, 17, 18, 19, 97, 98] [(3, .int .i64 (k : Int)), (4, .slice A ms.length c), (11, pt d13 0), (13, pt p28 0), (17, .bool wt), (18, pt p107 0), (19, .int .i64 (i : Int)), (97, .int .i64 (IntKind.i64.wrap ((p0 : Int) + 1))), (98, pt p28 0)] (by kernel_rfl) rfl ?_
                have e149 : (IntKind.i64.wrap ((p0 : Int) + 1)) = ((p0 + 1 : Nat) : Int) := by rw [in_i64 (by omega)]; omega
                refine GL.eq (M' := [(3, .int .i64 (k : Int)), (4, .slice A ms.length c), (11, pt d13 0), (13, pt p28 0), (17, .bool wt), (18, pt p107 0), (19, .int .i64 (i : Int)), (97, .int .i64 ((p0 + 1 : Nat) : Int)), (98, pt p28 0)]) (by rw [e149]) ?_
                clear e149
                obtain ⟨w150, r151, H152⟩ := H147.st (P := Try.prog) (o := 0) (ty := 3) (v := .int .i64 ((p0 + 1 : Nat) : Int)) 5 rfl (by kernel_rfl) (by simp) rfl
                have H152 : Hp w [] [.blk d13 [.chan (some (a0.put (Msg.mk A144 ([(UInt8.ofNat p0)] : List UInt8) c145)).ch), .chan (some a1.ch), .chan (some a2.ch), .int .i64 (((a0.put (Msg.mk A144 ([(UInt8.ofNat p0)] : List UInt8) c145)).p : Nat) : Int), .int .i64 (a1.p : Int), .int .i64 (a2.p : Int), .bool false] 52, .obj (a0.put (Msg.mk A144 ([(UInt8.ofNat p0)] : List UInt8) c145)).ch (chO 256 (a0.put (Msg.mk A144 ([(UInt8.ofNat p0)] : List UInt8) c145)).l false (a0.put (Msg.mk A144 ([(UInt8.ofNat p0)] : List UInt8) c145)).s (a0.put (Msg.mk A144 ([(UInt8.ofNat p0)] : List UInt8) c145)).r), .obj a1.ch (chO 256 a1.l false a1.s a1.r), .obj a2.ch (chO 256 a2.l false a2.s a2.r), .bag ((A144, ([(UInt8.ofNat p0)] : List UInt8).length, c145, 5, by8 ([(UInt8.ofNat p0)] : List UInt8)) :: Gg), .blk p28 [.int .i64 ((p0 + 1 : Nat) : Int), .int .i64 (p1 : Int), .int .i64 (p2 : Int)] 28, .blk p107 [.int .i64 (t0 : Int), .int .i64 (t1 : Int), .int .i64 (t2 : Int)] 28, .blk p140 [.int .u8 ((UInt8.ofNat p0).toNat : Int)] 5] w150 := H152
                refine GL.semU (j := 6) r151 [3, 4, 11, 13, 17, 18, 19] [(3, .int .i64 (k : Int)), (4, .slice A ms.length c), (11, pt d13 0), (13, pt p28 0), (17, .bool wt), (18, pt p107 0), (19, .int .i64 (i : Int))] (by kernel_rfl) rfl rfl rfl ?_
                refine GL.k rfl hK126 (fun _ _ h => h) ?_
                have H153 : Hp w [] [.blk d13 [.chan (some (a0.put (Msg.mk A144 ([(UInt8.ofNat p0)] : List UInt8) c145)).ch), .chan (some a1.ch), .chan (some a2.ch), .int .i64 (((a0.put (Msg.mk A144 ([(UInt8.ofNat p0)] : List UInt8) c145)).p : Nat) : Int), .int .i64 (a1.p : Int), .int .i64 (a2.p : Int), .bool false] 52, .obj (a0.put (Msg.mk A144 ([(UInt8.ofNat p0)] : List UInt8) c145)).ch (chO 256 (a0.put (Msg.mk A144 ([(UInt8.ofNat p0)] : List UInt8) c145)).l false (a0.put (Msg.mk A144 ([(UInt8.ofNat p0)] : List UInt8) c145)).s (a0.put (Msg.mk A144 ([(UInt8.ofNat p0)] : List UInt8) c145)).r), .obj a1.ch (chO 256 a1.l false a1.s a1.r), .obj a2.ch (chO 256 a2.l false a2.s a2.r), .bag ((A144, ([(UInt8.ofNat p0)] : List UInt8).length, c145, 5, by8 ([(UInt8.ofNat p0)] : List UInt8)) :: Gg), .blk p28 [.int .i64 ((p0 + 1 : Nat) : Int), .int .i64 (p1 : Int), .int .i64 (p2 : Int)] 28, .blk p107 [.int .i64 (t0 : Int), .int .i64 (t1 : Int), .int .i64 (t2 : Int)] 28] w150 := H152.sub (List.Sublist.cons_cons _ (List.Sublist.cons_cons _ (List.Sublist.cons_cons _ (List.Sublist.cons_cons _ (List.Sublist.cons_cons _ (List.Sublist.cons_cons _ (List.Sublist.cons_cons _ (List.Sublist.cons _ (List.Sublist.slnil)))))))))
                refine G.fit [3, 4, 11, 13, 17, 18, 19] (M' := [(3, .int .i64 (k : Int)), (4, .slice A ms.length c), (11, pt d13 0), (13, pt p28 0), (17, .bool wt), (18, pt p107 0), (19, .int .i64 (i : Int))]) (by kernel_rfl) ?_
                exact J124 ⟨(a0.put (Msg.mk A144 ([(UInt8.ofNat p0)] : List UInt8) c145)), a1, a2, ((A144, ([(UInt8.ofNat p0)] : List UInt8).length, c145, 5, by8 ([(UInt8.ofNat p0)] : List UInt8)) :: Gg), (p0 + 1), p1, p2⟩ _ ⟨⟨⟨hL0.put rfl, hL1, hL2⟩, ⟨(Lane.z.put hz0 (Msg.mk A144 ([(UInt8.ofNat p0)] : List UInt8) c145)), hz1, hz2⟩, ⟨(LnOk.put hok0 (Msg.mk A144 ([(UInt8.ofNat p0)] : List UInt8) c145)), (LnOk.more hok1 _), (LnOk.more hok2 _)⟩, ⟨hb0, hb1, hb2⟩, ⟨by omega, by omega⟩, fun h_ => wtp0 (hWT h_)⟩, H153⟩
              · skip
                refine GL.eq (M' := [(3, .int .i64 (k : Int)), (4, .slice A ms.length c), (11, pt d13 0), (13, pt p28 0), (17, .bool wt), (18, pt p107 0), (19, .int .i64 (i : Int)), (20, .int .i64 1)]) rfl ?_
                refine GL.run (j := 4) 4 [3, 4, 11, 13, 17, 18, 19, 20, 85, 86, 88] [(3, .int .i64 (k : Int)), (4, .slice A ms.length c), (11, pt d13 0), (13, pt p28 0), (17, .bool wt), (18, pt p107 0), (19, .int .i64 (i : Int)), (20, .int .i64 1), (85, pt d13 0), (86, .int .i64 1), (88, pt p28 1)] (by kernel_rfl) rfl ?_
                refine GL.sem (j := 5) (H121.ld (o := 1) (ty := 3) (v := .int .i64 (p1 : Int)) 5 rfl (by kernel_rfl) rfl) [3, 4, 11, 13, 17, 18, 19, 20, 85, 86, 89] [(3, .int .i64 (k : Int)), (4, .slice A ms.length c), (11, pt d13 0), (13, pt p28 0), (17, .bool wt), (18, pt p107 0), (19, .int .i64 (i : Int)), (20, .int .i64 1), (85, pt d13 0), (86, .int .i64 1), (89, .int .i64 (p1 : Int))] (by kernel_rfl) (by kernel_rfl) rfl ?_
                refine GL.run (j := 6) 1 [3, 4, 11, 13, 17, 18, 19, 20, 85, 86, 90] [(3, .int .i64 (k : Int)), (4, .slice A ms.length c), (11, pt d13 0), (13, pt p28 0), (17, .bool wt), (18, pt p107 0), (19, .int .i64 (i : Int)), (20, .int .i64 1), (85, pt d13 0), (86, .int .i64 1), (90, .int .u8 (IntKind.u8.wrap (p1 : Int)))] (by kernel_rfl) rfl ?_
                have e155 : (IntKind.u8.wrap (p1 : Int)) = ((UInt8.ofNat p1).toNat : Int) := n_byte _
                refine GL.eq (M' := [(3, .int .i64 (k : Int)), (4, .slice A ms.length c), (11, pt d13 0), (13, pt p28 0), (17, .bool wt), (18, pt p107 0), (19, .int .i64 (i : Int)), (20, .int .i64 1), (85, pt d13 0), (86, .int .i64 1), (90, .int .u8 ((UInt8.ofNat p1).toNat : Int))]) (by rw [e155]) ?_
                clear e155
                obtain ⟨p156, w157, r158, H159⟩ := H121.made (P := Try.prog) (Instr.buildSlice 22 1 #[(0, .int .u8 ((UInt8.ofNat p1).toNat : Int))]) (fun b_ => .slice (some ⟨b_, 0, none⟩) 1 1) [.int .u8 ((UInt8.ofNat p1).toNat : Int)] 5 (by kernel_rfl)
                have H159 : Hp w [] [.blk d13 [.chan (some a0.ch), .chan (some a1.ch), .chan (some a2.ch), .int .i64 (a0.p : Int), .int .i64 (a1.p : Int), .int .i64 (a2.p : Int), .bool false] 52, .obj a0.ch (chO 256 a0.l false a0.s a0.r), .obj a1.ch (chO 256 a1.l false a1.s a1.r), .obj a2.ch (chO 256 a2.l false a2.s a2.r), .bag Gg, .blk p28 [.int .i64 (p0 : Int), .int .i64 (p1 : Int), .int .i64 (p2 : Int)] 28, .blk p107 [.int .i64 (t0 : Int), .int .i64 (t1 : Int), .int .i64 (t2 : Int)] 28, .blk p156 [.int .u8 ((UInt8.ofNat p1).toNat : Int)] 5] w157 := H159
                refine GL.sem (j := 7) (r158) [3, 4, 11, 13, 17, 18, 19, 20, 85, 86, 91] [(3, .int .i64 (k : Int)), (4, .slice A ms.length c), (11, pt d13 0), (13, pt p28 0), (17, .bool wt), (18, pt p107 0), (19, .int .i64 (i : Int)), (20, .int .i64 1), (85, pt d13 0), (86, .int .i64 1), (91, .slice (some ⟨p156, 0, none⟩) 1 1)] (by kernel_rfl) (by kernel_rfl) rfl ?_
                refine GL.call (j := 8) (PutOk1_calls (ids [.blk d13 [.chan (some a0.ch), .chan (some a1.ch), .chan (some a2.ch), .int .i64 (a0.p : Int), .int .i64 (a1.p : Int), .int .i64 (a2.p : Int), .bool false] 52, .obj a0.ch (chO 256 a0.l false a0.s a0.r), .obj a1.ch (chO 256 a1.l false a1.s a1.r), .obj a2.ch (chO 256 a2.l false a2.s a2.r), .bag Gg]) d13 256 a0 a1 a2 Gg (some ⟨p156, 0, none⟩) ([(UInt8.ofNat p1)] : List UInt8) 1 w157 (Hp.startL (A := [.blk d13 [.chan (some a0.ch), .chan (some a1.ch), .chan (some a2.ch), .int .i64 (a0.p : Int), .int .i64 (a1.p : Int), .int .i64 (a2.p : Int), .bool false] 52, .obj a0.ch (chO 256 a0.l false a0.s a0.r), .obj a1.ch (chO 256 a1.l false a1.s a1.r), .obj a2.ch (chO 256 a2.l false a2.s a2.r), .bag Gg]) (B := [.blk p28 [.int .i64 (p0 : Int), .int .i64 (p1 : Int), .int .i64 (p2 : Int)] 28, .blk p107 [.int .i64 (t0 : Int), .int .i64 (t1 : Int), .int .i64 (t2 : Int)] 28, .blk p156 [.int .u8 ((UInt8.ofNat p1).toNat : Int)] 5]) H159) (RdO.blk (A' := [.blk d13 [.chan (some a0.ch), .chan (some a1.ch), .chan (some a2.ch), .int .i64 (a0.p : Int), .int .i64 (a1.p : Int), .int .i64 (a2.p : Int), .bool false] 52, .obj a0.ch (chO 256 a0.l false a0.s a0.r), .obj a1.ch (chO 256 a1.l false a1.s a1.r), .obj a2.ch (chO 256 a2.l false a2.s a2.r), .bag Gg]) (B' := [.blk p28 [.int .i64 (p0 : Int), .int .i64 (p1 : Int), .int .i64 (p2 : Int)] 28, .blk p107 [.int .i64 (t0 : Int), .int .i64 (t1 : Int), .int .i64 (t2 : Int)] 28, .blk p156 [.int .u8 ((UInt8.ofNat p1).toNat : Int)] 5]) H159 2 1 rfl rfl) (by have h_ := hL1.len; omega) (by show (1 : Nat) ≤ 4096; decide)) (by kernel_rfl) rfl (fun e_ w162 hR => ?_)
                obtain ⟨A160, c161, rfl, H164⟩ := hR
                have H163 : Hp w [] [.blk d13 [.chan (some a0.ch), .chan (some (a1.put (Msg.mk A160 ([(UInt8.ofNat p1)] : List UInt8) c161)).ch), .chan (some a2.ch), .int .i64 (a0.p : Int), .int .i64 (((a1.put (Msg.mk A160 ([(UInt8.ofNat p1)] : List UInt8) c161)).p : Nat) : Int), .int .i64 (a2.p : Int), .bool false] 52, .obj a0.ch (chO 256 a0.l false a0.s a0.r), .obj (a1.put (Msg.mk A160 ([(UInt8.ofNat p1)] : List UInt8) c161)).ch (chO 256 (a1.put (Msg.mk A160 ([(UInt8.ofNat p1)] : List UInt8) c161)).l false (a1.put (Msg.mk A160 ([(UInt8.ofNat p1)] : List UInt8) c161)).s (a1.put (Msg.mk A160 ([(UInt8.ofNat p1)] : List UInt8) c161)).r), .obj a2.ch (chO 256 a2.l false a2.s a2.r), .bag ((A160, ([(UInt8.ofNat p1)] : List UInt8).length, c161, 5, by8 ([(UInt8.ofNat p1)] : List UInt8)) :: Gg), .blk p28 [.int .i64 (p0 : Int), .int .i64 (p1 : Int), .int .i64 (p2 : Int)] 28, .blk p107 [.int .i64 (t0 : Int), .int .i64 (t1 : Int), .int .i64 (t2 : Int)] 28, .blk p156 [.int .u8 ((UInt8.ofNat p1).toNat : Int)] 5] w162 := Hp.callL (A := [.blk d13 [.chan (some a0.ch), .chan (some a1.ch), .chan (some a2.ch), .int .i64 (a0.p : Int), .int .i64 (a1.p : Int), .int .i64 (a2.p : Int), .bool false] 52, .obj a0.ch (chO 256 a0.l false a0.s a0.r), .obj a1.ch (chO 256 a1.l false a1.s a1.r), .obj a2.ch (chO 256 a2.l false a2.s a2.r), .bag Gg]) (B := [.blk p28 [.int .i64 (p0 : Int), .int .i64 (p1 : Int), .int .i64 (p2 : Int)] 28, .blk p107 [.int .i64 (t0 : Int), .int .i64 (t1 : Int), .int .i64 (t2 : Int)] 28, .blk p156 [.int .u8 ((UInt8.ofNat p1).toNat : Int)] 5]) H159 H164
                refine ⟨_, rfl, [3, 4, 11, 13, 17, 18, 19, 20, 92], [(3, .int .i64 (k : Int)), (4, .slice A ms.length c), (11, pt d13 0), (13, pt p28 0), (17, .bool wt), (18, pt p107 0), (19, .int .i64 (i : Int)), (20, .int .i64 1), (92, .int .i64 0)], by kernel_rfl, ?_⟩
                refine GL.run (j := 9) 1 [3, 4, 11, 13, 17, 18, 19, 20, 93] [(3, .int .i64 (k : Int)), (4, .slice A ms.length c), (11, pt d13 0), (13, pt p28 0), (17, .bool wt), (18, pt p107 0), (19, .int .i64 (i : Int)), (20, .int .i64 1), (93, .bool false)] (by kernel_rfl) rfl ?_
                refine GL.k rfl hK138 (fun _ _ h => h) ?_
                refine G.no rfl ?_
                refine G.skipK hK136 (fun _ _ h => h) ?_
                refine G.region ?_
                refine GL.run (j := 2) 2 [3, 4, 11, 13, 17, 18, 19, 94, 95] [(3, .int .i64 (k : Int)), (4, .slice A ms.length c), (11, pt d13 0), (13, pt p28 0), (17, .bool wt), (18, pt p107 0), (19, .int .i64 (i : Int)), (94, .int .i64 1), (95, pt p28 1)] (by kernel_rfl) rfl ?_
                refine GL.sem (j := 3) (H163.ld (o := 1) (ty := 3) (v := .int .i64 (p1 : Int)) 5 rfl (by kernel_rfl) rfl) [3, 4, 11, 13, 17, 18, 19, 94, 96] [(3, .int .i64 (k : Int)), (4, .slice A ms.length c), (11, pt d13 0), (13, pt p28 0), (17, .bool wt), (18, pt p107 0), (19, .int .i64 (i : Int)), (94, .int .i64 1), (96, .int .i64 (p1 : Int))] (by kernel_rfl) (by kernel_rfl) rfl ?_
                refine GL.run (j := 5) 2 [3, 4, 11, 13, 17, 18, 19, 97, 98] [(3, .int .i64 (k : Int)), (4, .slice A ms.length c), (11, pt d13 0), (13, pt p28 0), (17, .bool wt), (18, pt p107 0), (19, .int .i64 (i : Int)), (97, .int .i64 (IntKind.i64.wrap ((p1 : Int) + 1))), (98, pt p28 1)] (by kernel_rfl) rfl ?_
                have e165 : (IntKind.i64.wrap ((p1 : Int) + 1)) = ((p1 + 1 : Nat) : Int) := by rw [in_i64 (by omega)]; omega
                refine GL.eq (M' := [(3, .int .i64 (k : Int)), (4, .slice A ms.length c), (11, pt d13 0), (13, pt p28 0), (17, .bool wt), (18, pt p107 0), (19, .int .i64 (i : Int)), (97, .int .i64 ((p1 + 1 : Nat) : Int)), (98, pt p28 1)]) (by rw [e165]) ?_
                clear e165
                obtain ⟨w166, r167, H168⟩ := H163.st (P := Try.prog) (o := 1) (ty := 3) (v := .int .i64 ((p1 + 1 : Nat) : Int)) 5 rfl (by kernel_rfl) (by simp) rfl
                have H168 : Hp w [] [.blk d13 [.chan (some a0.ch), .chan (some (a1.put (Msg.mk A160 ([(UInt8.ofNat p1)] : List UInt8) c161)).ch), .chan (some a2.ch), .int .i64 (a0.p : Int), .int .i64 (((a1.put (Msg.mk A160 ([(UInt8.ofNat p1)] : List UInt8) c161)).p : Nat) : Int), .int .i64 (a2.p : Int), .bool false] 52, .obj a0.ch (chO 256 a0.l false a0.s a0.r), .obj (a1.put (Msg.mk A160 ([(UInt8.ofNat p1)] : List UInt8) c161)).ch (chO 256 (a1.put (Msg.mk A160 ([(UInt8.ofNat p1)] : List UInt8) c161)).l false (a1.put (Msg.mk A160 ([(UInt8.ofNat p1)] : List UInt8) c161)).s (a1.put (Msg.mk A160 ([(UInt8.ofNat p1)] : List UInt8) c161)).r), .obj a2.ch (chO 256 a2.l false a2.s a2.r), .bag ((A160, ([(UInt8.ofNat p1)] : List UInt8).length, c161, 5, by8 ([(UInt8.ofNat p1)] : List UInt8)) :: Gg), .blk p28 [.int .i64 (p0 : Int), .int .i64 ((p1 + 1 : Nat) : Int), .int .i64 (p2 : Int)] 28, .blk p107 [.int .i64 (t0 : Int), .int .i64 (t1 : Int), .int .i64 (t2 : Int)] 28, .blk p156 [.int .u8 ((UInt8.ofNat p1).toNat : Int)] 5] w166 := H168
                refine GL.semU (j := 6) r167 [3, 4, 11, 13, 17, 18, 19] [(3, .int .i64 (k : Int)), (4, .slice A ms.length c), (11, pt d13 0), (13, pt p28 0), (17, .bool wt), (18, pt p107 0), (19, .int .i64 (i : Int))] (by kernel_rfl) rfl rfl rfl ?_
                refine GL.k rfl hK126 (fun _ _ h => h) ?_
                have H169 : Hp w [] [.blk d13 [.chan (some a0.ch), .chan (some (a1.put (Msg.mk A160 ([(UInt8.ofNat p1)] : List UInt8) c161)).ch), .chan (some a2.ch), .int .i64 (a0.p : Int), .int .i64 (((a1.put (Msg.mk A160 ([(UInt8.ofNat p1)] : List UInt8) c161)).p : Nat) : Int), .int .i64 (a2.p : Int), .bool false] 52, .obj a0.ch (chO 256 a0.l false a0.s a0.r), .obj (a1.put (Msg.mk A160 ([(UInt8.ofNat p1)] : List UInt8) c161)).ch (chO 256 (a1.put (Msg.mk A160 ([(UInt8.ofNat p1)] : List UInt8) c161)).l false (a1.put (Msg.mk A160 ([(UInt8.ofNat p1)] : List UInt8) c161)).s (a1.put (Msg.mk A160 ([(UInt8.ofNat p1)] : List UInt8) c161)).r), .obj a2.ch (chO 256 a2.l false a2.s a2.r), .bag ((A160, ([(UInt8.ofNat p1)] : List UInt8).length, c161, 5, by8 ([(UInt8.ofNat p1)] : List UInt8)) :: Gg), .blk p28 [.int .i64 (p0 : Int), .int .i64 ((p1 + 1 : Nat) : Int), .int .i64 (p2 : Int)] 28, .blk p107 [.int .i64 (t0 : Int), .int .i64 (t1 : Int), .int .i64 (t2 : Int)] 28] w166 := H168.sub (List.Sublist.cons_cons _ (List.Sublist.cons_cons _ (List.Sublist.cons_cons _ (List.Sublist.cons_cons _ (List.Sublist.cons_cons _ (List.Sublist.cons_cons _ (List.Sublist.cons_cons _ (List.Sublist.cons _ (List.Sublist.slnil)))))))))
                refine G.fit [3, 4, 11, 13, 17, 18, 19] (M' := [(3, .int .i64 (k : Int)), (4, .slice A ms.length c), (11, pt d13 0), (13, pt p28 0), (17, .bool wt), (18, pt p107 0), (19, .int .i64 (i : Int))]) (by kernel_rfl) ?_
                exact J124 ⟨a0, (a1.put (Msg.mk A160 ([(UInt8.ofNat p1)] : List UInt8) c161)), a2, ((A160, ([(UInt8.ofNat p1)] : List UInt8).length, c161, 5, by8 ([(UInt8.ofNat p1)] : List UInt8)) :: Gg), p0, (p1 + 1), p2⟩ _ ⟨⟨⟨hL0, hL1.put rfl, hL2⟩, ⟨hz0, (Lane.z.put hz1 (Msg.mk A160 ([(UInt8.ofNat p1)] : List UInt8) c161)), hz2⟩, ⟨(LnOk.more hok0 _), (LnOk.put hok1 (Msg.mk A160 ([(UInt8.ofNat p1)] : List UInt8) c161)), (LnOk.more hok2 _)⟩, ⟨hb0, hb1, hb2⟩, ⟨by omega, by omega⟩, fun h_ => wtp1 (hWT h_)⟩, H169⟩
              · skip
                refine GL.eq (M' := [(3, .int .i64 (k : Int)), (4, .slice A ms.length c), (11, pt d13 0), (13, pt p28 0), (17, .bool wt), (18, pt p107 0), (19, .int .i64 (i : Int)), (20, .int .i64 2)]) rfl ?_
                refine GL.run (j := 4) 4 [3, 4, 11, 13, 17, 18, 19, 20, 85, 86, 88] [(3, .int .i64 (k : Int)), (4, .slice A ms.length c), (11, pt d13 0), (13, pt p28 0), (17, .bool wt), (18, pt p107 0), (19, .int .i64 (i : Int)), (20, .int .i64 2), (85, pt d13 0), (86, .int .i64 2), (88, pt p28 2)] (by kernel_rfl) rfl ?_
                refine GL.sem (j := 5) (H121.ld (o := 2) (ty := 3) (v := .int .i64 (p2 : Int)) 5 rfl (by kernel_rfl) rfl) [3, 4, 11, 13, 17, 18, 19, 20, 85, 86, 89] [(3, .int .i64 (k : Int)), (4, .slice A ms.length c), (11, pt d13 0), (13, pt p28 0), (17, .bool wt), (18, pt p107 0), (19, .int .i64 (i : Int)), (20, .int .i64 2), (85, pt d13 0), (86, .int .i64 2), (89, .int .i64 (p2 : Int))] (by kernel_rfl) (by kernel_rfl) rfl ?_
                refine GL.run (j := 6) 1 [3, 4, 11, 13, 17, 18, 19, 20, 85, 86, 90] [(3, .int .i64 (k : Int)), (4, .slice A ms.length c), (11, pt d13 0), (13, pt p28 0), (17, .bool wt), (18, pt p107 0), (19, .int .i64 (i : Int)), (20, .int .i64 2), (85, pt d13 0), (86, .int .i64 2), (90, .int .u8 (IntKind.u8.wrap (p2 : Int)))] (by kernel_rfl) rfl ?_
                have e171 : (IntKind.u8.wrap (p2 : Int)) = ((UInt8.ofNat p2).toNat : Int) := n_byte _
                refine GL.eq (M' := [(3, .int .i64 (k : Int)), (4, .slice A ms.length c), (11, pt d13 0), (13, pt p28 0), (17, .bool wt), (18, pt p107 0), (19, .int .i64 (i : Int)), (20, .int .i64 2), (85, pt d13 0), (86, .int .i64 2), (90, .int .u8 ((UInt8.ofNat p2).toNat : Int))]) (by rw [e171]) ?_
                clear e171
                obtain ⟨p172, w173, r174, H175⟩ := H121.made (P := Try.prog) (Instr.buildSlice 22 1 #[(0, .int .u8 ((UInt8.ofNat p2).toNat : Int))]) (fun b_ => .slice (some ⟨b_, 0, none⟩) 1 1) [.int .u8 ((UInt8.ofNat p2).toNat : Int)] 5 (by kernel_rfl)
                have H175 : Hp w [] [.blk d13 [.chan (some a0.ch), .chan (some a1.ch), .chan (some a2.ch), .int .i64 (a0.p : Int), .int .i64 (a1.p : Int), .int .i64 (a2.p : Int), .bool false] 52, .obj a0.ch (chO 256 a0.l false a0.s a0.r), .obj a1.ch (chO 256 a1.l false a1.s a1.r), .obj a2.ch (chO 256 a2.l false a2.s a2.r), .bag Gg, .blk p28 [.int .i64 (p0 : Int), .int .i64 (p1 : Int), .int .i64 (p2 : Int)] 28, .blk p107 [.int .i64 (t0 : Int), .int .i64 (t1 : Int), .int .i64 (t2 : Int)] 28, .blk p172 [.int .u8 ((UInt8.ofNat p2).toNat : Int)] 5] w173 := H175
                refine GL.sem (j := 7) (r174) [3, 4, 11, 13, 17, 18, 19, 20, 85, 86, 91] [(3, .int .i64 (k : Int)), (4, .slice A ms.length c), (11, pt d13 0), (13, pt p28 0), (17, .bool wt), (18, pt p107 0), (19, .int .i64 (i : Int)), (20, .int .i64 2), (85, pt d13 0), (86, .int .i64 2), (91, .slice (some ⟨p172, 0, none⟩) 1 1)] (by kernel_rfl) (by kernel_rfl) rfl ?_
                refine GL.call (j := 8) (PutOk2_calls (ids [.blk d13 [.chan (some a0.ch), .chan (some a1.ch), .chan (some a2.ch), .int .i64 (a0.p : Int), .int .i64 (a1.p : Int), .int .i64 (a2.p : Int), .bool false] 52, .obj a0.ch (chO 256 a0.l false a0.s a0.r), .obj a1.ch (chO 256 a1.l false a1.s a1.r), .obj a2.ch (chO 256 a2.l false a2.s a2.r), .bag Gg]) d13 256 a0 a1 a2 Gg (some ⟨p172, 0, none⟩) ([(UInt8.ofNat p2)] : List UInt8) 1 w173 (Hp.startL (A := [.blk d13 [.chan (some a0.ch), .chan (some a1.ch), .chan (some a2.ch), .int .i64 (a0.p : Int), .int .i64 (a1.p : Int), .int .i64 (a2.p : Int), .bool false] 52, .obj a0.ch (chO 256 a0.l false a0.s a0.r), .obj a1.ch (chO 256 a1.l false a1.s a1.r), .obj a2.ch (chO 256 a2.l false a2.s a2.r), .bag Gg]) (B := [.blk p28 [.int .i64 (p0 : Int), .int .i64 (p1 : Int), .int .i64 (p2 : Int)] 28, .blk p107 [.int .i64 (t0 : Int), .int .i64 (t1 : Int), .int .i64 (t2 : Int)] 28, .blk p172 [.int .u8 ((UInt8.ofNat p2).toNat : Int)] 5]) H175) (RdO.blk (A' := [.blk d13 [.chan (some a0.ch), .chan (some a1.ch), .chan (some a2.ch), .int .i64 (a0.p : Int), .int .i64 (a1.p : Int), .int .i64 (a2.p : Int), .bool false] 52, .obj a0.ch (chO 256 a0.l false a0.s a0.r), .obj a1.ch (chO 256 a1.l false a1.s a1.r), .obj a2.ch (chO 256 a2.l false a2.s a2.r), .bag Gg]) (B' := [.blk p28 [.int .i64 (p0 : Int), .int .i64 (p1 : Int), .int .i64 (p2 : Int)] 28, .blk p107 [.int .i64 (t0 : Int), .int .i64 (t1 : Int), .int .i64 (t2 : Int)] 28, .blk p172 [.int .u8 ((UInt8.ofNat p2).toNat : Int)] 5]) H175 2 1 rfl rfl) (by have h_ := hL2.len; omega) (by show (1 : Nat) ≤ 4096; decide)) (by kernel_rfl) rfl (fun e_ w178 hR => ?_)
                obtain ⟨A176, c177, rfl, H180⟩ := hR
                have H179 : Hp w [] [.blk d13 [.chan (some a0.ch), .chan (some a1.ch), .chan (some (a2.put (Msg.mk A176 ([(UInt8.ofNat p2)] : List UInt8) c177)).ch), .int .i64 (a0.p : Int), .int .i64 (a1.p : Int), .int .i64 (((a2.put (Msg.mk A176 ([(UInt8.ofNat p2)] : List UInt8) c177)).p : Nat) : Int), .bool false] 52, .obj a0.ch (chO 256 a0.l false a0.s a0.r), .obj a1.ch (chO 256 a1.l false a1.s a1.r), .obj (a2.put (Msg.mk A176 ([(UInt8.ofNat p2)] : List UInt8) c177)).ch (chO 256 (a2.put (Msg.mk A176 ([(UInt8.ofNat p2)] : List UInt8) c177)).l false (a2.put (Msg.mk A176 ([(UInt8.ofNat p2)] : List UInt8) c177)).s (a2.put (Msg.mk A176 ([(UInt8.ofNat p2)] : List UInt8) c177)).r), .bag ((A176, ([(UInt8.ofNat p2)] : List UInt8).length, c177, 5, by8 ([(UInt8.ofNat p2)] : List UInt8)) :: Gg), .blk p28 [.int .i64 (p0 : Int), .int .i64 (p1 : Int), .int .i64 (p2 : Int)] 28, .blk p107 [.int .i64 (t0 : Int), .int .i64 (t1 : Int), .int .i64 (t2 : Int)] 28, .blk p172 [.int .u8 ((UInt8.ofNat p2).toNat : Int)] 5] w178 := Hp.callL (A := [.blk d13 [.chan (some a0.ch), .chan (some a1.ch), .chan (some a2.ch), .int .i64 (a0.p : Int), .int .i64 (a1.p : Int), .int .i64 (a2.p : Int), .bool false] 52, .obj a0.ch (chO 256 a0.l false a0.s a0.r), .obj a1.ch (chO 256 a1.l false a1.s a1.r), .obj a2.ch (chO 256 a2.l false a2.s a2.r), .bag Gg]) (B := [.blk p28 [.int .i64 (p0 : Int), .int .i64 (p1 : Int), .int .i64 (p2 : Int)] 28, .blk p107 [.int .i64 (t0 : Int), .int .i64 (t1 : Int), .int .i64 (t2 : Int)] 28, .blk p172 [.int .u8 ((UInt8.ofNat p2).toNat : Int)] 5]) H175 H180
                refine ⟨_, rfl, [3, 4, 11, 13, 17, 18, 19, 20, 92], [(3, .int .i64 (k : Int)), (4, .slice A ms.length c), (11, pt d13 0), (13, pt p28 0), (17, .bool wt), (18, pt p107 0), (19, .int .i64 (i : Int)), (20, .int .i64 2), (92, .int .i64 0)], by kernel_rfl, ?_⟩
                refine GL.run (j := 9) 1 [3, 4, 11, 13, 17, 18, 19, 20, 93] [(3, .int .i64 (k : Int)), (4, .slice A ms.length c), (11, pt d13 0), (13, pt p28 0), (17, .bool wt), (18, pt p107 0), (19, .int .i64 (i : Int)), (20, .int .i64 2), (93, .bool false)] (by kernel_rfl) rfl ?_
                refine GL.k rfl hK138 (fun _ _ h => h) ?_
                refine G.no rfl ?_
                refine G.skipK hK136 (fun _ _ h => h) ?_
                refine G.region ?_
                refine GL.run (j := 2) 2 [3, 4, 11, 13, 17, 18, 19, 94, 95] [(3, .int .i64 (k : Int)), (4, .slice A ms.length c), (11, pt d13 0), (13, pt p28 0), (17, .bool wt), (18, pt p107 0), (19, .int .i64 (i : Int)), (94, .int .i64 2), (95, pt p28 2)] (by kernel_rfl) rfl ?_
                refine GL.sem (j := 3) (H179.ld (o := 2) (ty := 3) (v := .int .i64 (p2 : Int)) 5 rfl (by kernel_rfl) rfl) [3, 4, 11, 13, 17, 18, 19, 94, 96] [(3, .int .i64 (k : Int)), (4, .slice A ms.length c), (11, pt d13 0), (13, pt p28 0), (17, .bool wt), (18, pt p107 0), (19, .int .i64 (i : Int)), (94, .int .i64 2), (96, .int .i64 (p2 : Int))] (by kernel_rfl) (by kernel_rfl) rfl ?_
                refine GL.run (j := 5) 2 [3, 4, 11, 13, 17, 18, 19, 97, 98] [(3, .int .i64 (k : Int)), (4, .slice A ms.length c), (11, pt d13 0), (13, pt p28 0), (17, .bool wt), (18, pt p107 0), (19, .int .i64 (i : Int)), (97, .int .i64 (IntKind.i64.wrap ((p2 : Int) + 1))), (98, pt p28 2)] (by kernel_rfl) rfl ?_
                have e181 : (IntKind.i64.wrap ((p2 : Int) + 1)) = ((p2 + 1 : Nat) : Int) := by rw [in_i64 (by omega)]; omega
                refine GL.eq (M' := [(3, .int .i64 (k : Int)), (4, .slice A ms.length c), (11, pt d13 0), (13, pt p28 0), (17, .bool wt), (18, pt p107 0), (19, .int .i64 (i : Int)), (97, .int .i64 ((p2 + 1 : Nat) : Int)), (98, pt p28 2)]) (by rw [e181]) ?_
                clear e181
                obtain ⟨w182, r183, H184⟩ := H179.st (P := Try.prog) (o := 2) (ty := 3) (v := .int .i64 ((p2 + 1 : Nat) : Int)) 5 rfl (by kernel_rfl) (by simp) rfl
                have H184 : Hp w [] [.blk d13 [.chan (some a0.ch), .chan (some a1.ch), .chan (some (a2.put (Msg.mk A176 ([(UInt8.ofNat p2)] : List UInt8) c177)).ch), .int .i64 (a0.p : Int), .int .i64 (a1.p : Int), .int .i64 (((a2.put (Msg.mk A176 ([(UInt8.ofNat p2)] : List UInt8) c177)).p : Nat) : Int), .bool false] 52, .obj a0.ch (chO 256 a0.l false a0.s a0.r), .obj a1.ch (chO 256 a1.l false a1.s a1.r), .obj (a2.put (Msg.mk A176 ([(UInt8.ofNat p2)] : List UInt8) c177)).ch (chO 256 (a2.put (Msg.mk A176 ([(UInt8.ofNat p2)] : List UInt8) c177)).l false (a2.put (Msg.mk A176 ([(UInt8.ofNat p2)] : List UInt8) c177)).s (a2.put (Msg.mk A176 ([(UInt8.ofNat p2)] : List UInt8) c177)).r), .bag ((A176, ([(UInt8.ofNat p2)] : List UInt8).length, c177, 5, by8 ([(UInt8.ofNat p2)] : List UInt8)) :: Gg), .blk p28 [.int .i64 (p0 : Int), .int .i64 (p1 : Int), .int .i64 ((p2 + 1 : Nat) : Int)] 28, .blk p107 [.int .i64 (t0 : Int), .int .i64 (t1 : Int), .int .i64 (t2 : Int)] 28, .blk p172 [.int .u8 ((UInt8.ofNat p2).toNat : Int)] 5] w182 := H184
                refine GL.semU (j := 6) r183 [3, 4, 11, 13, 17, 18, 19] [(3, .int .i64 (k : Int)), (4, .slice A ms.length c), (11, pt d13 0), (13, pt p28 0), (17, .bool wt), (18, pt p107 0), (19, .int .i64 (i : Int))] (by kernel_rfl) rfl rfl rfl ?_
                refine GL.k rfl hK126 (fun _ _ h => h) ?_
                have H185 : Hp w [] [.blk d13 [.chan (some a0.ch), .chan (some a1.ch), .chan (some (a2.put (Msg.mk A176 ([(UInt8.ofNat p2)] : List UInt8) c177)).ch), .int .i64 (a0.p : Int), .int .i64 (a1.p : Int), .int .i64 (((a2.put (Msg.mk A176 ([(UInt8.ofNat p2)] : List UInt8) c177)).p : Nat) : Int), .bool false] 52, .obj a0.ch (chO 256 a0.l false a0.s a0.r), .obj a1.ch (chO 256 a1.l false a1.s a1.r), .obj (a2.put (Msg.mk A176 ([(UInt8.ofNat p2)] : List UInt8) c177)).ch (chO 256 (a2.put (Msg.mk A176 ([(UInt8.ofNat p2)] : List UInt8) c177)).l false (a2.put (Msg.mk A176 ([(UInt8.ofNat p2)] : List UInt8) c177)).s (a2.put (Msg.mk A176 ([(UInt8.ofNat p2)] : List UInt8) c177)).r), .bag ((A176, ([(UInt8.ofNat p2)] : List UInt8).length, c177, 5, by8 ([(UInt8.ofNat p2)] : List UInt8)) :: Gg), .blk p28 [.int .i64 (p0 : Int), .int .i64 (p1 : Int), .int .i64 ((p2 + 1 : Nat) : Int)] 28, .blk p107 [.int .i64 (t0 : Int), .int .i64 (t1 : Int), .int .i64 (t2 : Int)] 28] w182 := H184.sub (List.Sublist.cons_cons _ (List.Sublist.cons_cons _ (List.Sublist.cons_cons _ (List.Sublist.cons_cons _ (List.Sublist.cons_cons _ (List.Sublist.cons_cons _ (List.Sublist.cons_cons _ (List.Sublist.cons _ (List.Sublist.slnil)))))))))
                refine G.fit [3, 4, 11, 13, 17, 18, 19] (M' := [(3, .int .i64 (k : Int)), (4, .slice A ms.length c), (11, pt d13 0), (13, pt p28 0), (17, .bool wt), (18, pt p107 0), (19, .int .i64 (i : Int))]) (by kernel_rfl) ?_
                exact J124 ⟨a0, a1, (a2.put (Msg.mk A176 ([(UInt8.ofNat p2)] : List UInt8) c177)), ((A176, ([(UInt8.ofNat p2)] : List UInt8).length, c177, 5, by8 ([(UInt8.ofNat p2)] : List UInt8)) :: Gg), p0, p1, (p2 + 1)⟩ _ ⟨⟨⟨hL0, hL1, hL2.put rfl⟩, ⟨hz0, hz1, (Lane.z.put hz2 (Msg.mk A176 ([(UInt8.ofNat p2)] : List UInt8) c177))⟩, ⟨(LnOk.more hok0 _), (LnOk.more hok1 _), (LnOk.put hok2 (Msg.mk A176 ([(UInt8.ofNat p2)] : List UInt8) c177))⟩, ⟨hb0, hb1, hb2⟩, ⟨by omega, by omega⟩, fun h_ => wtp2 (hWT h_)⟩, H185⟩
          · skip
            rintro ⟨a0_, a1_, a2_, G_, p0_, p1_, p2_⟩ w187 ⟨hi188, H189⟩
            refine G.eq (M' := [(3, .int .i64 (k : Int)), (4, .slice A ms.length c), (11, pt d13 0), (13, pt p28 0), (17, .bool wt), (18, pt p107 0), (19, .int .i64 (i : Int))]) rfl ?_
            have H189 : Hp w [] [.blk d13 [.chan (some a0_.ch), .chan (some a1_.ch), .chan (some a2_.ch), .int .i64 (a0_.p : Int), .int .i64 (a1_.p : Int), .int .i64 (a2_.p : Int), .bool false] 52, .obj a0_.ch (chO 256 a0_.l false a0_.s a0_.r), .obj a1_.ch (chO 256 a1_.l false a1_.s a1_.r), .obj a2_.ch (chO 256 a2_.l false a2_.s a2_.r), .bag G_, .blk p28 [.int .i64 (p0_ : Int), .int .i64 (p1_ : Int), .int .i64 (p2_ : Int)] 28, .blk p107 [.int .i64 (t0 : Int), .int .i64 (t1 : Int), .int .i64 (t2 : Int)] 28] w187 := H189
            obtain ⟨⟨hM0, hM1, hM2⟩, ⟨hz0_, hz1_, hz2_⟩, ⟨hok0_, hok1_, hok2_⟩, ⟨hb0_, hb1_, hb2_⟩, ⟨hps_, hmu_⟩, hWT_⟩ := hi188
            have hme0 := hM0.2
            have hme1 := hM1.2
            have hme2 := hM2.2
            refine G.seqK fun K190 hK191 => ?_
            refine G.region ?_
            rcases tk_cases a0_ a1_ a2_ with htk | htk | htk | htk
            · skip
              obtain ⟨mA_, mc_, r_, hlk, htp, hLQn⟩ := hM0.head ((tk_len htk).1 rfl)
              refine GL.run (j := 1) 1 [3, 4, 11, 13, 17, 18, 19, 100] [(3, .int .i64 (k : Int)), (4, .slice A ms.length c), (11, pt d13 0), (13, pt p28 0), (17, .bool wt), (18, pt p107 0), (19, .int .i64 (i : Int)), (100, pt d13 0)] (by kernel_rfl) rfl ?_
              have hmhlk := (LnOk.took (G := G_) (a := a0_) hok0_ hlk).2
              refine GL.call (j := 2) (Take0_calls (ids [.blk d13 [.chan (some a0_.ch), .chan (some a1_.ch), .chan (some a2_.ch), .int .i64 (a0_.p : Int), .int .i64 (a1_.p : Int), .int .i64 (a2_.p : Int), .bool false] 52, .obj a0_.ch (chO 256 a0_.l false a0_.s a0_.r), .obj a1_.ch (chO 256 a1_.l false a1_.s a1_.r), .obj a2_.ch (chO 256 a2_.l false a2_.s a2_.r), .bag G_]) d13 256 false a0_ a1_ a2_ G_ (Msg.mk mA_ [UInt8.ofNat t0] mc_) r_ w187 (Hp.startL (A := [.blk d13 [.chan (some a0_.ch), .chan (some a1_.ch), .chan (some a2_.ch), .int .i64 (a0_.p : Int), .int .i64 (a1_.p : Int), .int .i64 (a2_.p : Int), .bool false] 52, .obj a0_.ch (chO 256 a0_.l false a0_.s a0_.r), .obj a1_.ch (chO 256 a1_.l false a1_.s a1_.r), .obj a2_.ch (chO 256 a2_.l false a2_.s a2_.r), .bag G_]) (B := [.blk p28 [.int .i64 (p0_ : Int), .int .i64 (p1_ : Int), .int .i64 (p2_ : Int)] 28, .blk p107 [.int .i64 (t0 : Int), .int .i64 (t1 : Int), .int .i64 (t2 : Int)] 28]) H189) hz0_ hz1_ hz2_ htk hlk) (by kernel_rfl) rfl (fun e_ w192 hR => ?_)
              obtain ⟨rfl, H194⟩ := hR
              have H193 : Hp w [] [.blk d13 [.chan (some (a0_.took r_).ch), .chan (some a1_.pass.ch), .chan (some a2_.pass.ch), .int .i64 (((a0_.took r_).p : Nat) : Int), .int .i64 (a1_.pass.p : Int), .int .i64 (a2_.pass.p : Int), .bool false] 52, .obj (a0_.took r_).ch (chO 256 (a0_.took r_).l false (a0_.took r_).s (a0_.took r_).r), .obj a1_.pass.ch (chO 256 a1_.pass.l false a1_.pass.s a1_.pass.r), .obj a2_.pass.ch (chO 256 a2_.pass.l false a2_.pass.s a2_.pass.r), .bag G_, .blk p28 [.int .i64 (p0_ : Int), .int .i64 (p1_ : Int), .int .i64 (p2_ : Int)] 28, .blk p107 [.int .i64 (t0 : Int), .int .i64 (t1 : Int), .int .i64 (t2 : Int)] 28] w192 := Hp.callL (A := [.blk d13 [.chan (some a0_.ch), .chan (some a1_.ch), .chan (some a2_.ch), .int .i64 (a0_.p : Int), .int .i64 (a1_.p : Int), .int .i64 (a2_.p : Int), .bool false] 52, .obj a0_.ch (chO 256 a0_.l false a0_.s a0_.r), .obj a1_.ch (chO 256 a1_.l false a1_.s a1_.r), .obj a2_.ch (chO 256 a2_.l false a2_.s a2_.r), .bag G_]) (B := [.blk p28 [.int .i64 (p0_ : Int), .int .i64 (p1_ : Int), .int .i64 (p2_ : Int)] 28, .blk p107 [.int .i64 (t0 : Int), .int .i64 (t1 : Int), .int .i64 (t2 : Int)] 28]) H189 H194
              refine ⟨_, rfl, [3, 4, 11, 13, 17, 18, 19, 101], [(3, .int .i64 (k : Int)), (4, .slice A ms.length c), (11, pt d13 0), (13, pt p28 0), (17, .bool wt), (18, pt p107 0), (19, .int .i64 (i : Int)), (101, .tuple #[.slice mA_ 1 mc_, .int .i64 0, .bool true])], by kernel_rfl, ?_⟩
              refine GL.run (j := 9) 7 [3, 4, 11, 13, 17, 18, 19, 21, 22, 23] [(3, .int .i64 (k : Int)), (4, .slice A ms.length c), (11, pt d13 0), (13, pt p28 0), (17, .bool wt), (18, pt p107 0), (19, .int .i64 (i : Int)), (21, .slice mA_ 1 mc_), (22, .int .i64 0), (23, .bool true)] (by kernel_rfl) rfl ?_
              refine GL.k rfl hK191 (fun _ _ h => h) ?_
              refine G.seqK fun K195 hK196 => ?_
              refine G.seqK fun K197 hK198 => ?_
              refine G.region ?_
              refine GL.run (j := 2) 2 [3, 4, 11, 13, 17, 18, 19, 21, 22, 106] [(3, .int .i64 (k : Int)), (4, .slice A ms.length c), (11, pt d13 0), (13, pt p28 0), (17, .bool wt), (18, pt p107 0), (19, .int .i64 (i : Int)), (21, .slice mA_ 1 mc_), (22, .int .i64 0), (106, .bool false)] (by kernel_rfl) rfl ?_
              refine GL.k rfl hK198 (fun _ _ h => h) ?_
              refine G.no rfl ?_
              refine G.skipK hK196 (fun _ _ h => h) ?_
              refine G.seqK fun K199 hK200 => ?_
              refine G.seqK fun K201 hK202 => ?_
              refine G.draw H193 (by kernel_rfl) (by kernel_rfl) ?_
              refine GQ.run (j := 5) 5 [3, 4, 11, 13, 17, 18, 19, 22, 110, 111] [(3, .int .i64 (k : Int)), (4, .slice A ms.length c), (11, pt d13 0), (13, pt p28 0), (17, .bool wt), (18, pt p107 0), (19, .int .i64 (i : Int)), (22, .int .i64 0), (110, .bool false), (111, .slice mA_ 1 mc_)] (by kernel_rfl) rfl ?_
              refine GQ.sem (j := 6) (fun w_ H_ => run_idxRd (P := Try.prog) (k := .i64) (t := 22) (A := mA_) (len := 1) (cap := mc_) (j := 0) (by kernel_rfl) rfl (H_.bagRd 4 rfl hmhlk) (by rw [by8_length]; rfl) (by omega)) [3, 4, 11, 13, 17, 18, 19, 22, 110, 112] [(3, .int .i64 (k : Int)), (4, .slice A ms.length c), (11, pt d13 0), (13, pt p28 0), (17, .bool wt), (18, pt p107 0), (19, .int .i64 (i : Int)), (22, .int .i64 0), (110, .bool false), (112, .pointer (Option.map (fun x => Addr.add x 0) mA_))] (by kernel_rfl) (by kernel_rfl) rfl ?_
              refine GQ.sem (j := 7) (fun w_ H_ => run_ldRd (P := Try.prog) (ty := 5) (A := mA_) (j := 0) (v := .int .u8 ((UInt8.ofNat t0).toNat : Int)) (by kernel_rfl) (H_.bagRd 4 rfl hmhlk) (rfl)) [3, 4, 11, 13, 17, 18, 19, 22, 110, 113] [(3, .int .i64 (k : Int)), (4, .slice A ms.length c), (11, pt d13 0), (13, pt p28 0), (17, .bool wt), (18, pt p107 0), (19, .int .i64 (i : Int)), (22, .int .i64 0), (110, .bool false), (113, .int .u8 ((UInt8.ofNat t0).toNat : Int))] (by kernel_rfl) (by kernel_rfl) rfl ?_
              refine GQ.run (j := 9) 2 [3, 4, 11, 13, 17, 18, 19, 22, 110, 113, 115] [(3, .int .i64 (k : Int)), (4, .slice A ms.length c), (11, pt d13 0), (13, pt p28 0), (17, .bool wt), (18, pt p107 0), (19, .int .i64 (i : Int)), (22, .int .i64 0), (110, .bool false), (113, .int .u8 ((UInt8.ofNat t0).toNat : Int)), (115, pt p107 0)] (by kernel_rfl) rfl ?_
              refine GQ.sem (j := 10) (fun w_ H_ => H_.ld (o := 0) (ty := 3) (v := .int .i64 (t0 : Int)) 6 rfl (by kernel_rfl) rfl) [3, 4, 11, 13, 17, 18, 19, 22, 110, 113, 116] [(3, .int .i64 (k : Int)), (4, .slice A ms.length c), (11, pt d13 0), (13, pt p28 0), (17, .bool wt), (18, pt p107 0), (19, .int .i64 (i : Int)), (22, .int .i64 0), (110, .bool false), (113, .int .u8 ((UInt8.ofNat t0).toNat : Int)), (116, .int .i64 (t0 : Int))] (by kernel_rfl) (by kernel_rfl) rfl ?_
              refine GQ.run (j := 13) 3 [3, 4, 11, 13, 17, 18, 19, 22, 119] [(3, .int .i64 (k : Int)), (4, .slice A ms.length c), (11, pt d13 0), (13, pt p28 0), (17, .bool wt), (18, pt p107 0), (19, .int .i64 (i : Int)), (22, .int .i64 0), (119, .bool (((UInt8.ofNat t0).toNat : Int) != (IntKind.u8.wrap (t0 : Int))))] (by kernel_rfl) rfl ?_
              have e203 : (IntKind.u8.wrap (t0 : Int)) = ((UInt8.ofNat t0).toNat : Int) := n_byte _
              refine GQ.eq (M' := [(3, .int .i64 (k : Int)), (4, .slice A ms.length c), (11, pt d13 0), (13, pt p28 0), (17, .bool wt), (18, pt p107 0), (19, .int .i64 (i : Int)), (22, .int .i64 0), (119, .bool (((UInt8.ofNat t0).toNat : Int) != ((UInt8.ofNat t0).toNat : Int)))]) (by rw [e203]) ?_
              clear e203
              refine GQ.k rfl hK202 (fun _ _ h => h) (fun w204 H205 => ?_)
              have hb206 : (((UInt8.ofNat t0).toNat : Int) != ((UInt8.ofNat t0).toNat : Int)) = false := bne_self_eq_false _
              rw [hb206]
              refine G.no rfl ?_
              refine G.skipK hK200 (fun _ _ h => h) ?_
              refine G.seqK fun K207 hK208 => ?_
              refine G.region ?_
              refine GL.run (j := 2) 2 [3, 4, 11, 13, 17, 18, 19, 22, 120, 121] [(3, .int .i64 (k : Int)), (4, .slice A ms.length c), (11, pt d13 0), (13, pt p28 0), (17, .bool wt), (18, pt p107 0), (19, .int .i64 (i : Int)), (22, .int .i64 0), (120, .int .i64 0), (121, pt p107 0)] (by kernel_rfl) rfl ?_
              refine GL.sem (j := 3) (H205.ld (o := 0) (ty := 3) (v := .int .i64 (t0 : Int)) 6 rfl (by kernel_rfl) rfl) [3, 4, 11, 13, 17, 18, 19, 22, 120, 122] [(3, .int .i64 (k : Int)), (4, .slice A ms.length c), (11, pt d13 0), (13, pt p28 0), (17, .bool wt), (18, pt p107 0), (19, .int .i64 (i : Int)), (22, .int .i64 0), (120, .int .i64 0), (122, .int .i64 (t0 : Int))] (by kernel_rfl) (by kernel_rfl) rfl ?_
              refine GL.run (j := 5) 2 [3, 4, 11, 13, 17, 18, 19, 22, 123, 124] [(3, .int .i64 (k : Int)), (4, .slice A ms.length c), (11, pt d13 0), (13, pt p28 0), (17, .bool wt), (18, pt p107 0), (19, .int .i64 (i : Int)), (22, .int .i64 0), (123, .int .i64 (IntKind.i64.wrap ((t0 : Int) + 1))), (124, pt p107 0)] (by kernel_rfl) rfl ?_
              have e209 : (IntKind.i64.wrap ((t0 : Int) + 1)) = ((t0 + 1 : Nat) : Int) := by rw [in_i64 (by omega)]; omega
              refine GL.eq (M' := [(3, .int .i64 (k : Int)), (4, .slice A ms.length c), (11, pt d13 0), (13, pt p28 0), (17, .bool wt), (18, pt p107 0), (19, .int .i64 (i : Int)), (22, .int .i64 0), (123, .int .i64 ((t0 + 1 : Nat) : Int)), (124, pt p107 0)]) (by rw [e209]) ?_
              clear e209
              obtain ⟨w210, r211, H212⟩ := H205.st (P := Try.prog) (o := 0) (ty := 3) (v := .int .i64 ((t0 + 1 : Nat) : Int)) 6 rfl (by kernel_rfl) (by simp) rfl
              have H212 : Hp w [] [.blk d13 [.chan (some (a0_.took r_).ch), .chan (some a1_.pass.ch), .chan (some a2_.pass.ch), .int .i64 (((a0_.took r_).p : Nat) : Int), .int .i64 (a1_.pass.p : Int), .int .i64 (a2_.pass.p : Int), .bool false] 52, .obj (a0_.took r_).ch (chO 256 (a0_.took r_).l false (a0_.took r_).s (a0_.took r_).r), .obj a1_.pass.ch (chO 256 a1_.pass.l false a1_.pass.s a1_.pass.r), .obj a2_.pass.ch (chO 256 a2_.pass.l false a2_.pass.s a2_.pass.r), .bag G_, .blk p28 [.int .i64 (p0_ : Int), .int .i64 (p1_ : Int), .int .i64 (p2_ : Int)] 28, .blk p107 [.int .i64 ((t0 + 1 : Nat) : Int), .int .i64 (t1 : Int), .int .i64 (t2 : Int)] 28] w210 := H212
              refine GL.semU (j := 6) r211 [3, 4, 11, 13, 17, 18, 19, 22] [(3, .int .i64 (k : Int)), (4, .slice A ms.length c), (11, pt d13 0), (13, pt p28 0), (17, .bool wt), (18, pt p107 0), (19, .int .i64 (i : Int)), (22, .int .i64 0)] (by kernel_rfl) rfl rfl rfl ?_
              refine GL.k rfl hK208 (fun _ _ h => h) ?_
              refine G.seqK fun K213 hK214 => ?_
              refine G.seqK fun K215 hK216 => ?_
              refine G.region ?_
              refine GL.run (j := 3) 3 [3, 4, 11, 13, 17, 18, 19, 127] [(3, .int .i64 (k : Int)), (4, .slice A ms.length c), (11, pt d13 0), (13, pt p28 0), (17, .bool wt), (18, pt p107 0), (19, .int .i64 (i : Int)), (127, .bool ((0 : Int) == (k : Int)))] (by kernel_rfl) rfl ?_
              refine GL.k rfl hK216 (fun _ _ h => h) ?_
              cases hb217 : ((0 : Int) == (k : Int))
              · skip
                have hb217f := ne_of_beq_false hb217
                refine G.no rfl ?_
                refine G.skipK hK214 (fun _ _ h => h) ?_
                refine G.seqK fun K218 hK219 => ?_
                refine G.region ?_
                refine GL.run (j := 2) 2 [3, 4, 11, 13, 17, 18, 19, 129] [(3, .int .i64 (k : Int)), (4, .slice A ms.length c), (11, pt d13 0), (13, pt p28 0), (17, .bool wt), (18, pt p107 0), (19, .int .i64 (i : Int)), (129, .bool wt)] (by kernel_rfl) rfl ?_
                rcases (Bool.eq_false_or_eq_true wt).symm with hb220 | hb220
                · skip
                  refine GL.eq (M' := [(3, .int .i64 (k : Int)), (4, .slice A ms.length c), (11, pt d13 0), (13, pt p28 0), (17, .bool false), (18, pt p107 0), (19, .int .i64 (i : Int)), (129, .bool false)]) (by first | (rw [hb220]; done) | (rw [hb220]; rfl)) ?_
                  refine GL.run (j := 5) 3 [3, 4, 11, 13, 17, 18, 19, 132] [(3, .int .i64 (k : Int)), (4, .slice A ms.length c), (11, pt d13 0), (13, pt p28 0), (17, .bool false), (18, pt p107 0), (19, .int .i64 (i : Int)), (132, .bool false)] (by kernel_rfl) rfl ?_
                  refine GL.k rfl hK219 (fun _ _ h => h) ?_
                  refine G.no rfl ?_
                  refine G.skipK hK123 (fun _ _ h => h) ?_
                  refine G.region ?_
                  refine GL.run (j := 3) 3 [3, 4, 11, 13, 17, 18, 19] [(3, .int .i64 (k : Int)), (4, .slice A ms.length c), (11, pt d13 0), (13, pt p28 0), (17, .bool false), (18, pt p107 0), (19, .int .i64 (IntKind.i64.wrap ((i : Int) + 1)))] (by kernel_rfl) rfl ?_
                  have e221 : (IntKind.i64.wrap ((i : Int) + 1)) = ((i + 1 : Nat) : Int) := by rw [in_i64 (by omega)]; omega
                  refine GL.eq (M' := [(3, .int .i64 (k : Int)), (4, .slice A ms.length c), (11, pt d13 0), (13, pt p28 0), (17, .bool false), (18, pt p107 0), (19, .int .i64 ((i + 1 : Nat) : Int))]) (by rw [e221]) ?_
                  clear e221
                  refine GL.fit (ts := [3, 4, 11, 13, 17, 18, 19]) (M' := [(3, .int .i64 (k : Int)), (4, .slice A ms.length c), (11, pt d13 0), (13, pt p28 0), (17, .bool false), (18, pt p107 0), (19, .int .i64 ((i + 1 : Nat) : Int))]) (by kernel_rfl) ?_
                  refine GL.eq (M' := [(3, .int .i64 (k : Int)), (4, .slice A ms.length c), (11, pt d13 0), (13, pt p28 0), (17, .bool false), (18, pt p107 0), (19, .int .i64 (((i + 1) : Nat) : Int))]) (by rfl) ?_
                  exact GL.again ⟨(i + 1), false, (a0_.took r_), a1_.pass, a2_.pass, G_, p0_, p1_, p2_, (t0 + 1), t1, t2⟩ [3, 4, 11, 13, 17, 18, 19] rfl (by kernel_rfl) (by show (p0_ - (t0 + 1)) + (p1_ - t1) + (p2_ - t2) + (ms.length - (i + 1)) < (p0 - t0) + (p1 - t1) + (p2 - t2) + (ms.length - i); omega) ⟨⟨⟨hLQn, hM1.pass, hM2.pass⟩, ⟨(Lane.z.took _ _), (Lane.z.pass hz1_ (by omega)), (Lane.z.pass hz2_ (by omega))⟩, ⟨(LnOk.took hok0_ hlk).1, hok1_, hok2_⟩, ⟨Nat.zero_le _, (by have h_ := pass_le a1_; omega), (by have h_ := pass_le a2_; omega)⟩, ⟨by omega, by omega⟩, fun h_ => by cases h_⟩, H212⟩
                · skip
                  refine GL.eq (M' := [(3, .int .i64 (k : Int)), (4, .slice A ms.length c), (11, pt d13 0), (13, pt p28 0), (17, .bool true), (18, pt p107 0), (19, .int .i64 (i : Int)), (129, .bool true)]) (by first | (rw [hb220]; done) | (rw [hb220]; rfl)) ?_
                  refine GL.run (j := 5) 3 [3, 4, 11, 13, 17, 18, 19, 132] [(3, .int .i64 (k : Int)), (4, .slice A ms.length c), (11, pt d13 0), (13, pt p28 0), (17, .bool true), (18, pt p107 0), (19, .int .i64 (i : Int)), (132, .bool (decide (6 ≤ (i : Int))))] (by kernel_rfl) rfl ?_
                  refine GL.k rfl hK219 (fun _ _ h => h) ?_
                  have hb223 : (decide (6 ≤ (i : Int))) = false := decide_eq_false (by have h_ := (wt0 (r0 := r_) (hWT_ hb220) htk (by omega)).2; omega)
                  rw [hb223]
                  refine G.no rfl ?_
                  refine G.skipK hK123 (fun _ _ h => h) ?_
                  refine G.region ?_
                  refine GL.run (j := 3) 3 [3, 4, 11, 13, 17, 18, 19] [(3, .int .i64 (k : Int)), (4, .slice A ms.length c), (11, pt d13 0), (13, pt p28 0), (17, .bool true), (18, pt p107 0), (19, .int .i64 (IntKind.i64.wrap ((i : Int) + 1)))] (by kernel_rfl) rfl ?_
                  have e224 : (IntKind.i64.wrap ((i : Int) + 1)) = ((i + 1 : Nat) : Int) := by rw [in_i64 (by omega)]; omega
                  refine GL.eq (M' := [(3, .int .i64 (k : Int)), (4, .slice A ms.length c), (11, pt d13 0), (13, pt p28 0), (17, .bool true), (18, pt p107 0), (19, .int .i64 ((i + 1 : Nat) : Int))]) (by rw [e224]) ?_
                  clear e224
                  refine GL.fit (ts := [3, 4, 11, 13, 17, 18, 19]) (M' := [(3, .int .i64 (k : Int)), (4, .slice A ms.length c), (11, pt d13 0), (13, pt p28 0), (17, .bool true), (18, pt p107 0), (19, .int .i64 ((i + 1 : Nat) : Int))]) (by kernel_rfl) ?_
                  refine GL.eq (M' := [(3, .int .i64 (k : Int)), (4, .slice A ms.length c), (11, pt d13 0), (13, pt p28 0), (17, .bool true), (18, pt p107 0), (19, .int .i64 (((i + 1) : Nat) : Int))]) (by rfl) ?_
                  exact GL.again ⟨(i + 1), true, (a0_.took r_), a1_.pass, a2_.pass, G_, p0_, p1_, p2_, (t0 + 1), t1, t2⟩ [3, 4, 11, 13, 17, 18, 19] rfl (by kernel_rfl) (by show (p0_ - (t0 + 1)) + (p1_ - t1) + (p2_ - t2) + (ms.length - (i + 1)) < (p0 - t0) + (p1 - t1) + (p2 - t2) + (ms.length - i); omega) ⟨⟨⟨hLQn, hM1.pass, hM2.pass⟩, ⟨(Lane.z.took _ _), (Lane.z.pass hz1_ (by omega)), (Lane.z.pass hz2_ (by omega))⟩, ⟨(LnOk.took hok0_ hlk).1, hok1_, hok2_⟩, ⟨Nat.zero_le _, (by have h_ := pass_le a1_; omega), (by have h_ := pass_le a2_; omega)⟩, ⟨by omega, by omega⟩, fun _ => (wt0 (r0 := r_) (hWT_ hb220) htk (by omega)).1⟩, H212⟩
              · skip
                have hb217f := eq_of_beq hb217
                refine G.yes rfl ?_
                refine G.region ?_
                refine GL.run (j := 1) 1 [3, 4, 11, 13, 17, 18, 19] [(3, .int .i64 (k : Int)), (4, .slice A ms.length c), (11, pt d13 0), (13, pt p28 0), (17, .bool false), (18, pt p107 0), (19, .int .i64 (i : Int))] (by kernel_rfl) rfl ?_
                refine GL.k rfl hK214 (fun _ _ h => h) ?_
                refine G.seqK fun K226 hK227 => ?_
                refine G.region ?_
                refine GL.run (j := 5) 5 [3, 4, 11, 13, 17, 18, 19, 132] [(3, .int .i64 (k : Int)), (4, .slice A ms.length c), (11, pt d13 0), (13, pt p28 0), (17, .bool false), (18, pt p107 0), (19, .int .i64 (i : Int)), (132, .bool false)] (by kernel_rfl) rfl ?_
                refine GL.k rfl hK227 (fun _ _ h => h) ?_
                refine G.no rfl ?_
                refine G.skipK hK123 (fun _ _ h => h) ?_
                refine G.region ?_
                refine GL.run (j := 3) 3 [3, 4, 11, 13, 17, 18, 19] [(3, .int .i64 (k : Int)), (4, .slice A ms.length c), (11, pt d13 0), (13, pt p28 0), (17, .bool false), (18, pt p107 0), (19, .int .i64 (IntKind.i64.wrap ((i : Int) + 1)))] (by kernel_rfl) rfl ?_
                have e228 : (IntKind.i64.wrap ((i : Int) + 1)) = ((i + 1 : Nat) : Int) := by rw [in_i64 (by omega)]; omega
                refine GL.eq (M' := [(3, .int .i64 (k : Int)), (4, .slice A ms.length c), (11, pt d13 0), (13, pt p28 0), (17, .bool false), (18, pt p107 0), (19, .int .i64 ((i + 1 : Nat) : Int))]) (by rw [e228]) ?_
                clear e228
                refine GL.fit (ts := [3, 4, 11, 13, 17, 18, 19]) (M' := [(3, .int .i64 (k : Int)), (4, .slice A ms.length c), (11, pt d13 0), (13, pt p28 0), (17, .bool false), (18, pt p107 0), (19, .int .i64 ((i + 1 : Nat) : Int))]) (by kernel_rfl) ?_
                refine GL.eq (M' := [(3, .int .i64 (k : Int)), (4, .slice A ms.length c), (11, pt d13 0), (13, pt p28 0), (17, .bool false), (18, pt p107 0), (19, .int .i64 (((i + 1) : Nat) : Int))]) (by rfl) ?_
                exact GL.again ⟨(i + 1), false, (a0_.took r_), a1_.pass, a2_.pass, G_, p0_, p1_, p2_, (t0 + 1), t1, t2⟩ [3, 4, 11, 13, 17, 18, 19] rfl (by kernel_rfl) (by show (p0_ - (t0 + 1)) + (p1_ - t1) + (p2_ - t2) + (ms.length - (i + 1)) < (p0 - t0) + (p1 - t1) + (p2 - t2) + (ms.length - i); omega) ⟨⟨⟨hLQn, hM1.pass, hM2.pass⟩, ⟨(Lane.z.took _ _), (Lane.z.pass hz1_ (by omega)), (Lane.z.pass hz2_ (by omega))⟩, ⟨(LnOk.took hok0_ hlk).1, hok1_, hok2_⟩, ⟨Nat.zero_le _, (by have h_ := pass_le a1_; omega), (by have h_ := pass_le a2_; omega)⟩, ⟨by omega, by omega⟩, fun h_ => by cases h_⟩, H212⟩
            · skip
              obtain ⟨mA_, mc_, r_, hlk, htp, hLQn⟩ := hM1.head ((tk_len htk).2.1 rfl)
              refine GL.run (j := 1) 1 [3, 4, 11, 13, 17, 18, 19, 100] [(3, .int .i64 (k : Int)), (4, .slice A ms.length c), (11, pt d13 0), (13, pt p28 0), (17, .bool wt), (18, pt p107 0), (19, .int .i64 (i : Int)), (100, pt d13 0)] (by kernel_rfl) rfl ?_
              have hmhlk := (LnOk.took (G := G_) (a := a1_) hok1_ hlk).2
              refine GL.call (j := 2) (Take1_calls (ids [.blk d13 [.chan (some a0_.ch), .chan (some a1_.ch), .chan (some a2_.ch), .int .i64 (a0_.p : Int), .int .i64 (a1_.p : Int), .int .i64 (a2_.p : Int), .bool false] 52, .obj a0_.ch (chO 256 a0_.l false a0_.s a0_.r), .obj a1_.ch (chO 256 a1_.l false a1_.s a1_.r), .obj a2_.ch (chO 256 a2_.l false a2_.s a2_.r), .bag G_]) d13 256 false a0_ a1_ a2_ G_ (Msg.mk mA_ [UInt8.ofNat t1] mc_) r_ w187 (Hp.startL (A := [.blk d13 [.chan (some a0_.ch), .chan (some a1_.ch), .chan (some a2_.ch), .int .i64 (a0_.p : Int), .int .i64 (a1_.p : Int), .int .i64 (a2_.p : Int), .bool false] 52, .obj a0_.ch (chO 256 a0_.l false a0_.s a0_.r), .obj a1_.ch (chO 256 a1_.l false a1_.s a1_.r), .obj a2_.ch (chO 256 a2_.l false a2_.s a2_.r), .bag G_]) (B := [.blk p28 [.int .i64 (p0_ : Int), .int .i64 (p1_ : Int), .int .i64 (p2_ : Int)] 28, .blk p107 [.int .i64 (t0 : Int), .int .i64 (t1 : Int), .int .i64 (t2 : Int)] 28]) H189) hz0_ hz1_ hz2_ htk hlk) (by kernel_rfl) rfl (fun e_ w230 hR => ?_)
              obtain ⟨rfl, H232⟩ := hR
              have H231 : Hp w [] [.blk d13 [.chan (some a0_.pass.ch), .chan (some (a1_.took r_).ch), .chan (some a2_.pass.ch), .int .i64 (a0_.pass.p : Int), .int .i64 (((a1_.took r_).p : Nat) : Int), .int .i64 (a2_.pass.p : Int), .bool false] 52, .obj a0_.pass.ch (chO 256 a0_.pass.l false a0_.pass.s a0_.pass.r), .obj (a1_.took r_).ch (chO 256 (a1_.took r_).l false (a1_.took r_).s (a1_.took r_).r), .obj a2_.pass.ch (chO 256 a2_.pass.l false a2_.pass.s a2_.pass.r), .bag G_, .blk p28 [.int .i64 (p0_ : Int), .int .i64 (p1_ : Int), .int .i64 (p2_ : Int)] 28, .blk p107 [.int .i64 (t0 : Int), .int .i64 (t1 : Int), .int .i64 (t2 : Int)] 28] w230 := Hp.callL (A := [.blk d13 [.chan (some a0_.ch), .chan (some a1_.ch), .chan (some a2_.ch), .int .i64 (a0_.p : Int), .int .i64 (a1_.p : Int), .int .i64 (a2_.p : Int), .bool false] 52, .obj a0_.ch (chO 256 a0_.l false a0_.s a0_.r), .obj a1_.ch (chO 256 a1_.l false a1_.s a1_.r), .obj a2_.ch (chO 256 a2_.l false a2_.s a2_.r), .bag G_]) (B := [.blk p28 [.int .i64 (p0_ : Int), .int .i64 (p1_ : Int), .int .i64 (p2_ : Int)] 28, .blk p107 [.int .i64 (t0 : Int), .int .i64 (t1 : Int), .int .i64 (t2 : Int)] 28]) H189 H232
              refine ⟨_, rfl, [3, 4, 11, 13, 17, 18, 19, 101], [(3, .int .i64 (k : Int)), (4, .slice A ms.length c), (11, pt d13 0), (13, pt p28 0), (17, .bool wt), (18, pt p107 0), (19, .int .i64 (i : Int)), (101, .tuple #[.slice mA_ 1 mc_, .int .i64 1, .bool true])], by kernel_rfl, ?_⟩
              refine GL.run (j := 9) 7 [3, 4, 11, 13, 17, 18, 19, 21, 22, 23] [(3, .int .i64 (k : Int)), (4, .slice A ms.length c), (11, pt d13 0), (13, pt p28 0), (17, .bool wt), (18, pt p107 0), (19, .int .i64 (i : Int)), (21, .slice mA_ 1 mc_), (22, .int .i64 1), (23, .bool true)] (by kernel_rfl) rfl ?_
              refine GL.k rfl hK191 (fun _ _ h => h) ?_
              refine G.seqK fun K233 hK234 => ?_
              refine G.seqK fun K235 hK236 => ?_
              refine G.region ?_
              refine GL.run (j := 2) 2 [3, 4, 11, 13, 17, 18, 19, 21, 22, 106] [(3, .int .i64 (k : Int)), (4, .slice A ms.length c), (11, pt d13 0), (13, pt p28 0), (17, .bool wt), (18, pt p107 0), (19, .int .i64 (i : Int)), (21, .slice mA_ 1 mc_), (22, .int .i64 1), (106, .bool false)] (by kernel_rfl) rfl ?_
              refine GL.k rfl hK236 (fun _ _ h => h) ?_
              refine G.no rfl ?_
              refine G.skipK hK234 (fun _ _ h => h) ?_
              refine G.seqK fun K237 hK238 => ?_
              refine G.seqK fun K239 hK240 => ?_
              refine G.draw H231 (by kernel_rfl) (by kernel_rfl) ?_
              refine GQ.run (j := 5) 5 [3, 4, 11, 13, 17, 18, 19, 22, 110, 111] [(3, .int .i64 (k : Int)), (4, .slice A ms.length c), (11, pt d13 0), (13, pt p28 0), (17, .bool wt), (18, pt p107 0), (19, .int .i64 (i : Int)), (22, .int .i64 1), (110, .bool false), (111, .slice mA_ 1 mc_)] (by kernel_rfl) rfl ?_
              refine GQ.sem (j := 6) (fun w_ H_ => run_idxRd (P := Try.prog) (k := .i64) (t := 22) (A := mA_) (len := 1) (cap := mc_) (j := 0) (by kernel_rfl) rfl (H_.bagRd 4 rfl hmhlk) (by rw [by8_length]; rfl) (by omega)) [3, 4, 11, 13, 17, 18, 19, 22, 110, 112] [(3, .int .i64 (k : Int)), (4, .slice A ms.length c), (11, pt d13 0), (13, pt p28 0), (17, .bool wt), (18, pt p107 0), (19, .int .i64 (i : Int)), (22, .int .i64 1), (110, .bool false), (112, .pointer (Option.map (fun x => Addr.add x 0) mA_))] (by kernel_rfl) (by kernel_rfl) rfl ?_
              refine GQ.sem (j := 7) (fun w_ H_ => run_ldRd (P := Try.prog) (ty := 5) (A := mA_) (j := 0) (v := .int .u8 ((UInt8.ofNat t1).toNat : Int)) (by kernel_rfl) (H_.bagRd 4 rfl hmhlk) (rfl)) [3, 4, 11, 13, 17, 18, 19, 22, 110, 113] [(3, .int .i64 (k : Int)), (4, .slice A ms.length c), (11, pt d13 0), (13, pt p28 0), (17, .bool wt), (18, pt p107 0), (19, .int .i64 (i : Int)), (22, .int .i64 1), (110, .bool false), (113, .int .u8 ((UInt8.ofNat t1).toNat : Int))] (by kernel_rfl) (by kernel_rfl) rfl ?_
              refine GQ.run (j := 9) 2 [3, 4, 11, 13, 17, 18, 19, 22, 110, 113, 115] [(3, .int .i64 (k : Int)), (4, .slice A ms.length c), (11, pt d13 0), (13, pt p28 0), (17, .bool wt), (18, pt p107 0), (19, .int .i64 (i : Int)), (22, .int .i64 1), (110, .bool false), (113, .int .u8 ((UInt8.ofNat t1).toNat : Int)), (115, pt p107 1)] (by kernel_rfl) rfl ?_
              refine GQ.sem (j := 10) (fun w_ H_ => H_.ld (o := 1) (ty := 3) (v := .int .i64 (t1 : Int)) 6 rfl (by kernel_rfl) rfl) [3, 4, 11, 13, 17, 18, 19, 22, 110, 113, 116] [(3, .int .i64 (k : Int)), (4, .slice A ms.length c), (11, pt d13 0), (13, pt p28 0), (17, .bool wt), (18, pt p107 0), (19, .int .i64 (i : Int)), (22, .int .i64 1), (110, .bool false), (113, .int .u8 ((UInt8.ofNat t1).toNat : Int)), (116, .int .i64 (t1 : Int))] (by kernel_rfl) (by kernel_rfl) rfl ?_
              refine GQ.run (j := 13) 3 [3, 4, 11, 13, 17, 18, 19, 22, 119] [(3, .int .i64 (k : Int)), (4, .slice A ms.length c), (11, pt d13 0), (13, pt p28 0), (17, .bool wt), (18, pt p107 0), (19, .int .i64 (i : Int)), (22, .int .i64 1), (119, .bool (((UInt8.ofNat t1).toNat : Int) != (IntKind.u8.wrap (t1 : Int))))] (by kernel_rfl) rfl ?_
              have e241 : (IntKind.u8.wrap (t1 : Int)) = ((UInt8.ofNat t1).toNat : Int) := n_byte _
              refine GQ.eq (M' := [(3, .int .i64 (k : Int)), (4, .slice A ms.length c), (11, pt d13 0), (13, pt p28 0), (17, .bool wt), (18, pt p107 0), (19, .int .i64 (i : Int)), (22, .int .i64 1), (119, .bool (((UInt8.ofNat t1).toNat : Int) != ((UInt8.ofNat t1).toNat : Int)))]) (by rw [e241]) ?_
              clear e241
              refine GQ.k rfl hK240 (fun _ _ h => h) (fun w242 H243 => ?_)
              have hb244 : (((UInt8.ofNat t1).toNat : Int) != ((UInt8.ofNat t1).toNat : Int)) = false := bne_self_eq_false _
              rw [hb244]
              refine G.no rfl ?_
              refine G.skipK hK238 (fun _ _ h => h) ?_
              refine G.seqK fun K245 hK246 => ?_
              refine G.region ?_
              refine GL.run (j := 2) 2 [3, 4, 11, 13, 17, 18, 19, 22, 120, 121] [(3, .int .i64 (k : Int)), (4, .slice A ms.length c), (11, pt d13 0), (13, pt p28 0), (17, .bool wt), (18, pt p107 0), (19, .int .i64 (i : Int)), (22, .int .i64 1), (120, .int .i64 1), (121, pt p107 1)] (by kernel_rfl) rfl ?_
              refine GL.sem (j := 3) (H243.ld (o := 1) (ty := 3) (v := .int .i64 (t1 : Int)) 6 rfl (by kernel_rfl) rfl) [3, 4, 11, 13, 17, 18, 19, 22, 120, 122] [(3, .int .i64 (k : Int)), (4, .slice A ms.length c), (11, pt d13 0), (13, pt p28 0), (17, .bool wt), (18, pt p107 0), (19, .int .i64 (i : Int)), (22, .int .i64 1), (120, .int .i64 1), (122, .int .i64 (t1 : Int))] (by kernel_rfl) (by kernel_rfl) rfl ?_
              refine GL.run (j := 5) 2 [3, 4, 11, 13, 17, 18, 19, 22, 123, 124] [(3, .int .i64 (k : Int)), (4, .slice A ms.length c), (11, pt d13 0), (13, pt p28 0), (17, .bool wt), (18, pt p107 0), (19, .int .i64 (i : Int)), (22, .int .i64 1), (123, .int .i64 (IntKind.i64.wrap ((t1 : Int) + 1))), (124, pt p107 1)] (by kernel_rfl) rfl ?_
              have e247 : (IntKind.i64.wrap ((t1 : Int) + 1)) = ((t1 + 1 : Nat) : Int) := by rw [in_i64 (by omega)]; omega
              refine GL.eq (M' := [(3, .int .i64 (k : Int)), (4, .slice A ms.length c), (11, pt d13 0), (13, pt p28 0), (17, .bool wt), (18, pt p107 0), (19, .int .i64 (i : Int)), (22, .int .i64 1), (123, .int .i64 ((t1 + 1 : Nat) : Int)), (124, pt p107 1)]) (by rw [e247]) ?_
              clear e247
              obtain ⟨w248, r249, H250⟩ := H243.st (P := Try.prog) (o := 1) (ty := 3) (v := .int .i64 ((t1 + 1 : Nat) : Int)) 6 rfl (by kernel_rfl) (by simp) rfl
              have H250 : Hp w [] [.blk d13 [.chan (some a0_.pass.ch), .chan (some (a1_.took r_).ch), .chan (some a2_.pass.ch), .int .i64 (a0_.pass.p : Int), .int .i64 (((a1_.took r_).p : Nat) : Int), .int .i64 (a2_.pass.p : Int), .bool false] 52, .obj a0_.pass.ch (chO 256 a0_.pass.l false a0_.pass.s a0_.pass.r), .obj (a1_.took r_).ch (chO 256 (a1_.took r_).l false (a1_.took r_).s (a1_.took r_).r), .obj a2_.pass.ch (chO 256 a2_.pass.l false a2_.pass.s a2_.pass.r), .bag G_, .blk p28 [.int .i64 (p0_ : Int), .int .i64 (p1_ : Int), .int .i64 (p2_ : Int)] 28, .blk p107 [.int .i64 (t0 : Int), .int .i64 ((t1 + 1 : Nat) : Int), .int .i64 (t2 : Int)] 28] w248 := H250
              refine GL.semU (j := 6) r249 [3, 4, 11, 13, 17, 18, 19, 22] [(3, .int .i64 (k : Int)), (4, .slice A ms.length c), (11, pt d13 0), (13, pt p28 0), (17, .bool wt), (18, pt p107 0), (19, .int .i64 (i : Int)), (22, .int .i64 1)] (by kernel_rfl) rfl rfl rfl ?_
              refine GL.k rfl hK246 (fun _ _ h => h) ?_
              refine G.seqK fun K251 hK252 => ?_
              refine G.seqK fun K253 hK254 => ?_
              refine G.region ?_
              refine GL.run (j := 3) 3 [3, 4, 11, 13, 17, 18, 19, 127] [(3, .int .i64 (k : Int)), (4, .slice A ms.length c), (11, pt d13 0), (13, pt p28 0), (17, .bool wt), (18, pt p107 0), (19, .int .i64 (i : Int)), (127, .bool ((1 : Int) == (k : Int)))] (by kernel_rfl) rfl ?_
              refine GL.k rfl hK254 (fun _ _ h => h) ?_
              cases hb255 : ((1 : Int) == (k : Int))
              · skip
                have hb255f := ne_of_beq_false hb255
                refine G.no rfl ?_
                refine G.skipK hK252 (fun _ _ h => h) ?_
                refine G.seqK fun K256 hK257 => ?_
                refine G.region ?_
                refine GL.run (j := 2) 2 [3, 4, 11, 13, 17, 18, 19, 129] [(3, .int .i64 (k : Int)), (4, .slice A ms.length c), (11, pt d13 0), (13, pt p28 0), (17, .bool wt), (18, pt p107 0), (19, .int .i64 (i : Int)), (129, .bool wt)] (by kernel_rfl) rfl ?_
                rcases (Bool.eq_false_or_eq_true wt).symm with hb258 | hb258
                · skip
                  refine GL.eq (M' := [(3, .int .i64 (k : Int)), (4, .slice A ms.length c), (11, pt d13 0), (13, pt p28 0), (17, .bool false), (18, pt p107 0), (19, .int .i64 (i : Int)), (129, .bool false)]) (by first | (rw [hb258]; done) | (rw [hb258]; rfl)) ?_
                  refine GL.run (j := 5) 3 [3, 4, 11, 13, 17, 18, 19, 132] [(3, .int .i64 (k : Int)), (4, .slice A ms.length c), (11, pt d13 0), (13, pt p28 0), (17, .bool false), (18, pt p107 0), (19, .int .i64 (i : Int)), (132, .bool false)] (by kernel_rfl) rfl ?_
                  refine GL.k rfl hK257 (fun _ _ h => h) ?_
                  refine G.no rfl ?_
                  refine G.skipK hK123 (fun _ _ h => h) ?_
                  refine G.region ?_
                  refine GL.run (j := 3) 3 [3, 4, 11, 13, 17, 18, 19] [(3, .int .i64 (k : Int)), (4, .slice A ms.length c), (11, pt d13 0), (13, pt p28 0), (17, .bool false), (18, pt p107 0), (19, .int .i64 (IntKind.i64.wrap ((i : Int) + 1)))] (by kernel_rfl) rfl ?_
                  have e259 : (IntKind.i64.wrap ((i : Int) + 1)) = ((i + 1 : Nat) : Int) := by rw [in_i64 (by omega)]; omega
                  refine GL.eq (M' := [(3, .int .i64 (k : Int)), (4, .slice A ms.length c), (11, pt d13 0), (13, pt p28 0), (17, .bool false), (18, pt p107 0), (19, .int .i64 ((i + 1 : Nat) : Int))]) (by rw [e259]) ?_
                  clear e259
                  refine GL.fit (ts := [3, 4, 11, 13, 17, 18, 19]) (M' := [(3, .int .i64 (k : Int)), (4, .slice A ms.length c), (11, pt d13 0), (13, pt p28 0), (17, .bool false), (18, pt p107 0), (19, .int .i64 ((i + 1 : Nat) : Int))]) (by kernel_rfl) ?_
                  refine GL.eq (M' := [(3, .int .i64 (k : Int)), (4, .slice A ms.length c), (11, pt d13 0), (13, pt p28 0), (17, .bool false), (18, pt p107 0), (19, .int .i64 (((i + 1) : Nat) : Int))]) (by rfl) ?_
                  exact GL.again ⟨(i + 1), false, a0_.pass, (a1_.took r_), a2_.pass, G_, p0_, p1_, p2_, t0, (t1 + 1), t2⟩ [3, 4, 11, 13, 17, 18, 19] rfl (by kernel_rfl) (by show (p0_ - t0) + (p1_ - (t1 + 1)) + (p2_ - t2) + (ms.length - (i + 1)) < (p0 - t0) + (p1 - t1) + (p2 - t2) + (ms.length - i); omega) ⟨⟨⟨hM0.pass, hLQn, hM2.pass⟩, ⟨(Lane.z.pass hz0_ (by omega)), (Lane.z.took _ _), (Lane.z.pass hz2_ (by omega))⟩, ⟨hok0_, (LnOk.took hok1_ hlk).1, hok2_⟩, ⟨(by have h_ := pass_le a0_; omega), Nat.zero_le _, (by have h_ := pass_le a2_; omega)⟩, ⟨by omega, by omega⟩, fun h_ => by cases h_⟩, H250⟩
                · skip
                  refine GL.eq (M' := [(3, .int .i64 (k : Int)), (4, .slice A ms.length c), (11, pt d13 0), (13, pt p28 0), (17, .bool true), (18, pt p107 0), (19, .int .i64 (i : Int)), (129, .bool true)]) (by first | (rw [hb258]; done) | (rw [hb258]; rfl)) ?_
                  refine GL.run (j := 5) 3 [3, 4, 11, 13, 17, 18, 19, 132] [(3, .int .i64 (k : Int)), (4, .slice A ms.length c), (11, pt d13 0), (13, pt p28 0), (17, .bool true), (18, pt p107 0), (19, .int .i64 (i : Int)), (132, .bool (decide (6 ≤ (i : Int))))] (by kernel_rfl) rfl ?_
                  refine GL.k rfl hK257 (fun _ _ h => h) ?_
                  have hb261 : (decide (6 ≤ (i : Int))) = false := decide_eq_false (by have h_ := (wt1 (r1 := r_) (hWT_ hb258) htk (by omega)).2; omega)
                  rw [hb261]
                  refine G.no rfl ?_
                  refine G.skipK hK123 (fun _ _ h => h) ?_
                  refine G.region ?_
                  refine GL.run (j := 3) 3 [3, 4, 11, 13, 17, 18, 19] [(3, .int .i64 (k : Int)), (4, .slice A ms.length c), (11, pt d13 0), (13, pt p28 0), (17, .bool true), (18, pt p107 0), (19, .int .i64 (IntKind.i64.wrap ((i : Int) + 1)))] (by kernel_rfl) rfl ?_
                  have e262 : (IntKind.i64.wrap ((i : Int) + 1)) = ((i + 1 : Nat) : Int) := by rw [in_i64 (by omega)]; omega
                  refine GL.eq (M' := [(3, .int .i64 (k : Int)), (4, .slice A ms.length c), (11, pt d13 0), (13, pt p28 0), (17, .bool true), (18, pt p107 0), (19, .int .i64 ((i + 1 : Nat) : Int))]) (by rw [e262]) ?_
                  clear e262
                  refine GL.fit (ts := [3, 4, 11, 13, 17, 18, 19]) (M' := [(3, .int .i64 (k : Int)), (4, .slice A ms.length c), (11, pt d13 0), (13, pt p28 0), (17, .bool true), (18, pt p107 0), (19, .int .i64 ((i + 1 : Nat) : Int))]) (by kernel_rfl) ?_
                  refine GL.eq (M' := [(3, .int .i64 (k : Int)), (4, .slice A ms.length c), (11, pt d13 0), (13, pt p28 0), (17, .bool true), (18, pt p107 0), (19, .int .i64 (((i + 1) : Nat) : Int))]) (by rfl) ?_
                  exact GL.again ⟨(i + 1), true, a0_.pass, (a1_.took r_), a2_.pass, G_, p0_, p1_, p2_, t0, (t1 + 1), t2⟩ [3, 4, 11, 13, 17, 18, 19] rfl (by kernel_rfl) (by show (p0_ - t0) + (p1_ - (t1 + 1)) + (p2_ - t2) + (ms.length - (i + 1)) < (p0 - t0) + (p1 - t1) + (p2 - t2) + (ms.length - i); omega) ⟨⟨⟨hM0.pass, hLQn, hM2.pass⟩, ⟨(Lane.z.pass hz0_ (by omega)), (Lane.z.took _ _), (Lane.z.pass hz2_ (by omega))⟩, ⟨hok0_, (LnOk.took hok1_ hlk).1, hok2_⟩, ⟨(by have h_ := pass_le a0_; omega), Nat.zero_le _, (by have h_ := pass_le a2_; omega)⟩, ⟨by omega, by omega⟩, fun _ => (wt1 (r1 := r_) (hWT_ hb258) htk (by omega)).1⟩, H250⟩
              · skip
                have hb255f := eq_of_beq hb255
                refine G.yes rfl ?_
                refine G.region ?_
                refine GL.run (j := 1) 1 [3, 4, 11, 13, 17, 18, 19] [(3, .int .i64 (k : Int)), (4, .slice A ms.length c), (11, pt d13 0), (13, pt p28 0), (17, .bool false), (18, pt p107 0), (19, .int .i64 (i : Int))] (by kernel_rfl) rfl ?_
                refine GL.k rfl hK252 (fun _ _ h => h) ?_
                refine G.seqK fun K264 hK265 => ?_
                refine G.region ?_
                refine GL.run (j := 5) 5 [3, 4, 11, 13, 17, 18, 19, 132] [(3, .int .i64 (k : Int)), (4, .slice A ms.length c), (11, pt d13 0), (13, pt p28 0), (17, .bool false), (18, pt p107 0), (19, .int .i64 (i : Int)), (132, .bool false)] (by kernel_rfl) rfl ?_
                refine GL.k rfl hK265 (fun _ _ h => h) ?_
                refine G.no rfl ?_
                refine G.skipK hK123 (fun _ _ h => h) ?_
                refine G.region ?_
                refine GL.run (j := 3) 3 [3, 4, 11, 13, 17, 18, 19] [(3, .int .i64 (k : Int)), (4, .slice A ms.length c), (11, pt d13 0), (13, pt p28 0), (17, .bool false), (18, pt p107 0), (19, .int .i64 (IntKind.i64.wrap ((i : Int) + 1)))] (by kernel_rfl) rfl ?_
                have e266 : (IntKind.i64.wrap ((i : Int) + 1)) = ((i + 1 : Nat) : Int) := by rw [in_i64 (by omega)]; omega
                refine GL.eq (M' := [(3, .int .i64 (k : Int)), (4, .slice A ms.length c), (11, pt d13 0), (13, pt p28 0), (17, .bool false), (18, pt p107 0), (19, .int .i64 ((i + 1 : Nat) : Int))]) (by rw [e266]) ?_
                clear e266
                refine GL.fit (ts := [3, 4, 11, 13, 17, 18, 19]) (M' := [(3, .int .i64 (k : Int)), (4, .slice A ms.length c), (11, pt d13 0), (13, pt p28 0), (17, .bool false), (18, pt p107 0), (19, .int .i64 ((i + 1 : Nat) : Int))]) (by kernel_rfl) ?_
                refine GL.eq (M' := [(3, .int .i64 (k : Int)), (4, .slice A ms.length c), (11, pt d13 0), (13, pt p28 0), (17, .bool false), (18, pt p107 0), (19, .int .i64 (((i + 1) : Nat) : Int))]) (by rfl) ?_
                exact GL.again ⟨(i + 1), false, a0_.pass, (a1_.took r_), a2_.pass, G_, p0_, p1_, p2_, t0, (t1 + 1), t2⟩ [3, 4, 11, 13, 17, 18, 19] rfl (by kernel_rfl) (by show (p0_ - t0) + (p1_ - (t1 + 1)) + (p2_ - t2) + (ms.length - (i + 1)) < (p0 - t0) + (p1 - t1) + (p2 - t2) + (ms.length - i); omega) ⟨⟨⟨hM0.pass, hLQn, hM2.pass⟩, ⟨(Lane.z.pass hz0_ (by omega)), (Lane.z.took _ _), (Lane.z.pass hz2_ (by omega))⟩, ⟨hok0_, (LnOk.took hok1_ hlk).1, hok2_⟩, ⟨(by have h_ := pass_le a0_; omega), Nat.zero_le _, (by have h_ := pass_le a2_; omega)⟩, ⟨by omega, by omega⟩, fun h_ => by cases h_⟩, H250⟩
            · skip
              obtain ⟨mA_, mc_, r_, hlk, htp, hLQn⟩ := hM2.head ((tk_len htk).2.2.1 rfl)
              refine GL.run (j := 1) 1 [3, 4, 11, 13, 17, 18, 19, 100] [(3, .int .i64 (k : Int)), (4, .slice A ms.length c), (11, pt d13 0), (13, pt p28 0), (17, .bool wt), (18, pt p107 0), (19, .int .i64 (i : Int)), (100, pt d13 0)] (by kernel_rfl) rfl ?_
              have hmhlk := (LnOk.took (G := G_) (a := a2_) hok2_ hlk).2
              refine GL.call (j := 2) (Take2_calls (ids [.blk d13 [.chan (some a0_.ch), .chan (some a1_.ch), .chan (some a2_.ch), .int .i64 (a0_.p : Int), .int .i64 (a1_.p : Int), .int .i64 (a2_.p : Int), .bool false] 52, .obj a0_.ch (chO 256 a0_.l false a0_.s a0_.r), .obj a1_.ch (chO 256 a1_.l false a1_.s a1_.r), .obj a2_.ch (chO 256 a2_.l false a2_.s a2_.r), .bag G_]) d13 256 false a0_ a1_ a2_ G_ (Msg.mk mA_ [UInt8.ofNat t2] mc_) r_ w187 (Hp.startL (A := [.blk d13 [.chan (some a0_.ch), .chan (some a1_.ch), .chan (some a2_.ch), .int .i64 (a0_.p : Int), .int .i64 (a1_.p : Int), .int .i64 (a2_.p : Int), .bool false] 52, .obj a0_.ch (chO 256 a0_.l false a0_.s a0_.r), .obj a1_.ch (chO 256 a1_.l false a1_.s a1_.r), .obj a2_.ch (chO 256 a2_.l false a2_.s a2_.r), .bag G_]) (B := [.blk p28 [.int .i64 (p0_ : Int), .int .i64 (p1_ : Int), .int .i64 (p2_ : Int)] 28, .blk p107 [.int .i64 (t0 : Int), .int .i64 (t1 : Int), .int .i64 (t2 : Int)] 28]) H189) hz0_ hz1_ hz2_ htk hlk) (by kernel_rfl) rfl (fun e_ w268 hR => ?_)
              obtain ⟨rfl, H270⟩ := hR
              have H269 : Hp w [] [.blk d13 [.chan (some a0_.pass.ch), .chan (some a1_.pass.ch), .chan (some (a2_.took r_).ch), .int .i64 (a0_.pass.p : Int), .int .i64 (a1_.pass.p : Int), .int .i64 (((a2_.took r_).p : Nat) : Int), .bool false] 52, .obj a0_.pass.ch (chO 256 a0_.pass.l false a0_.pass.s a0_.pass.r), .obj a1_.pass.ch (chO 256 a1_.pass.l false a1_.pass.s a1_.pass.r), .obj (a2_.took r_).ch (chO 256 (a2_.took r_).l false (a2_.took r_).s (a2_.took r_).r), .bag G_, .blk p28 [.int .i64 (p0_ : Int), .int .i64 (p1_ : Int), .int .i64 (p2_ : Int)] 28, .blk p107 [.int .i64 (t0 : Int), .int .i64 (t1 : Int), .int .i64 (t2 : Int)] 28] w268 := Hp.callL (A := [.blk d13 [.chan (some a0_.ch), .chan (some a1_.ch), .chan (some a2_.ch), .int .i64 (a0_.p : Int), .int .i64 (a1_.p : Int), .int .i64 (a2_.p : Int), .bool false] 52, .obj a0_.ch (chO 256 a0_.l false a0_.s a0_.r), .obj a1_.ch (chO 256 a1_.l false a1_.s a1_.r), .obj a2_.ch (chO 256 a2_.l false a2_.s a2_.r), .bag G_]) (B := [.blk p28 [.int .i64 (p0_ : Int), .int .i64 (p1_ : Int), .int .i64 (p2_ : Int)] 28, .blk p107 [.int .i64 (t0 : Int), .int .i64 (t1 : Int), .int .i64 (t2 : Int)] 28]) H189 H270
              refine ⟨_, rfl, [3, 4, 11, 13, 17, 18, 19, 101], [(3, .int .i64 (k : Int)), (4, .slice A ms.length c), (11, pt d13 0), (13, pt p28 0), (17, .bool wt), (18, pt p107 0), (19, .int .i64 (i : Int)), (101, .tuple #[.slice mA_ 1 mc_, .int .i64 2, .bool true])], by kernel_rfl, ?_⟩
              refine GL.run (j := 9) 7 [3, 4, 11, 13, 17, 18, 19, 21, 22, 23] [(3, .int .i64 (k : Int)), (4, .slice A ms.length c), (11, pt d13 0), (13, pt p28 0), (17, .bool wt), (18, pt p107 0), (19, .int .i64 (i : Int)), (21, .slice mA_ 1 mc_), (22, .int .i64 2), (23, .bool true)] (by kernel_rfl) rfl ?_
              refine GL.k rfl hK191 (fun _ _ h => h) ?_
              refine G.seqK fun K271 hK272 => ?_
              refine G.seqK fun K273 hK274 => ?_
              refine G.region ?_
              refine GL.run (j := 2) 2 [3, 4, 11, 13, 17, 18, 19, 21, 22, 106] [(3, .int .i64 (k : Int)), (4, .slice A ms.length c), (11, pt d13 0), (13, pt p28 0), (17, .bool wt), (18, pt p107 0), (19, .int .i64 (i : Int)), (21, .slice mA_ 1 mc_), (22, .int .i64 2), (106, .bool false)] (by kernel_rfl) rfl ?_
              refine GL.k rfl hK274 (fun _ _ h => h) ?_
              refine G.no rfl ?_
              refine G.skipK hK272 (fun _ _ h => h) ?_
              refine G.seqK fun K275 hK276 => ?_
              refine G.seqK fun K277 hK278 => ?_
              refine G.draw H269 (by kernel_rfl) (by kernel_rfl) ?_
              refine GQ.run (j := 5) 5 [3, 4, 11, 13, 17, 18, 19, 22, 110, 111] [(3, .int .i64 (k : Int)), (4, .slice A ms.length c), (11, pt d13 0), (13, pt p28 0), (17, .bool wt), (18, pt p107 0), (19, .int .i64 (i : Int)), (22, .int .i64 2), (110, .bool false), (111, .slice mA_ 1 mc_)] (by kernel_rfl) rfl ?_
              refine GQ.sem (j := 6) (fun w_ H_ => run_idxRd (P := Try.prog) (k := .i64) (t := 22) (A := mA_) (len := 1) (cap := mc_) (j := 0) (by kernel_rfl) rfl (H_.bagRd 4 rfl hmhlk) (by rw [by8_length]; rfl) (by omega)) [3, 4, 11, 13, 17, 18, 19, 22, 110, 112] [(3, .int .i64 (k : Int)), (4, .slice A ms.length c), (11, pt d13 0), (13, pt p28 0), (17, .bool wt), (18, pt p107 0), (19, .int .i64 (i : Int)), (22, .int .i64 2), (110, .bool false), (112, .pointer (Option.map (fun x => Addr.add x 0) mA_))] (by kernel_rfl) (by kernel_rfl) rfl ?_
              refine GQ.sem (j := 7) (fun w_ H_ => run_ldRd (P := Try.prog) (ty := 5) (A := mA_) (j := 0) (v := .int .u8 ((UInt8.ofNat t2).toNat : Int)) (by kernel_rfl) (H_.bagRd 4 rfl hmhlk) (rfl)) [3, 4, 11, 13, 17, 18, 19, 22, 110, 113] [(3, .int .i64 (k : Int)), (4, .slice A ms.length c), (11, pt d13 0), (13, pt p28 0), (17, .bool wt), (18, pt p107 0), (19, .int .i64 (i : Int)), (22, .int .i64 2), (110, .bool false), (113, .int .u8 ((UInt8.ofNat t2).toNat : Int))] (by kernel_rfl) (by kernel_rfl) rfl ?_
              refine GQ.run (j := 9) 2 [3, 4, 11, 13, 17, 18, 19, 22, 110, 113, 115] [(3, .int .i64 (k : Int)), (4, .slice A ms.length c), (11, pt d13 0), (13, pt p28 0), (17, .bool wt), (18, pt p107 0), (19, .int .i64 (i : Int)), (22, .int .i64 2), (110, .bool false), (113, .int .u8 ((UInt8.ofNat t2).toNat : Int)), (115, pt p107 2)] (by kernel_rfl) rfl ?_
              refine GQ.sem (j := 10) (fun w_ H_ => H_.ld (o := 2) (ty := 3) (v := .int .i64 (t2 : Int)) 6 rfl (by kernel_rfl) rfl) [3, 4, 11, 13, 17, 18, 19, 22, 110, 113, 116] [(3, .int .i64 (k : Int)), (4, .slice A ms.length c), (11, pt d13 0), (13, pt p28 0), (17, .bool wt), (18, pt p107 0), (19, .int .i64 (i : Int)), (22, .int .i64 2), (110, .bool false), (113, .int .u8 ((UInt8.ofNat t2).toNat : Int)), (116, .int .i64 (t2 : Int))] (by kernel_rfl) (by kernel_rfl) rfl ?_
              refine GQ.run (j := 13) 3 [3, 4, 11, 13, 17, 18, 19, 22, 119] [(3, .int .i64 (k : Int)), (4, .slice A ms.length c), (11, pt d13 0), (13, pt p28 0), (17, .bool wt), (18, pt p107 0), (19, .int .i64 (i : Int)), (22, .int .i64 2), (119, .bool (((UInt8.ofNat t2).toNat : Int) != (IntKind.u8.wrap (t2 : Int))))] (by kernel_rfl) rfl ?_
              have e279 : (IntKind.u8.wrap (t2 : Int)) = ((UInt8.ofNat t2).toNat : Int) := n_byte _
              refine GQ.eq (M' := [(3, .int .i64 (k : Int)), (4, .slice A ms.length c), (11, pt d13 0), (13, pt p28 0), (17, .bool wt), (18, pt p107 0), (19, .int .i64 (i : Int)), (22, .int .i64 2), (119, .bool (((UInt8.ofNat t2).toNat : Int) != ((UInt8.ofNat t2).toNat : Int)))]) (by rw [e279]) ?_
              clear e279
              refine GQ.k rfl hK278 (fun _ _ h => h) (fun w280 H281 => ?_)
              have hb282 : (((UInt8.ofNat t2).toNat : Int) != ((UInt8.ofNat t2).toNat : Int)) = false := bne_self_eq_false _
              rw [hb282]
              refine G.no rfl ?_
              refine G.skipK hK276 (fun _ _ h => h) ?_
              refine G.seqK fun K283 hK284 => ?_
              refine G.region ?_
              refine GL.run (j := 2) 2 [3, 4, 11, 13, 17, 18, 19, 22, 120, 121] [(3, .int .i64 (k : Int)), (4, .slice A ms.length c), (11, pt d13 0), (13, pt p28 0), (17, .bool wt), (18, pt p107 0), (19, .int .i64 (i : Int)), (22, .int .i64 2), (120, .int .i64 2), (121, pt p107 2)] (by kernel_rfl) rfl ?_
              refine GL.sem (j := 3) (H281.ld (o := 2) (ty := 3) (v := .int .i64 (t2 : Int)) 6 rfl (by kernel_rfl) rfl) [3, 4, 11, 13, 17, 18, 19, 22, 120, 122] [(3, .int .i64 (k : Int)), (4, .slice A ms.length c), (11, pt d13 0), (13, pt p28 0), (17, .bool wt), (18, pt p107 0), (19, .int .i64 (i : Int)), (22, .int .i64 2), (120, .int .i64 2), (122, .int .i64 (t2 : Int))] (by kernel_rfl) (by kernel_rfl) rfl ?_
              refine GL.run (j := 5) 2 [3, 4, 11, 13, 17, 18, 19, 22, 123, 124] [(3, .int .i64 (k : Int)), (4, .slice A ms.length c), (11, pt d13 0), (13, pt p28 0), (17, .bool wt), (18, pt p107 0), (19, .int .i64 (i : Int)), (22, .int .i64 2), (123, .int .i64 (IntKind.i64.wrap ((t2 : Int) + 1))), (124, pt p107 2)] (by kernel_rfl) rfl ?_
              have e285 : (IntKind.i64.wrap ((t2 : Int) + 1)) = ((t2 + 1 : Nat) : Int) := by rw [in_i64 (by omega)]; omega
              refine GL.eq (M' := [(3, .int .i64 (k : Int)), (4, .slice A ms.length c), (11, pt d13 0), (13, pt p28 0), (17, .bool wt), (18, pt p107 0), (19, .int .i64 (i : Int)), (22, .int .i64 2), (123, .int .i64 ((t2 + 1 : Nat) : Int)), (124, pt p107 2)]) (by rw [e285]) ?_
              clear e285
              obtain ⟨w286, r287, H288⟩ := H281.st (P := Try.prog) (o := 2) (ty := 3) (v := .int .i64 ((t2 + 1 : Nat) : Int)) 6 rfl (by kernel_rfl) (by simp) rfl
              have H288 : Hp w [] [.blk d13 [.chan (some a0_.pass.ch), .chan (some a1_.pass.ch), .chan (some (a2_.took r_).ch), .int .i64 (a0_.pass.p : Int), .int .i64 (a1_.pass.p : Int), .int .i64 (((a2_.took r_).p : Nat) : Int), .bool false] 52, .obj a0_.pass.ch (chO 256 a0_.pass.l false a0_.pass.s a0_.pass.r), .obj a1_.pass.ch (chO 256 a1_.pass.l false a1_.pass.s a1_.pass.r), .obj (a2_.took r_).ch (chO 256 (a2_.took r_).l false (a2_.took r_).s (a2_.took r_).r), .bag G_, .blk p28 [.int .i64 (p0_ : Int), .int .i64 (p1_ : Int), .int .i64 (p2_ : Int)] 28, .blk p107 [.int .i64 (t0 : Int), .int .i64 (t1 : Int), .int .i64 ((t2 + 1 : Nat) : Int)] 28] w286 := H288
              refine GL.semU (j := 6) r287 [3, 4, 11, 13, 17, 18, 19, 22] [(3, .int .i64 (k : Int)), (4, .slice A ms.length c), (11, pt d13 0), (13, pt p28 0), (17, .bool wt), (18, pt p107 0), (19, .int .i64 (i : Int)), (22, .int .i64 2)] (by kernel_rfl) rfl rfl rfl ?_
              refine GL.k rfl hK284 (fun _ _ h => h) ?_
              refine G.seqK fun K289 hK290 => ?_
              refine G.seqK fun K291 hK292 => ?_
              refine G.region ?_
              refine GL.run (j := 3) 3 [3, 4, 11, 13, 17, 18, 19, 127] [(3, .int .i64 (k : Int)), (4, .slice A ms.length c), (11, pt d13 0), (13, pt p28 0), (17, .bool wt), (18, pt p107 0), (19, .int .i64 (i : Int)), (127, .bool ((2 : Int) == (k : Int)))] (by kernel_rfl) rfl ?_
              refine GL.k rfl hK292 (fun _ _ h => h) ?_
              cases hb293 : ((2 : Int) == (k : Int))
              · skip
                have hb293f := ne_of_beq_false hb293
                refine G.no rfl ?_
                refine G.skipK hK290 (fun _ _ h => h) ?_
                refine G.seqK fun K294 hK295 => ?_
                refine G.region ?_
                refine GL.run (j := 2) 2 [3, 4, 11, 13, 17, 18, 19, 129] [(3, .int .i64 (k : Int)), (4, .slice A ms.length c), (11, pt d13 0), (13, pt p28 0), (17, .bool wt), (18, pt p107 0), (19, .int .i64 (i : Int)), (129, .bool wt)] (by kernel_rfl) rfl ?_
                rcases (Bool.eq_false_or_eq_true wt).symm with hb296 | hb296
                · skip
                  refine GL.eq (M' := [(3, .int .i64 (k : Int)), (4, .slice A ms.length c), (11, pt d13 0), (13, pt p28 0), (17, .bool false), (18, pt p107 0), (19, .int .i64 (i : Int)), (129, .bool false)]) (by first | (rw [hb296]; done) | (rw [hb296]; rfl)) ?_
                  refine GL.run (j := 5) 3 [3, 4, 11, 13, 17, 18, 19, 132] [(3, .int .i64 (k : Int)), (4, .slice A ms.length c), (11, pt d13 0), (13, pt p28 0), (17, .bool false), (18, pt p107 0), (19, .int .i64 (i : Int)), (132, .bool false)] (by kernel_rfl) rfl ?_
                  refine GL.k rfl hK295 (fun _ _ h => h) ?_
                  refine G.no rfl ?_
                  refine G.skipK hK123 (fun _ _ h => h) ?_
                  refine G.region ?_
                  refine GL.run (j := 3) 3 [3, 4, 11, 13, 17, 18, 19] [(3, .int .i64 (k : Int)), (4, .slice A ms.length c), (11, pt d13 0), (13, pt p28 0), (17, .bool false), (18, pt p107 0), (19, .int .i64 (IntKind.i64.wrap ((i : Int) + 1)))] (by kernel_rfl) rfl ?_
                  have e297 : (IntKind.i64.wrap ((i : Int) + 1)) = ((i + 1 : Nat) : Int) := by rw [in_i64 (by omega)]; omega
                  refine GL.eq (M' := [(3, .int .i64 (k : Int)), (4, .slice A ms.length c), (11, pt d13 0), (13, pt p28 0), (17, .bool false), (18, pt p107 0), (19, .int .i64 ((i + 1 : Nat) : Int))]) (by rw [e297]) ?_
                  clear e297
                  refine GL.fit (ts := [3, 4, 11, 13, 17, 18, 19]) (M' := [(3, .int .i64 (k : Int)), (4, .slice A ms.length c), (11, pt d13 0), (13, pt p28 0), (17, .bool false), (18, pt p107 0), (19, .int .i64 ((i + 1 : Nat) : Int))]) (by kernel_rfl) ?_
                  refine GL.eq (M' := [(3, .int .i64 (k : Int)), (4, .slice A ms.length c), (11, pt d13 0), (13, pt p28 0), (17, .bool false), (18, pt p107 0), (19, .int .i64 (((i + 1) : Nat) : Int))]) (by rfl) ?_
                  exact GL.again ⟨(i + 1), false, a0_.pass, a1_.pass, (a2_.took r_), G_, p0_, p1_, p2_, t0, t1, (t2 + 1)⟩ [3, 4, 11, 13, 17, 18, 19] rfl (by kernel_rfl) (by show (p0_ - t0) + (p1_ - t1) + (p2_ - (t2 + 1)) + (ms.length - (i + 1)) < (p0 - t0) + (p1 - t1) + (p2 - t2) + (ms.length - i); omega) ⟨⟨⟨hM0.pass, hM1.pass, hLQn⟩, ⟨(Lane.z.pass hz0_ (by omega)), (Lane.z.pass hz1_ (by omega)), (Lane.z.took _ _)⟩, ⟨hok0_, hok1_, (LnOk.took hok2_ hlk).1⟩, ⟨(by have h_ := pass_le a0_; omega), (by have h_ := pass_le a1_; omega), Nat.zero_le _⟩, ⟨by omega, by omega⟩, fun h_ => by cases h_⟩, H288⟩
                · skip
                  refine GL.eq (M' := [(3, .int .i64 (k : Int)), (4, .slice A ms.length c), (11, pt d13 0), (13, pt p28 0), (17, .bool true), (18, pt p107 0), (19, .int .i64 (i : Int)), (129, .bool true)]) (by first | (rw [hb296]; done) | (rw [hb296]; rfl)) ?_
                  refine GL.run (j := 5) 3 [3, 4, 11, 13, 17, 18, 19, 132] [(3, .int .i64 (k : Int)), (4, .slice A ms.length c), (11, pt d13 0), (13, pt p28 0), (17, .bool true), (18, pt p107 0), (19, .int .i64 (i : Int)), (132, .bool (decide (6 ≤ (i : Int))))] (by kernel_rfl) rfl ?_
                  refine GL.k rfl hK295 (fun _ _ h => h) ?_
                  have hb299 : (decide (6 ≤ (i : Int))) = false := decide_eq_false (by have h_ := (wt2 (r2 := r_) (hWT_ hb296) htk (by omega)).2; omega)
                  rw [hb299]
                  refine G.no rfl ?_
                  refine G.skipK hK123 (fun _ _ h => h) ?_
                  refine G.region ?_
                  refine GL.run (j := 3) 3 [3, 4, 11, 13, 17, 18, 19] [(3, .int .i64 (k : Int)), (4, .slice A ms.length c), (11, pt d13 0), (13, pt p28 0), (17, .bool true), (18, pt p107 0), (19, .int .i64 (IntKind.i64.wrap ((i : Int) + 1)))] (by kernel_rfl) rfl ?_
                  have e300 : (IntKind.i64.wrap ((i : Int) + 1)) = ((i + 1 : Nat) : Int) := by rw [in_i64 (by omega)]; omega
                  refine GL.eq (M' := [(3, .int .i64 (k : Int)), (4, .slice A ms.length c), (11, pt d13 0), (13, pt p28 0), (17, .bool true), (18, pt p107 0), (19, .int .i64 ((i + 1 : Nat) : Int))]) (by rw [e300]) ?_
                  clear e300
                  refine GL.fit (ts := [3, 4, 11, 13, 17, 18, 19]) (M' := [(3, .int .i64 (k : Int)), (4, .slice A ms.length c), (11, pt d13 0), (13, pt p28 0), (17, .bool true), (18, pt p107 0), (19, .int .i64 ((i + 1 : Nat) : Int))]) (by kernel_rfl) ?_
                  refine GL.eq (M' := [(3, .int .i64 (k : Int)), (4, .slice A ms.length c), (11, pt d13 0), (13, pt p28 0), (17, .bool true), (18, pt p107 0), (19, .int .i64 (((i + 1) : Nat) : Int))]) (by rfl) ?_
                  exact GL.again ⟨(i + 1), true, a0_.pass, a1_.pass, (a2_.took r_), G_, p0_, p1_, p2_, t0, t1, (t2 + 1)⟩ [3, 4, 11, 13, 17, 18, 19] rfl (by kernel_rfl) (by show (p0_ - t0) + (p1_ - t1) + (p2_ - (t2 + 1)) + (ms.length - (i + 1)) < (p0 - t0) + (p1 - t1) + (p2 - t2) + (ms.length - i); omega) ⟨⟨⟨hM0.pass, hM1.pass, hLQn⟩, ⟨(Lane.z.pass hz0_ (by omega)), (Lane.z.pass hz1_ (by omega)), (Lane.z.took _ _)⟩, ⟨hok0_, hok1_, (LnOk.took hok2_ hlk).1⟩, ⟨(by have h_ := pass_le a0_; omega), (by have h_ := pass_le a1_; omega), Nat.zero_le _⟩, ⟨by omega, by omega⟩, fun _ => (wt2 (r2 := r_) (hWT_ hb296) htk (by omega)).1⟩, H288⟩
              · skip
                have hb293f := eq_of_beq hb293
                refine G.yes rfl ?_
                refine G.region ?_
                refine GL.run (j := 1) 1 [3, 4, 11, 13, 17, 18, 19] [(3, .int .i64 (k : Int)), (4, .slice A ms.length c), (11, pt d13 0), (13, pt p28 0), (17, .bool false), (18, pt p107 0), (19, .int .i64 (i : Int))] (by kernel_rfl) rfl ?_
                refine GL.k rfl hK290 (fun _ _ h => h) ?_
                refine G.seqK fun K302 hK303 => ?_
                refine G.region ?_
                refine GL.run (j := 5) 5 [3, 4, 11, 13, 17, 18, 19, 132] [(3, .int .i64 (k : Int)), (4, .slice A ms.length c), (11, pt d13 0), (13, pt p28 0), (17, .bool false), (18, pt p107 0), (19, .int .i64 (i : Int)), (132, .bool false)] (by kernel_rfl) rfl ?_
                refine GL.k rfl hK303 (fun _ _ h => h) ?_
                refine G.no rfl ?_
                refine G.skipK hK123 (fun _ _ h => h) ?_
                refine G.region ?_
                refine GL.run (j := 3) 3 [3, 4, 11, 13, 17, 18, 19] [(3, .int .i64 (k : Int)), (4, .slice A ms.length c), (11, pt d13 0), (13, pt p28 0), (17, .bool false), (18, pt p107 0), (19, .int .i64 (IntKind.i64.wrap ((i : Int) + 1)))] (by kernel_rfl) rfl ?_
                have e304 : (IntKind.i64.wrap ((i : Int) + 1)) = ((i + 1 : Nat) : Int) := by rw [in_i64 (by omega)]; omega
                refine GL.eq (M' := [(3, .int .i64 (k : Int)), (4, .slice A ms.length c), (11, pt d13 0), (13, pt p28 0), (17, .bool false), (18, pt p107 0), (19, .int .i64 ((i + 1 : Nat) : Int))]) (by rw [e304]) ?_
                clear e304
                refine GL.fit (ts := [3, 4, 11, 13, 17, 18, 19]) (M' := [(3, .int .i64 (k : Int)), (4, .slice A ms.length c), (11, pt d13 0), (13, pt p28 0), (17, .bool false), (18, pt p107 0), (19, .int .i64 ((i + 1 : Nat) : Int))]) (by kernel_rfl) ?_
                refine GL.eq (M' := [(3, .int .i64 (k : Int)), (4, .slice A ms.length c), (11, pt d13 0), (13, pt p28 0), (17, .bool false), (18, pt p107 0), (19, .int .i64 (((i + 1) : Nat) : Int))]) (by rfl) ?_
                exact GL.again ⟨(i + 1), false, a0_.pass, a1_.pass, (a2_.took r_), G_, p0_, p1_, p2_, t0, t1, (t2 + 1)⟩ [3, 4, 11, 13, 17, 18, 19] rfl (by kernel_rfl) (by show (p0_ - t0) + (p1_ - t1) + (p2_ - (t2 + 1)) + (ms.length - (i + 1)) < (p0 - t0) + (p1 - t1) + (p2 - t2) + (ms.length - i); omega) ⟨⟨⟨hM0.pass, hM1.pass, hLQn⟩, ⟨(Lane.z.pass hz0_ (by omega)), (Lane.z.pass hz1_ (by omega)), (Lane.z.took _ _)⟩, ⟨hok0_, hok1_, (LnOk.took hok2_ hlk).1⟩, ⟨(by have h_ := pass_le a0_; omega), (by have h_ := pass_le a1_; omega), Nat.zero_le _⟩, ⟨by omega, by omega⟩, fun h_ => by cases h_⟩, H288⟩
            · skip
              have he0 := hM0.none ((tk_len htk).2.2.2 rfl).1
              have he1 := hM1.none ((tk_len htk).2.2.2 rfl).2.1
              have he2 := hM2.none ((tk_len htk).2.2.2 rfl).2.2
              refine GL.run (j := 1) 1 [3, 4, 11, 13, 17, 18, 19, 100] [(3, .int .i64 (k : Int)), (4, .slice A ms.length c), (11, pt d13 0), (13, pt p28 0), (17, .bool wt), (18, pt p107 0), (19, .int .i64 (i : Int)), (100, pt d13 0)] (by kernel_rfl) rfl ?_
              refine GL.call (j := 2) (TakeNone_calls (ids [.blk d13 [.chan (some a0_.ch), .chan (some a1_.ch), .chan (some a2_.ch), .int .i64 (a0_.p : Int), .int .i64 (a1_.p : Int), .int .i64 (a2_.p : Int), .bool false] 52, .obj a0_.ch (chO 256 a0_.l false a0_.s a0_.r), .obj a1_.ch (chO 256 a1_.l false a1_.s a1_.r), .obj a2_.ch (chO 256 a2_.l false a2_.s a2_.r), .bag G_]) d13 256 false a0_ a1_ a2_ G_ w187 (Hp.startL (A := [.blk d13 [.chan (some a0_.ch), .chan (some a1_.ch), .chan (some a2_.ch), .int .i64 (a0_.p : Int), .int .i64 (a1_.p : Int), .int .i64 (a2_.p : Int), .bool false] 52, .obj a0_.ch (chO 256 a0_.l false a0_.s a0_.r), .obj a1_.ch (chO 256 a1_.l false a1_.s a1_.r), .obj a2_.ch (chO 256 a2_.l false a2_.s a2_.r), .bag G_]) (B := [.blk p28 [.int .i64 (p0_ : Int), .int .i64 (p1_ : Int), .int .i64 (p2_ : Int)] 28, .blk p107 [.int .i64 (t0 : Int), .int .i64 (t1 : Int), .int .i64 (t2 : Int)] 28]) H189) hz0_ hz1_ hz2_ htk) (by kernel_rfl) rfl (fun e_ w306 hR => ?_)
              obtain ⟨rfl, H308⟩ := hR
              have H307 : Hp w [] [.blk d13 [.chan (some a0_.ch), .chan (some a1_.ch), .chan (some a2_.ch), .int .i64 (a0_.p : Int), .int .i64 (a1_.p : Int), .int .i64 (a2_.p : Int), .bool false] 52, .obj a0_.ch (chO 256 a0_.l false a0_.s a0_.r), .obj a1_.ch (chO 256 a1_.l false a1_.s a1_.r), .obj a2_.ch (chO 256 a2_.l false a2_.s a2_.r), .bag G_, .blk p28 [.int .i64 (p0_ : Int), .int .i64 (p1_ : Int), .int .i64 (p2_ : Int)] 28, .blk p107 [.int .i64 (t0 : Int), .int .i64 (t1 : Int), .int .i64 (t2 : Int)] 28] w306 := Hp.callL (A := [.blk d13 [.chan (some a0_.ch), .chan (some a1_.ch), .chan (some a2_.ch), .int .i64 (a0_.p : Int), .int .i64 (a1_.p : Int), .int .i64 (a2_.p : Int), .bool false] 52, .obj a0_.ch (chO 256 a0_.l false a0_.s a0_.r), .obj a1_.ch (chO 256 a1_.l false a1_.s a1_.r), .obj a2_.ch (chO 256 a2_.l false a2_.s a2_.r), .bag G_]) (B := [.blk p28 [.int .i64 (p0_ : Int), .int .i64 (p1_ : Int), .int .i64 (p2_ : Int)] 28, .blk p107 [.int .i64 (t0 : Int), .int .i64 (t1 : Int), .int .i64 (t2 : Int)] 28]) H189 H308
              refine ⟨_, rfl, [3, 4, 11, 13, 17, 18, 19, 101], [(3, .int .i64 (k : Int)), (4, .slice A ms.length c), (11, pt d13 0), (13, pt p28 0), (17, .bool wt), (18, pt p107 0), (19, .int .i64 (i : Int)), (101, .tuple #[.slice none 0 0, .int .i64 0, .bool false])], by kernel_rfl, ?_⟩
              refine GL.run (j := 9) 7 [3, 4, 11, 13, 17, 18, 19, 21, 22, 23] [(3, .int .i64 (k : Int)), (4, .slice A ms.length c), (11, pt d13 0), (13, pt p28 0), (17, .bool wt), (18, pt p107 0), (19, .int .i64 (i : Int)), (21, .slice none 0 0), (22, .int .i64 0), (23, .bool false)] (by kernel_rfl) rfl ?_
              refine GL.k rfl hK191 (fun _ _ h => h) ?_
              refine G.seqK fun K309 hK310 => ?_
              refine G.seqK fun K311 hK312 => ?_
              refine G.region ?_
              refine GL.run (j := 2) 2 [3, 4, 11, 13, 17, 18, 19, 21, 22, 106] [(3, .int .i64 (k : Int)), (4, .slice A ms.length c), (11, pt d13 0), (13, pt p28 0), (17, .bool wt), (18, pt p107 0), (19, .int .i64 (i : Int)), (21, .slice none 0 0), (22, .int .i64 0), (106, .bool true)] (by kernel_rfl) rfl ?_
              refine GL.k rfl hK312 (fun _ _ h => h) ?_
              refine G.yes rfl ?_
              refine G.exitK hK115 (fun _ _ h => h) ?_
              refine G.seqK fun K313 hK314 => ?_
              refine G.region ?_
              refine GL.sem (j := 1) (H307.ldA (o := 0) (ty := 28) (m := 3) (sub := [.int .i64 (t0 : Int), .int .i64 (t1 : Int), .int .i64 (t2 : Int)]) 6 rfl (by kernel_rfl) rfl rfl) [13, 133] [(13, pt p28 0), (133, .agg #[.int .i64 (t0 : Int), .int .i64 (t1 : Int), .int .i64 (t2 : Int)])] (by kernel_rfl) (by kernel_rfl) rfl ?_
              refine GL.sem (j := 2) (H307.ldA (o := 0) (ty := 28) (m := 3) (sub := [.int .i64 (p0_ : Int), .int .i64 (p1_ : Int), .int .i64 (p2_ : Int)]) 5 rfl (by kernel_rfl) rfl rfl) [133, 134] [(133, .agg #[.int .i64 (t0 : Int), .int .i64 (t1 : Int), .int .i64 (t2 : Int)]), (134, .agg #[.int .i64 (p0_ : Int), .int .i64 (p1_ : Int), .int .i64 (p2_ : Int)])] (by kernel_rfl) (by kernel_rfl) rfl ?_
              refine GL.sem (j := 3) (run_arr_eql (P := Try.prog) (t := 28) (n := 3) (k := .i64) (x := (.tmp 133)) (y := (.tmp 134)) (by kernel_rfl) [(t0 : Int), (t1 : Int), (t2 : Int)] [(p0_ : Int), (p1_ : Int), (p2_ : Int)] rfl rfl _) [135] [(135, .bool (decide (([(t0 : Int), (t1 : Int), (t2 : Int)] : List Int) = [(p0_ : Int), (p1_ : Int), (p2_ : Int)])))] (by kernel_rfl) (by kernel_rfl) rfl ?_
              refine GL.run (j := 4) 1 [10] [(10, .bool (decide (([(t0 : Int), (t1 : Int), (t2 : Int)] : List Int) = [(p0_ : Int), (p1_ : Int), (p2_ : Int)])))] (by kernel_rfl) rfl ?_
              refine GL.k rfl hK314 (fun _ _ h => h) ?_
              refine G.ret ?_
              intro F_ hF_ hM_
              refine hRet _ _ (bodyPost_1 rfl (RV.tmp rfl) ?_ F_ hF_ hM_)
              have hb315 : (decide (([(t0 : Int), (t1 : Int), (t2 : Int)] : List Int) = [(p0_ : Int), (p1_ : Int), (p2_ : Int)])) = true := decide_eq_true (by rw [he0, he1, he2])
              rw [hb315]
              exact ⟨rfl, H307.sub (List.nil_sublist _)⟩
        · skip
          have hb93f := of_decide_eq_true hb93
          refine G.yes rfl ?_
          refine G.skipK hK92 (fun _ _ h => h) ?_
          refine G.seqK fun K316 hK317 => ?_
          refine G.block ?_
          refine G.seqK fun K318 hK319 => ?_
          refine G.region ?_
          refine GL.run (j := 2) 2 [3, 4, 11, 13, 14, 16, 46, 47, 51, 52] [(3, .int .i64 z_), (4, .slice A ms.length c), (11, pt d13 0), (13, pt p28 0), (14, .int .i64 2), (16, .int .i64 (i2 : Int)), (46, .agg #[.int .i64 (n0 : Int), .int .i64 (n1 : Int), .int .i64 (n2 : Int)]), (47, .int .i64 2), (51, .int .i64 (n2 : Int)), (52, .int .i64 (i2 : Int))] (by kernel_rfl) rfl ?_
          refine GL.k rfl hK319 (fun _ _ h => h) ?_
          refine G.seqK fun K320 hK321 => ?_
          refine G.region ?_
          refine GL.run (j := 4) 4 [3, 4, 11, 13, 14, 46, 47, 51, 52, 55, 56, 58] [(3, .int .i64 z_), (4, .slice A ms.length c), (11, pt d13 0), (13, pt p28 0), (14, .int .i64 2), (46, .agg #[.int .i64 (n0 : Int), .int .i64 (n1 : Int), .int .i64 (n2 : Int)]), (47, .int .i64 2), (51, .int .i64 (n2 : Int)), (52, .int .i64 (i2 : Int)), (55, pt d13 0), (56, .int .i64 2), (58, .int .u8 (IntKind.u8.wrap (i2 : Int)))] (by kernel_rfl) rfl ?_
          have e322 : (IntKind.u8.wrap (i2 : Int)) = ((UInt8.ofNat i2).toNat : Int) := n_byte _
          refine GL.eq (M' := [(3, .int .i64 z_), (4, .slice A ms.length c), (11, pt d13 0), (13, pt p28 0), (14, .int .i64 2), (46, .agg #[.int .i64 (n0 : Int), .int .i64 (n1 : Int), .int .i64 (n2 : Int)]), (47, .int .i64 2), (51, .int .i64 (n2 : Int)), (52, .int .i64 (i2 : Int)), (55, pt d13 0), (56, .int .i64 2), (58, .int .u8 ((UInt8.ofNat i2).toNat : Int))]) (by rw [e322]) ?_
          clear e322
          obtain ⟨p323, w324, r325, H326⟩ := H88.made (P := Try.prog) (Instr.buildSlice 22 1 #[(0, .int .u8 ((UInt8.ofNat i2).toNat : Int))]) (fun b_ => .slice (some ⟨b_, 0, none⟩) 1 1) [.int .u8 ((UInt8.ofNat i2).toNat : Int)] 5 (by kernel_rfl)
          have H326 : Hp w [] [.blk p28 [.int .i64 (n0 : Int), .int .i64 (n1 : Int), .int .i64 (n2 : Int)] 28, .blk d13 [.chan (some b0.ch), .chan (some b1.ch), .chan (some b2.ch), .int .i64 (b0.p : Int), .int .i64 (b1.p : Int), .int .i64 (b2.p : Int), .bool false] 52, .obj b0.ch (chO 256 b0.l false b0.s b0.r), .obj b1.ch (chO 256 b1.l false b1.s b1.r), .obj b2.ch (chO 256 b2.l false b2.s b2.r), .bag G2, .blk p323 [.int .u8 ((UInt8.ofNat i2).toNat : Int)] 5] w324 := H326
          refine GL.sem (j := 5) (r325) [3, 4, 11, 13, 14, 46, 47, 51, 52, 55, 56, 59] [(3, .int .i64 z_), (4, .slice A ms.length c), (11, pt d13 0), (13, pt p28 0), (14, .int .i64 2), (46, .agg #[.int .i64 (n0 : Int), .int .i64 (n1 : Int), .int .i64 (n2 : Int)]), (47, .int .i64 2), (51, .int .i64 (n2 : Int)), (52, .int .i64 (i2 : Int)), (55, pt d13 0), (56, .int .i64 2), (59, .slice (some ⟨p323, 0, none⟩) 1 1)] (by kernel_rfl) (by kernel_rfl) rfl ?_
          have H329 := (Hp.reorder (L' := [.blk d13 [.chan (some b0.ch), .chan (some b1.ch), .chan (some b2.ch), .int .i64 (b0.p : Int), .int .i64 (b1.p : Int), .int .i64 (b2.p : Int), .bool false] 52, .obj b0.ch (chO 256 b0.l false b0.s b0.r), .obj b1.ch (chO 256 b1.l false b1.s b1.r), .obj b2.ch (chO 256 b2.l false b2.s b2.r), .bag G2, .blk p28 [.int .i64 (n0 : Int), .int .i64 (n1 : Int), .int .i64 (n2 : Int)] 28, .blk p323 [.int .u8 ((UInt8.ofNat i2).toNat : Int)] 5]) H326 (List.Perm.trans (List.Perm.swap _ _ _) (List.Perm.cons _ (List.Perm.trans (List.Perm.swap _ _ _) (List.Perm.cons _ (List.Perm.trans (List.Perm.swap _ _ _) (List.Perm.cons _ (List.Perm.trans (List.Perm.swap _ _ _) (List.Perm.cons _ (List.Perm.trans (List.Perm.swap _ _ _) (List.Perm.refl _)))))))))))
          refine GL.call (j := 6) (PutOk2_calls (ids [.blk d13 [.chan (some b0.ch), .chan (some b1.ch), .chan (some b2.ch), .int .i64 (b0.p : Int), .int .i64 (b1.p : Int), .int .i64 (b2.p : Int), .bool false] 52, .obj b0.ch (chO 256 b0.l false b0.s b0.r), .obj b1.ch (chO 256 b1.l false b1.s b1.r), .obj b2.ch (chO 256 b2.l false b2.s b2.r), .bag G2]) d13 256 b0 b1 b2 G2 (some ⟨p323, 0, none⟩) ([(UInt8.ofNat i2)] : List UInt8) 1 w324 (Hp.startL (A := [.blk d13 [.chan (some b0.ch), .chan (some b1.ch), .chan (some b2.ch), .int .i64 (b0.p : Int), .int .i64 (b1.p : Int), .int .i64 (b2.p : Int), .bool false] 52, .obj b0.ch (chO 256 b0.l false b0.s b0.r), .obj b1.ch (chO 256 b1.l false b1.s b1.r), .obj b2.ch (chO 256 b2.l false b2.s b2.r), .bag G2]) (B := [.blk p28 [.int .i64 (n0 : Int), .int .i64 (n1 : Int), .int .i64 (n2 : Int)] 28, .blk p323 [.int .u8 ((UInt8.ofNat i2).toNat : Int)] 5]) H329) (RdO.blk (A' := [.blk d13 [.chan (some b0.ch), .chan (some b1.ch), .chan (some b2.ch), .int .i64 (b0.p : Int), .int .i64 (b1.p : Int), .int .i64 (b2.p : Int), .bool false] 52, .obj b0.ch (chO 256 b0.l false b0.s b0.r), .obj b1.ch (chO 256 b1.l false b1.s b1.r), .obj b2.ch (chO 256 b2.l false b2.s b2.r), .bag G2]) (B' := [.blk p28 [.int .i64 (n0 : Int), .int .i64 (n1 : Int), .int .i64 (n2 : Int)] 28, .blk p323 [.int .u8 ((UInt8.ofNat i2).toNat : Int)] 5]) H329 1 1 rfl rfl) (by have h_ := hL2.len; omega) (by show (1 : Nat) ≤ 4096; decide)) (by kernel_rfl) rfl (fun e_ w330 hR => ?_)
          obtain ⟨A327, c328, rfl, H332⟩ := hR
          have H331 : Hp w [] [.blk d13 [.chan (some b0.ch), .chan (some b1.ch), .chan (some (b2.put (Msg.mk A327 ([(UInt8.ofNat i2)] : List UInt8) c328)).ch), .int .i64 (b0.p : Int), .int .i64 (b1.p : Int), .int .i64 (((b2.put (Msg.mk A327 ([(UInt8.ofNat i2)] : List UInt8) c328)).p : Nat) : Int), .bool false] 52, .obj b0.ch (chO 256 b0.l false b0.s b0.r), .obj b1.ch (chO 256 b1.l false b1.s b1.r), .obj (b2.put (Msg.mk A327 ([(UInt8.ofNat i2)] : List UInt8) c328)).ch (chO 256 (b2.put (Msg.mk A327 ([(UInt8.ofNat i2)] : List UInt8) c328)).l false (b2.put (Msg.mk A327 ([(UInt8.ofNat i2)] : List UInt8) c328)).s (b2.put (Msg.mk A327 ([(UInt8.ofNat i2)] : List UInt8) c328)).r), .bag ((A327, ([(UInt8.ofNat i2)] : List UInt8).length, c328, 5, by8 ([(UInt8.ofNat i2)] : List UInt8)) :: G2), .blk p28 [.int .i64 (n0 : Int), .int .i64 (n1 : Int), .int .i64 (n2 : Int)] 28, .blk p323 [.int .u8 ((UInt8.ofNat i2).toNat : Int)] 5] w330 := Hp.callL (A := [.blk d13 [.chan (some b0.ch), .chan (some b1.ch), .chan (some b2.ch), .int .i64 (b0.p : Int), .int .i64 (b1.p : Int), .int .i64 (b2.p : Int), .bool false] 52, .obj b0.ch (chO 256 b0.l false b0.s b0.r), .obj b1.ch (chO 256 b1.l false b1.s b1.r), .obj b2.ch (chO 256 b2.l false b2.s b2.r), .bag G2]) (B := [.blk p28 [.int .i64 (n0 : Int), .int .i64 (n1 : Int), .int .i64 (n2 : Int)] 28, .blk p323 [.int .u8 ((UInt8.ofNat i2).toNat : Int)] 5]) H329 H332
          refine ⟨_, rfl, [3, 4, 11, 13, 14, 46, 47, 51, 52, 60], [(3, .int .i64 z_), (4, .slice A ms.length c), (11, pt d13 0), (13, pt p28 0), (14, .int .i64 2), (46, .agg #[.int .i64 (n0 : Int), .int .i64 (n1 : Int), .int .i64 (n2 : Int)]), (47, .int .i64 2), (51, .int .i64 (n2 : Int)), (52, .int .i64 (i2 : Int)), (60, .int .i64 0)], by kernel_rfl, ?_⟩
          refine GL.run (j := 7) 1 [3, 4, 11, 13, 14, 46, 47, 51, 52, 61] [(3, .int .i64 z_), (4, .slice A ms.length c), (11, pt d13 0), (13, pt p28 0), (14, .int .i64 2), (46, .agg #[.int .i64 (n0 : Int), .int .i64 (n1 : Int), .int .i64 (n2 : Int)]), (47, .int .i64 2), (51, .int .i64 (n2 : Int)), (52, .int .i64 (i2 : Int)), (61, .bool false)] (by kernel_rfl) rfl ?_
          refine GL.k rfl hK321 (fun _ _ h => h) ?_
          refine G.no rfl ?_
          refine G.skipK hK317 (fun _ _ h => h) ?_
          refine G.region ?_
          refine GL.run (j := 2) 2 [3, 4, 11, 13, 14, 46, 47, 51, 52] [(3, .int .i64 z_), (4, .slice A ms.length c), (11, pt d13 0), (13, pt p28 0), (14, .int .i64 2), (46, .agg #[.int .i64 (n0 : Int), .int .i64 (n1 : Int), .int .i64 (n2 : Int)]), (47, .int .i64 2), (51, .int .i64 (n2 : Int)), (52, .int .i64 (IntKind.i64.wrap ((i2 : Int) + 1)))] (by kernel_rfl) rfl ?_
          have e333 : (IntKind.i64.wrap ((i2 : Int) + 1)) = ((i2 + 1 : Nat) : Int) := by rw [in_i64 (by omega)]; omega
          refine GL.eq (M' := [(3, .int .i64 z_), (4, .slice A ms.length c), (11, pt d13 0), (13, pt p28 0), (14, .int .i64 2), (46, .agg #[.int .i64 (n0 : Int), .int .i64 (n1 : Int), .int .i64 (n2 : Int)]), (47, .int .i64 2), (51, .int .i64 (n2 : Int)), (52, .int .i64 ((i2 + 1 : Nat) : Int))]) (by rw [e333]) ?_
          clear e333
          have H334 : Hp w [] [.blk d13 [.chan (some b0.ch), .chan (some b1.ch), .chan (some (b2.put (Msg.mk A327 ([(UInt8.ofNat i2)] : List UInt8) c328)).ch), .int .i64 (b0.p : Int), .int .i64 (b1.p : Int), .int .i64 (((b2.put (Msg.mk A327 ([(UInt8.ofNat i2)] : List UInt8) c328)).p : Nat) : Int), .bool false] 52, .obj b0.ch (chO 256 b0.l false b0.s b0.r), .obj b1.ch (chO 256 b1.l false b1.s b1.r), .obj (b2.put (Msg.mk A327 ([(UInt8.ofNat i2)] : List UInt8) c328)).ch (chO 256 (b2.put (Msg.mk A327 ([(UInt8.ofNat i2)] : List UInt8) c328)).l false (b2.put (Msg.mk A327 ([(UInt8.ofNat i2)] : List UInt8) c328)).s (b2.put (Msg.mk A327 ([(UInt8.ofNat i2)] : List UInt8) c328)).r), .bag ((A327, ([(UInt8.ofNat i2)] : List UInt8).length, c328, 5, by8 ([(UInt8.ofNat i2)] : List UInt8)) :: G2), .blk p28 [.int .i64 (n0 : Int), .int .i64 (n1 : Int), .int .i64 (n2 : Int)] 28] w330 := H331.sub (List.Sublist.cons_cons _ (List.Sublist.cons_cons _ (List.Sublist.cons_cons _ (List.Sublist.cons_cons _ (List.Sublist.cons_cons _ (List.Sublist.cons_cons _ (List.Sublist.cons _ (List.Sublist.slnil))))))))
          have H335 := (Hp.reorder (L' := [.blk p28 [.int .i64 (n0 : Int), .int .i64 (n1 : Int), .int .i64 (n2 : Int)] 28, .blk d13 [.chan (some b0.ch), .chan (some b1.ch), .chan (some (b2.put (Msg.mk A327 ([(UInt8.ofNat i2)] : List UInt8) c328)).ch), .int .i64 (b0.p : Int), .int .i64 (b1.p : Int), .int .i64 (((b2.put (Msg.mk A327 ([(UInt8.ofNat i2)] : List UInt8) c328)).p : Nat) : Int), .bool false] 52, .obj b0.ch (chO 256 b0.l false b0.s b0.r), .obj b1.ch (chO 256 b1.l false b1.s b1.r), .obj (b2.put (Msg.mk A327 ([(UInt8.ofNat i2)] : List UInt8) c328)).ch (chO 256 (b2.put (Msg.mk A327 ([(UInt8.ofNat i2)] : List UInt8) c328)).l false (b2.put (Msg.mk A327 ([(UInt8.ofNat i2)] : List UInt8) c328)).s (b2.put (Msg.mk A327 ([(UInt8.ofNat i2)] : List UInt8) c328)).r), .bag ((A327, ([(UInt8.ofNat i2)] : List UInt8).length, c328, 5, by8 ([(UInt8.ofNat i2)] : List UInt8)) :: G2)]) H334 (List.Perm.trans (List.Perm.cons _ (List.Perm.cons _ (List.Perm.cons _ (List.Perm.cons _ (List.Perm.swap _ _ _))))) (List.Perm.trans (List.Perm.cons _ (List.Perm.cons _ (List.Perm.cons _ (List.Perm.swap _ _ _)))) (List.Perm.trans (List.Perm.cons _ (List.Perm.cons _ (List.Perm.swap _ _ _))) (List.Perm.trans (List.Perm.cons _ (List.Perm.swap _ _ _)) (List.Perm.trans (List.Perm.swap _ _ _) (List.Perm.refl _)))))))
          refine GL.fit (ts := [3, 4, 11, 13, 14, 46, 47, 51, 52]) (M' := [(3, .int .i64 z_), (4, .slice A ms.length c), (11, pt d13 0), (13, pt p28 0), (14, .int .i64 2), (46, .agg #[.int .i64 (n0 : Int), .int .i64 (n1 : Int), .int .i64 (n2 : Int)]), (47, .int .i64 2), (51, .int .i64 (n2 : Int)), (52, .int .i64 ((i2 + 1 : Nat) : Int))]) (by kernel_rfl) ?_
          refine GL.eq (M' := [(3, .int .i64 z_), (4, .slice A ms.length c), (11, pt d13 0), (13, pt p28 0), (14, .int .i64 2), (46, .agg #[.int .i64 (n0 : Int), .int .i64 (n1 : Int), .int .i64 (n2 : Int)]), (47, .int .i64 2), (51, .int .i64 (n2 : Int)), (52, .int .i64 (((i2 + 1) : Nat) : Int))]) (by rfl) ?_
          exact GL.again ⟨(i2 + 1), (b2.put (Msg.mk A327 ([(UInt8.ofNat i2)] : List UInt8) c328)), ((A327, ([(UInt8.ofNat i2)] : List UInt8).length, c328, 5, by8 ([(UInt8.ofNat i2)] : List UInt8)) :: G2)⟩ [3, 4, 11, 13, 14, 46, 47, 51, 52] rfl (by kernel_rfl) (by show n2 - (i2 + 1) < n2 - i2; omega) ⟨⟨⟨by omega, LQ.put hL2 rfl⟩, (Lane.z.put hz2 (Msg.mk A327 ([(UInt8.ofNat i2)] : List UInt8) c328)), hp2, (LnOk.more hok2_0 _), (LnOk.more hok2_1 _), (LnOk.put hok2_2 (Msg.mk A327 ([(UInt8.ofNat i2)] : List UInt8) c328))⟩, H335⟩
      · skip
        have hb75f := of_decide_eq_true hb75
        refine G.yes rfl ?_
        refine G.skipK hK74 (fun _ _ h => h) ?_
        refine G.seqK fun K336 hK337 => ?_
        refine G.block ?_
        refine G.seqK fun K338 hK339 => ?_
        refine G.region ?_
        refine GL.run (j := 2) 2 [3, 4, 11, 13, 14, 16, 46, 47, 51, 52] [(3, .int .i64 z_), (4, .slice A ms.length c), (11, pt d13 0), (13, pt p28 0), (14, .int .i64 1), (16, .int .i64 (i1 : Int)), (46, .agg #[.int .i64 (n0 : Int), .int .i64 (n1 : Int), .int .i64 (n2 : Int)]), (47, .int .i64 1), (51, .int .i64 (n1 : Int)), (52, .int .i64 (i1 : Int))] (by kernel_rfl) rfl ?_
        refine GL.k rfl hK339 (fun _ _ h => h) ?_
        refine G.seqK fun K340 hK341 => ?_
        refine G.region ?_
        refine GL.run (j := 4) 4 [3, 4, 11, 13, 14, 46, 47, 51, 52, 55, 56, 58] [(3, .int .i64 z_), (4, .slice A ms.length c), (11, pt d13 0), (13, pt p28 0), (14, .int .i64 1), (46, .agg #[.int .i64 (n0 : Int), .int .i64 (n1 : Int), .int .i64 (n2 : Int)]), (47, .int .i64 1), (51, .int .i64 (n1 : Int)), (52, .int .i64 (i1 : Int)), (55, pt d13 0), (56, .int .i64 1), (58, .int .u8 (IntKind.u8.wrap (i1 : Int)))] (by kernel_rfl) rfl ?_
        have e342 : (IntKind.u8.wrap (i1 : Int)) = ((UInt8.ofNat i1).toNat : Int) := n_byte _
        refine GL.eq (M' := [(3, .int .i64 z_), (4, .slice A ms.length c), (11, pt d13 0), (13, pt p28 0), (14, .int .i64 1), (46, .agg #[.int .i64 (n0 : Int), .int .i64 (n1 : Int), .int .i64 (n2 : Int)]), (47, .int .i64 1), (51, .int .i64 (n1 : Int)), (52, .int .i64 (i1 : Int)), (55, pt d13 0), (56, .int .i64 1), (58, .int .u8 ((UInt8.ofNat i1).toNat : Int))]) (by rw [e342]) ?_
        clear e342
        obtain ⟨p343, w344, r345, H346⟩ := H70.made (P := Try.prog) (Instr.buildSlice 22 1 #[(0, .int .u8 ((UInt8.ofNat i1).toNat : Int))]) (fun b_ => .slice (some ⟨b_, 0, none⟩) 1 1) [.int .u8 ((UInt8.ofNat i1).toNat : Int)] 5 (by kernel_rfl)
        have H346 : Hp w [] [.blk p28 [.int .i64 (n0 : Int), .int .i64 (n1 : Int), .int .i64 (n2 : Int)] 28, .blk d13 [.chan (some b0.ch), .chan (some b1.ch), .chan (some (Lane.new c16).ch), .int .i64 (b0.p : Int), .int .i64 (b1.p : Int), .int .i64 (((Lane.new c16).p : Nat) : Int), .bool false] 52, .obj b0.ch (chO 256 b0.l false b0.s b0.r), .obj b1.ch (chO 256 b1.l false b1.s b1.r), .obj (Lane.new c16).ch (chO 256 (Lane.new c16).l false (Lane.new c16).s (Lane.new c16).r), .bag G1, .blk p343 [.int .u8 ((UInt8.ofNat i1).toNat : Int)] 5] w344 := H346
        refine GL.sem (j := 5) (r345) [3, 4, 11, 13, 14, 46, 47, 51, 52, 55, 56, 59] [(3, .int .i64 z_), (4, .slice A ms.length c), (11, pt d13 0), (13, pt p28 0), (14, .int .i64 1), (46, .agg #[.int .i64 (n0 : Int), .int .i64 (n1 : Int), .int .i64 (n2 : Int)]), (47, .int .i64 1), (51, .int .i64 (n1 : Int)), (52, .int .i64 (i1 : Int)), (55, pt d13 0), (56, .int .i64 1), (59, .slice (some ⟨p343, 0, none⟩) 1 1)] (by kernel_rfl) (by kernel_rfl) rfl ?_
        have H349 := (Hp.reorder (L' := [.blk d13 [.chan (some b0.ch), .chan (some b1.ch), .chan (some (Lane.new c16).ch), .int .i64 (b0.p : Int), .int .i64 (b1.p : Int), .int .i64 (((Lane.new c16).p : Nat) : Int), .bool false] 52, .obj b0.ch (chO 256 b0.l false b0.s b0.r), .obj b1.ch (chO 256 b1.l false b1.s b1.r), .obj (Lane.new c16).ch (chO 256 (Lane.new c16).l false (Lane.new c16).s (Lane.new c16).r), .bag G1, .blk p28 [.int .i64 (n0 : Int), .int .i64 (n1 : Int), .int .i64 (n2 : Int)] 28, .blk p343 [.int .u8 ((UInt8.ofNat i1).toNat : Int)] 5]) H346 (List.Perm.trans (List.Perm.swap _ _ _) (List.Perm.cons _ (List.Perm.trans (List.Perm.swap _ _ _) (List.Perm.cons _ (List.Perm.trans (List.Perm.swap _ _ _) (List.Perm.cons _ (List.Perm.trans (List.Perm.swap _ _ _) (List.Perm.cons _ (List.Perm.trans (List.Perm.swap _ _ _) (List.Perm.refl _)))))))))))
        refine GL.call (j := 6) (PutOk1_calls (ids [.blk d13 [.chan (some b0.ch), .chan (some b1.ch), .chan (some (Lane.new c16).ch), .int .i64 (b0.p : Int), .int .i64 (b1.p : Int), .int .i64 (((Lane.new c16).p : Nat) : Int), .bool false] 52, .obj b0.ch (chO 256 b0.l false b0.s b0.r), .obj b1.ch (chO 256 b1.l false b1.s b1.r), .obj (Lane.new c16).ch (chO 256 (Lane.new c16).l false (Lane.new c16).s (Lane.new c16).r), .bag G1]) d13 256 b0 b1 (Lane.new c16) G1 (some ⟨p343, 0, none⟩) ([(UInt8.ofNat i1)] : List UInt8) 1 w344 (Hp.startL (A := [.blk d13 [.chan (some b0.ch), .chan (some b1.ch), .chan (some (Lane.new c16).ch), .int .i64 (b0.p : Int), .int .i64 (b1.p : Int), .int .i64 (((Lane.new c16).p : Nat) : Int), .bool false] 52, .obj b0.ch (chO 256 b0.l false b0.s b0.r), .obj b1.ch (chO 256 b1.l false b1.s b1.r), .obj (Lane.new c16).ch (chO 256 (Lane.new c16).l false (Lane.new c16).s (Lane.new c16).r), .bag G1]) (B := [.blk p28 [.int .i64 (n0 : Int), .int .i64 (n1 : Int), .int .i64 (n2 : Int)] 28, .blk p343 [.int .u8 ((UInt8.ofNat i1).toNat : Int)] 5]) H349) (RdO.blk (A' := [.blk d13 [.chan (some b0.ch), .chan (some b1.ch), .chan (some (Lane.new c16).ch), .int .i64 (b0.p : Int), .int .i64 (b1.p : Int), .int .i64 (((Lane.new c16).p : Nat) : Int), .bool false] 52, .obj b0.ch (chO 256 b0.l false b0.s b0.r), .obj b1.ch (chO 256 b1.l false b1.s b1.r), .obj (Lane.new c16).ch (chO 256 (Lane.new c16).l false (Lane.new c16).s (Lane.new c16).r), .bag G1]) (B' := [.blk p28 [.int .i64 (n0 : Int), .int .i64 (n1 : Int), .int .i64 (n2 : Int)] 28, .blk p343 [.int .u8 ((UInt8.ofNat i1).toNat : Int)] 5]) H349 1 1 rfl rfl) (by have h_ := hL1.len; omega) (by show (1 : Nat) ≤ 4096; decide)) (by kernel_rfl) rfl (fun e_ w350 hR => ?_)
        obtain ⟨A347, c348, rfl, H352⟩ := hR
        have H351 : Hp w [] [.blk d13 [.chan (some b0.ch), .chan (some (b1.put (Msg.mk A347 ([(UInt8.ofNat i1)] : List UInt8) c348)).ch), .chan (some (Lane.new c16).ch), .int .i64 (b0.p : Int), .int .i64 (((b1.put (Msg.mk A347 ([(UInt8.ofNat i1)] : List UInt8) c348)).p : Nat) : Int), .int .i64 (((Lane.new c16).p : Nat) : Int), .bool false] 52, .obj b0.ch (chO 256 b0.l false b0.s b0.r), .obj (b1.put (Msg.mk A347 ([(UInt8.ofNat i1)] : List UInt8) c348)).ch (chO 256 (b1.put (Msg.mk A347 ([(UInt8.ofNat i1)] : List UInt8) c348)).l false (b1.put (Msg.mk A347 ([(UInt8.ofNat i1)] : List UInt8) c348)).s (b1.put (Msg.mk A347 ([(UInt8.ofNat i1)] : List UInt8) c348)).r), .obj (Lane.new c16).ch (chO 256 (Lane.new c16).l false (Lane.new c16).s (Lane.new c16).r), .bag ((A347, ([(UInt8.ofNat i1)] : List UInt8).length, c348, 5, by8 ([(UInt8.ofNat i1)] : List UInt8)) :: G1), .blk p28 [.int .i64 (n0 : Int), .int .i64 (n1 : Int), .int .i64 (n2 : Int)] 28, .blk p343 [.int .u8 ((UInt8.ofNat i1).toNat : Int)] 5] w350 := Hp.callL (A := [.blk d13 [.chan (some b0.ch), .chan (some b1.ch), .chan (some (Lane.new c16).ch), .int .i64 (b0.p : Int), .int .i64 (b1.p : Int), .int .i64 (((Lane.new c16).p : Nat) : Int), .bool false] 52, .obj b0.ch (chO 256 b0.l false b0.s b0.r), .obj b1.ch (chO 256 b1.l false b1.s b1.r), .obj (Lane.new c16).ch (chO 256 (Lane.new c16).l false (Lane.new c16).s (Lane.new c16).r), .bag G1]) (B := [.blk p28 [.int .i64 (n0 : Int), .int .i64 (n1 : Int), .int .i64 (n2 : Int)] 28, .blk p343 [.int .u8 ((UInt8.ofNat i1).toNat : Int)] 5]) H349 H352
        refine ⟨_, rfl, [3, 4, 11, 13, 14, 46, 47, 51, 52, 60], [(3, .int .i64 z_), (4, .slice A ms.length c), (11, pt d13 0), (13, pt p28 0), (14, .int .i64 1), (46, .agg #[.int .i64 (n0 : Int), .int .i64 (n1 : Int), .int .i64 (n2 : Int)]), (47, .int .i64 1), (51, .int .i64 (n1 : Int)), (52, .int .i64 (i1 : Int)), (60, .int .i64 0)], by kernel_rfl, ?_⟩
        refine GL.run (j := 7) 1 [3, 4, 11, 13, 14, 46, 47, 51, 52, 61] [(3, .int .i64 z_), (4, .slice A ms.length c), (11, pt d13 0), (13, pt p28 0), (14, .int .i64 1), (46, .agg #[.int .i64 (n0 : Int), .int .i64 (n1 : Int), .int .i64 (n2 : Int)]), (47, .int .i64 1), (51, .int .i64 (n1 : Int)), (52, .int .i64 (i1 : Int)), (61, .bool false)] (by kernel_rfl) rfl ?_
        refine GL.k rfl hK341 (fun _ _ h => h) ?_
        refine G.no rfl ?_
        refine G.skipK hK337 (fun _ _ h => h) ?_
        refine G.region ?_
        refine GL.run (j := 2) 2 [3, 4, 11, 13, 14, 46, 47, 51, 52] [(3, .int .i64 z_), (4, .slice A ms.length c), (11, pt d13 0), (13, pt p28 0), (14, .int .i64 1), (46, .agg #[.int .i64 (n0 : Int), .int .i64 (n1 : Int), .int .i64 (n2 : Int)]), (47, .int .i64 1), (51, .int .i64 (n1 : Int)), (52, .int .i64 (IntKind.i64.wrap ((i1 : Int) + 1)))] (by kernel_rfl) rfl ?_
        have e353 : (IntKind.i64.wrap ((i1 : Int) + 1)) = ((i1 + 1 : Nat) : Int) := by rw [in_i64 (by omega)]; omega
        refine GL.eq (M' := [(3, .int .i64 z_), (4, .slice A ms.length c), (11, pt d13 0), (13, pt p28 0), (14, .int .i64 1), (46, .agg #[.int .i64 (n0 : Int), .int .i64 (n1 : Int), .int .i64 (n2 : Int)]), (47, .int .i64 1), (51, .int .i64 (n1 : Int)), (52, .int .i64 ((i1 + 1 : Nat) : Int))]) (by rw [e353]) ?_
        clear e353
        have H354 : Hp w [] [.blk d13 [.chan (some b0.ch), .chan (some (b1.put (Msg.mk A347 ([(UInt8.ofNat i1)] : List UInt8) c348)).ch), .chan (some (Lane.new c16).ch), .int .i64 (b0.p : Int), .int .i64 (((b1.put (Msg.mk A347 ([(UInt8.ofNat i1)] : List UInt8) c348)).p : Nat) : Int), .int .i64 (((Lane.new c16).p : Nat) : Int), .bool false] 52, .obj b0.ch (chO 256 b0.l false b0.s b0.r), .obj (b1.put (Msg.mk A347 ([(UInt8.ofNat i1)] : List UInt8) c348)).ch (chO 256 (b1.put (Msg.mk A347 ([(UInt8.ofNat i1)] : List UInt8) c348)).l false (b1.put (Msg.mk A347 ([(UInt8.ofNat i1)] : List UInt8) c348)).s (b1.put (Msg.mk A347 ([(UInt8.ofNat i1)] : List UInt8) c348)).r), .obj (Lane.new c16).ch (chO 256 (Lane.new c16).l false (Lane.new c16).s (Lane.new c16).r), .bag ((A347, ([(UInt8.ofNat i1)] : List UInt8).length, c348, 5, by8 ([(UInt8.ofNat i1)] : List UInt8)) :: G1), .blk p28 [.int .i64 (n0 : Int), .int .i64 (n1 : Int), .int .i64 (n2 : Int)] 28] w350 := H351.sub (List.Sublist.cons_cons _ (List.Sublist.cons_cons _ (List.Sublist.cons_cons _ (List.Sublist.cons_cons _ (List.Sublist.cons_cons _ (List.Sublist.cons_cons _ (List.Sublist.cons _ (List.Sublist.slnil))))))))
        have H355 := (Hp.reorder (L' := [.blk p28 [.int .i64 (n0 : Int), .int .i64 (n1 : Int), .int .i64 (n2 : Int)] 28, .blk d13 [.chan (some b0.ch), .chan (some (b1.put (Msg.mk A347 ([(UInt8.ofNat i1)] : List UInt8) c348)).ch), .chan (some (Lane.new c16).ch), .int .i64 (b0.p : Int), .int .i64 (((b1.put (Msg.mk A347 ([(UInt8.ofNat i1)] : List UInt8) c348)).p : Nat) : Int), .int .i64 (((Lane.new c16).p : Nat) : Int), .bool false] 52, .obj b0.ch (chO 256 b0.l false b0.s b0.r), .obj (b1.put (Msg.mk A347 ([(UInt8.ofNat i1)] : List UInt8) c348)).ch (chO 256 (b1.put (Msg.mk A347 ([(UInt8.ofNat i1)] : List UInt8) c348)).l false (b1.put (Msg.mk A347 ([(UInt8.ofNat i1)] : List UInt8) c348)).s (b1.put (Msg.mk A347 ([(UInt8.ofNat i1)] : List UInt8) c348)).r), .obj (Lane.new c16).ch (chO 256 (Lane.new c16).l false (Lane.new c16).s (Lane.new c16).r), .bag ((A347, ([(UInt8.ofNat i1)] : List UInt8).length, c348, 5, by8 ([(UInt8.ofNat i1)] : List UInt8)) :: G1)]) H354 (List.Perm.trans (List.Perm.cons _ (List.Perm.cons _ (List.Perm.cons _ (List.Perm.cons _ (List.Perm.swap _ _ _))))) (List.Perm.trans (List.Perm.cons _ (List.Perm.cons _ (List.Perm.cons _ (List.Perm.swap _ _ _)))) (List.Perm.trans (List.Perm.cons _ (List.Perm.cons _ (List.Perm.swap _ _ _))) (List.Perm.trans (List.Perm.cons _ (List.Perm.swap _ _ _)) (List.Perm.trans (List.Perm.swap _ _ _) (List.Perm.refl _)))))))
        refine GL.fit (ts := [3, 4, 11, 13, 14, 46, 47, 51, 52]) (M' := [(3, .int .i64 z_), (4, .slice A ms.length c), (11, pt d13 0), (13, pt p28 0), (14, .int .i64 1), (46, .agg #[.int .i64 (n0 : Int), .int .i64 (n1 : Int), .int .i64 (n2 : Int)]), (47, .int .i64 1), (51, .int .i64 (n1 : Int)), (52, .int .i64 ((i1 + 1 : Nat) : Int))]) (by kernel_rfl) ?_
        refine GL.eq (M' := [(3, .int .i64 z_), (4, .slice A ms.length c), (11, pt d13 0), (13, pt p28 0), (14, .int .i64 1), (46, .agg #[.int .i64 (n0 : Int), .int .i64 (n1 : Int), .int .i64 (n2 : Int)]), (47, .int .i64 1), (51, .int .i64 (n1 : Int)), (52, .int .i64 (((i1 + 1) : Nat) : Int))]) (by rfl) ?_
        exact GL.again ⟨(i1 + 1), (b1.put (Msg.mk A347 ([(UInt8.ofNat i1)] : List UInt8) c348)), ((A347, ([(UInt8.ofNat i1)] : List UInt8).length, c348, 5, by8 ([(UInt8.ofNat i1)] : List UInt8)) :: G1)⟩ [3, 4, 11, 13, 14, 46, 47, 51, 52] rfl (by kernel_rfl) (by show n1 - (i1 + 1) < n1 - i1; omega) ⟨⟨⟨by omega, LQ.put hL1 rfl⟩, (Lane.z.put hz1 (Msg.mk A347 ([(UInt8.ofNat i1)] : List UInt8) c348)), hp1, (LnOk.more hok1_0 _), (LnOk.put hok1_1 (Msg.mk A347 ([(UInt8.ofNat i1)] : List UInt8) c348)), (LnOk.more hok1_2 _)⟩, H355⟩
    · skip
      have hb57f := of_decide_eq_true hb57
      refine G.yes rfl ?_
      refine G.skipK hK56 (fun _ _ h => h) ?_
      refine G.seqK fun K356 hK357 => ?_
      refine G.block ?_
      refine G.seqK fun K358 hK359 => ?_
      refine G.region ?_
      refine GL.run (j := 2) 2 [3, 4, 11, 13, 14, 16, 46, 47, 51, 52] [(3, .int .i64 z_), (4, .slice A ms.length c), (11, pt d13 0), (13, pt p28 0), (14, .int .i64 0), (16, .int .i64 (i0 : Int)), (46, .agg #[.int .i64 (n0 : Int), .int .i64 (n1 : Int), .int .i64 (n2 : Int)]), (47, .int .i64 0), (51, .int .i64 (n0 : Int)), (52, .int .i64 (i0 : Int))] (by kernel_rfl) rfl ?_
      refine GL.k rfl hK359 (fun _ _ h => h) ?_
      refine G.seqK fun K360 hK361 => ?_
      refine G.region ?_
      refine GL.run (j := 4) 4 [3, 4, 11, 13, 14, 46, 47, 51, 52, 55, 56, 58] [(3, .int .i64 z_), (4, .slice A ms.length c), (11, pt d13 0), (13, pt p28 0), (14, .int .i64 0), (46, .agg #[.int .i64 (n0 : Int), .int .i64 (n1 : Int), .int .i64 (n2 : Int)]), (47, .int .i64 0), (51, .int .i64 (n0 : Int)), (52, .int .i64 (i0 : Int)), (55, pt d13 0), (56, .int .i64 0), (58, .int .u8 (IntKind.u8.wrap (i0 : Int)))] (by kernel_rfl) rfl ?_
      have e362 : (IntKind.u8.wrap (i0 : Int)) = ((UInt8.ofNat i0).toNat : Int) := n_byte _
      refine GL.eq (M' := [(3, .int .i64 z_), (4, .slice A ms.length c), (11, pt d13 0), (13, pt p28 0), (14, .int .i64 0), (46, .agg #[.int .i64 (n0 : Int), .int .i64 (n1 : Int), .int .i64 (n2 : Int)]), (47, .int .i64 0), (51, .int .i64 (n0 : Int)), (52, .int .i64 (i0 : Int)), (55, pt d13 0), (56, .int .i64 0), (58, .int .u8 ((UInt8.ofNat i0).toNat : Int))]) (by rw [e362]) ?_
      clear e362
      obtain ⟨p363, w364, r365, H366⟩ := H52.made (P := Try.prog) (Instr.buildSlice 22 1 #[(0, .int .u8 ((UInt8.ofNat i0).toNat : Int))]) (fun b_ => .slice (some ⟨b_, 0, none⟩) 1 1) [.int .u8 ((UInt8.ofNat i0).toNat : Int)] 5 (by kernel_rfl)
      have H366 : Hp w [] [.blk p28 [.int .i64 (n0 : Int), .int .i64 (n1 : Int), .int .i64 (n2 : Int)] 28, .blk d13 [.chan (some b0.ch), .chan (some (Lane.new c15).ch), .chan (some (Lane.new c16).ch), .int .i64 (b0.p : Int), .int .i64 (((Lane.new c15).p : Nat) : Int), .int .i64 (((Lane.new c16).p : Nat) : Int), .bool false] 52, .obj b0.ch (chO 256 b0.l false b0.s b0.r), .obj (Lane.new c15).ch (chO 256 (Lane.new c15).l false (Lane.new c15).s (Lane.new c15).r), .obj (Lane.new c16).ch (chO 256 (Lane.new c16).l false (Lane.new c16).s (Lane.new c16).r), .bag G0, .blk p363 [.int .u8 ((UInt8.ofNat i0).toNat : Int)] 5] w364 := H366
      refine GL.sem (j := 5) (r365) [3, 4, 11, 13, 14, 46, 47, 51, 52, 55, 56, 59] [(3, .int .i64 z_), (4, .slice A ms.length c), (11, pt d13 0), (13, pt p28 0), (14, .int .i64 0), (46, .agg #[.int .i64 (n0 : Int), .int .i64 (n1 : Int), .int .i64 (n2 : Int)]), (47, .int .i64 0), (51, .int .i64 (n0 : Int)), (52, .int .i64 (i0 : Int)), (55, pt d13 0), (56, .int .i64 0), (59, .slice (some ⟨p363, 0, none⟩) 1 1)] (by kernel_rfl) (by kernel_rfl) rfl ?_
      have H369 := (Hp.reorder (L' := [.blk d13 [.chan (some b0.ch), .chan (some (Lane.new c15).ch), .chan (some (Lane.new c16).ch), .int .i64 (b0.p : Int), .int .i64 (((Lane.new c15).p : Nat) : Int), .int .i64 (((Lane.new c16).p : Nat) : Int), .bool false] 52, .obj b0.ch (chO 256 b0.l false b0.s b0.r), .obj (Lane.new c15).ch (chO 256 (Lane.new c15).l false (Lane.new c15).s (Lane.new c15).r), .obj (Lane.new c16).ch (chO 256 (Lane.new c16).l false (Lane.new c16).s (Lane.new c16).r), .bag G0, .blk p28 [.int .i64 (n0 : Int), .int .i64 (n1 : Int), .int .i64 (n2 : Int)] 28, .blk p363 [.int .u8 ((UInt8.ofNat i0).toNat : Int)] 5]) H366 (List.Perm.trans (List.Perm.swap _ _ _) (List.Perm.cons _ (List.Perm.trans (List.Perm.swap _ _ _) (List.Perm.cons _ (List.Perm.trans (List.Perm.swap _ _ _) (List.Perm.cons _ (List.Perm.trans (List.Perm.swap _ _ _) (List.Perm.cons _ (List.Perm.trans (List.Perm.swap _ _ _) (List.Perm.refl _)))))))))))
      refine GL.call (j := 6) (PutOk0_calls (ids [.blk d13 [.chan (some b0.ch), .chan (some (Lane.new c15).ch), .chan (some (Lane.new c16).ch), .int .i64 (b0.p : Int), .int .i64 (((Lane.new c15).p : Nat) : Int), .int .i64 (((Lane.new c16).p : Nat) : Int), .bool false] 52, .obj b0.ch (chO 256 b0.l false b0.s b0.r), .obj (Lane.new c15).ch (chO 256 (Lane.new c15).l false (Lane.new c15).s (Lane.new c15).r), .obj (Lane.new c16).ch (chO 256 (Lane.new c16).l false (Lane.new c16).s (Lane.new c16).r), .bag G0]) d13 256 b0 (Lane.new c15) (Lane.new c16) G0 (some ⟨p363, 0, none⟩) ([(UInt8.ofNat i0)] : List UInt8) 1 w364 (Hp.startL (A := [.blk d13 [.chan (some b0.ch), .chan (some (Lane.new c15).ch), .chan (some (Lane.new c16).ch), .int .i64 (b0.p : Int), .int .i64 (((Lane.new c15).p : Nat) : Int), .int .i64 (((Lane.new c16).p : Nat) : Int), .bool false] 52, .obj b0.ch (chO 256 b0.l false b0.s b0.r), .obj (Lane.new c15).ch (chO 256 (Lane.new c15).l false (Lane.new c15).s (Lane.new c15).r), .obj (Lane.new c16).ch (chO 256 (Lane.new c16).l false (Lane.new c16).s (Lane.new c16).r), .bag G0]) (B := [.blk p28 [.int .i64 (n0 : Int), .int .i64 (n1 : Int), .int .i64 (n2 : Int)] 28, .blk p363 [.int .u8 ((UInt8.ofNat i0).toNat : Int)] 5]) H369) (RdO.blk (A' := [.blk d13 [.chan (some b0.ch), .chan (some (Lane.new c15).ch), .chan (some (Lane.new c16).ch), .int .i64 (b0.p : Int), .int .i64 (((Lane.new c15).p : Nat) : Int), .int .i64 (((Lane.new c16).p : Nat) : Int), .bool false] 52, .obj b0.ch (chO 256 b0.l false b0.s b0.r), .obj (Lane.new c15).ch (chO 256 (Lane.new c15).l false (Lane.new c15).s (Lane.new c15).r), .obj (Lane.new c16).ch (chO 256 (Lane.new c16).l false (Lane.new c16).s (Lane.new c16).r), .bag G0]) (B' := [.blk p28 [.int .i64 (n0 : Int), .int .i64 (n1 : Int), .int .i64 (n2 : Int)] 28, .blk p363 [.int .u8 ((UInt8.ofNat i0).toNat : Int)] 5]) H369 1 1 rfl rfl) (by have h_ := hL0.len; omega) (by show (1 : Nat) ≤ 4096; decide)) (by kernel_rfl) rfl (fun e_ w370 hR => ?_)
      obtain ⟨A367, c368, rfl, H372⟩ := hR
      have H371 : Hp w [] [.blk d13 [.chan (some (b0.put (Msg.mk A367 ([(UInt8.ofNat i0)] : List UInt8) c368)).ch), .chan (some (Lane.new c15).ch), .chan (some (Lane.new c16).ch), .int .i64 (((b0.put (Msg.mk A367 ([(UInt8.ofNat i0)] : List UInt8) c368)).p : Nat) : Int), .int .i64 (((Lane.new c15).p : Nat) : Int), .int .i64 (((Lane.new c16).p : Nat) : Int), .bool false] 52, .obj (b0.put (Msg.mk A367 ([(UInt8.ofNat i0)] : List UInt8) c368)).ch (chO 256 (b0.put (Msg.mk A367 ([(UInt8.ofNat i0)] : List UInt8) c368)).l false (b0.put (Msg.mk A367 ([(UInt8.ofNat i0)] : List UInt8) c368)).s (b0.put (Msg.mk A367 ([(UInt8.ofNat i0)] : List UInt8) c368)).r), .obj (Lane.new c15).ch (chO 256 (Lane.new c15).l false (Lane.new c15).s (Lane.new c15).r), .obj (Lane.new c16).ch (chO 256 (Lane.new c16).l false (Lane.new c16).s (Lane.new c16).r), .bag ((A367, ([(UInt8.ofNat i0)] : List UInt8).length, c368, 5, by8 ([(UInt8.ofNat i0)] : List UInt8)) :: G0), .blk p28 [.int .i64 (n0 : Int), .int .i64 (n1 : Int), .int .i64 (n2 : Int)] 28, .blk p363 [.int .u8 ((UInt8.ofNat i0).toNat : Int)] 5] w370 := Hp.callL (A := [.blk d13 [.chan (some b0.ch), .chan (some (Lane.new c15).ch), .chan (some (Lane.new c16).ch), .int .i64 (b0.p : Int), .int .i64 (((Lane.new c15).p : Nat) : Int), .int .i64 (((Lane.new c16).p : Nat) : Int), .bool false] 52, .obj b0.ch (chO 256 b0.l false b0.s b0.r), .obj (Lane.new c15).ch (chO 256 (Lane.new c15).l false (Lane.new c15).s (Lane.new c15).r), .obj (Lane.new c16).ch (chO 256 (Lane.new c16).l false (Lane.new c16).s (Lane.new c16).r), .bag G0]) (B := [.blk p28 [.int .i64 (n0 : Int), .int .i64 (n1 : Int), .int .i64 (n2 : Int)] 28, .blk p363 [.int .u8 ((UInt8.ofNat i0).toNat : Int)] 5]) H369 H372
      refine ⟨_, rfl, [3, 4, 11, 13, 14, 46, 47, 51, 52, 60], [(3, .int .i64 z_), (4, .slice A ms.length c), (11, pt d13 0), (13, pt p28 0), (14, .int .i64 0), (46, .agg #[.int .i64 (n0 : Int), .int .i64 (n1 : Int), .int .i64 (n2 : Int)]), (47, .int .i64 0), (51, .int .i64 (n0 : Int)), (52, .int .i64 (i0 : Int)), (60, .int .i64 0)], by kernel_rfl, ?_⟩
      refine GL.run (j := 7) 1 [3, 4, 11, 13, 14, 46, 47, 51, 52, 61] [(3, .int .i64 z_), (4, .slice A ms.length c), (11, pt d13 0), (13, pt p28 0), (14, .int .i64 0), (46, .agg #[.int .i64 (n0 : Int), .int .i64 (n1 : Int), .int .i64 (n2 : Int)]), (47, .int .i64 0), (51, .int .i64 (n0 : Int)), (52, .int .i64 (i0 : Int)), (61, .bool false)] (by kernel_rfl) rfl ?_
      refine GL.k rfl hK361 (fun _ _ h => h) ?_
      refine G.no rfl ?_
      refine G.skipK hK357 (fun _ _ h => h) ?_
      refine G.region ?_
      refine GL.run (j := 2) 2 [3, 4, 11, 13, 14, 46, 47, 51, 52] [(3, .int .i64 z_), (4, .slice A ms.length c), (11, pt d13 0), (13, pt p28 0), (14, .int .i64 0), (46, .agg #[.int .i64 (n0 : Int), .int .i64 (n1 : Int), .int .i64 (n2 : Int)]), (47, .int .i64 0), (51, .int .i64 (n0 : Int)), (52, .int .i64 (IntKind.i64.wrap ((i0 : Int) + 1)))] (by kernel_rfl) rfl ?_
      have e373 : (IntKind.i64.wrap ((i0 : Int) + 1)) = ((i0 + 1 : Nat) : Int) := by rw [in_i64 (by omega)]; omega
      refine GL.eq (M' := [(3, .int .i64 z_), (4, .slice A ms.length c), (11, pt d13 0), (13, pt p28 0), (14, .int .i64 0), (46, .agg #[.int .i64 (n0 : Int), .int .i64 (n1 : Int), .int .i64 (n2 : Int)]), (47, .int .i64 0), (51, .int .i64 (n0 : Int)), (52, .int .i64 ((i0 + 1 : Nat) : Int))]) (by rw [e373]) ?_
      clear e373
      have H374 : Hp w [] [.blk d13 [.chan (some (b0.put (Msg.mk A367 ([(UInt8.ofNat i0)] : List UInt8) c368)).ch), .chan (some (Lane.new c15).ch), .chan (some (Lane.new c16).ch), .int .i64 (((b0.put (Msg.mk A367 ([(UInt8.ofNat i0)] : List UInt8) c368)).p : Nat) : Int), .int .i64 (((Lane.new c15).p : Nat) : Int), .int .i64 (((Lane.new c16).p : Nat) : Int), .bool false] 52, .obj (b0.put (Msg.mk A367 ([(UInt8.ofNat i0)] : List UInt8) c368)).ch (chO 256 (b0.put (Msg.mk A367 ([(UInt8.ofNat i0)] : List UInt8) c368)).l false (b0.put (Msg.mk A367 ([(UInt8.ofNat i0)] : List UInt8) c368)).s (b0.put (Msg.mk A367 ([(UInt8.ofNat i0)] : List UInt8) c368)).r), .obj (Lane.new c15).ch (chO 256 (Lane.new c15).l false (Lane.new c15).s (Lane.new c15).r), .obj (Lane.new c16).ch (chO 256 (Lane.new c16).l false (Lane.new c16).s (Lane.new c16).r), .bag ((A367, ([(UInt8.ofNat i0)] : List UInt8).length, c368, 5, by8 ([(UInt8.ofNat i0)] : List UInt8)) :: G0), .blk p28 [.int .i64 (n0 : Int), .int .i64 (n1 : Int), .int .i64 (n2 : Int)] 28] w370 := H371.sub (List.Sublist.cons_cons _ (List.Sublist.cons_cons _ (List.Sublist.cons_cons _ (List.Sublist.cons_cons _ (List.Sublist.cons_cons _ (List.Sublist.cons_cons _ (List.Sublist.cons _ (List.Sublist.slnil))))))))
      have H375 := (Hp.reorder (L' := [.blk p28 [.int .i64 (n0 : Int), .int .i64 (n1 : Int), .int .i64 (n2 : Int)] 28, .blk d13 [.chan (some (b0.put (Msg.mk A367 ([(UInt8.ofNat i0)] : List UInt8) c368)).ch), .chan (some (Lane.new c15).ch), .chan (some (Lane.new c16).ch), .int .i64 (((b0.put (Msg.mk A367 ([(UInt8.ofNat i0)] : List UInt8) c368)).p : Nat) : Int), .int .i64 (((Lane.new c15).p : Nat) : Int), .int .i64 (((Lane.new c16).p : Nat) : Int), .bool false] 52, .obj (b0.put (Msg.mk A367 ([(UInt8.ofNat i0)] : List UInt8) c368)).ch (chO 256 (b0.put (Msg.mk A367 ([(UInt8.ofNat i0)] : List UInt8) c368)).l false (b0.put (Msg.mk A367 ([(UInt8.ofNat i0)] : List UInt8) c368)).s (b0.put (Msg.mk A367 ([(UInt8.ofNat i0)] : List UInt8) c368)).r), .obj (Lane.new c15).ch (chO 256 (Lane.new c15).l false (Lane.new c15).s (Lane.new c15).r), .obj (Lane.new c16).ch (chO 256 (Lane.new c16).l false (Lane.new c16).s (Lane.new c16).r), .bag ((A367, ([(UInt8.ofNat i0)] : List UInt8).length, c368, 5, by8 ([(UInt8.ofNat i0)] : List UInt8)) :: G0)]) H374 (List.Perm.trans (List.Perm.cons _ (List.Perm.cons _ (List.Perm.cons _ (List.Perm.cons _ (List.Perm.swap _ _ _))))) (List.Perm.trans (List.Perm.cons _ (List.Perm.cons _ (List.Perm.cons _ (List.Perm.swap _ _ _)))) (List.Perm.trans (List.Perm.cons _ (List.Perm.cons _ (List.Perm.swap _ _ _))) (List.Perm.trans (List.Perm.cons _ (List.Perm.swap _ _ _)) (List.Perm.trans (List.Perm.swap _ _ _) (List.Perm.refl _)))))))
      refine GL.fit (ts := [3, 4, 11, 13, 14, 46, 47, 51, 52]) (M' := [(3, .int .i64 z_), (4, .slice A ms.length c), (11, pt d13 0), (13, pt p28 0), (14, .int .i64 0), (46, .agg #[.int .i64 (n0 : Int), .int .i64 (n1 : Int), .int .i64 (n2 : Int)]), (47, .int .i64 0), (51, .int .i64 (n0 : Int)), (52, .int .i64 ((i0 + 1 : Nat) : Int))]) (by kernel_rfl) ?_
      refine GL.eq (M' := [(3, .int .i64 z_), (4, .slice A ms.length c), (11, pt d13 0), (13, pt p28 0), (14, .int .i64 0), (46, .agg #[.int .i64 (n0 : Int), .int .i64 (n1 : Int), .int .i64 (n2 : Int)]), (47, .int .i64 0), (51, .int .i64 (n0 : Int)), (52, .int .i64 (((i0 + 1) : Nat) : Int))]) (by rfl) ?_
      exact GL.again ⟨(i0 + 1), (b0.put (Msg.mk A367 ([(UInt8.ofNat i0)] : List UInt8) c368)), ((A367, ([(UInt8.ofNat i0)] : List UInt8).length, c368, 5, by8 ([(UInt8.ofNat i0)] : List UInt8)) :: G0)⟩ [3, 4, 11, 13, 14, 46, 47, 51, 52] rfl (by kernel_rfl) (by show n0 - (i0 + 1) < n0 - i0; omega) ⟨⟨⟨by omega, LQ.put hL0 rfl⟩, (Lane.z.put hz0 (Msg.mk A367 ([(UInt8.ofNat i0)] : List UInt8) c368)), hp0, (LnOk.put hok0_0 (Msg.mk A367 ([(UInt8.ofNat i0)] : List UInt8) c368)), (LnOk.more hok0_1 _), (LnOk.more hok0_2 _)⟩, H375⟩
  · skip
    have hb10f := of_decide_eq_true hb10
    refine G.yes rfl ?_
    refine G.seqK fun K376 hK377 => ?_
    refine G.region ?_
    refine GL.call (j := 1) (lives_calls w7) (by kernel_rfl) rfl (fun e_ w378 hR => ?_)
    obtain ⟨rfl, H380⟩ := hR
    have H379 : Hp w [] [] w378 := H8.callNil H380
    refine ⟨_, rfl, [31], [(31, .bool true)], by kernel_rfl, ?_⟩
    refine GL.run (j := 2) 1 [10] [(10, .bool true)] (by kernel_rfl) rfl ?_
    refine GL.k rfl hK377 (fun _ _ h => h) ?_
    refine G.ret ?_
    intro F_ hF_ hM_
    refine hRet _ _ (bodyPost_1 rfl (RV.tmp rfl) ?_ F_ hF_ hM_)
    exact ⟨rfl, H379.sub (List.nil_sublist _)⟩
end Go.Proofs.Ythcdelpdgkoioaa
namespace Go.Proofs.Ythcdelpdgkoioaa
open Go.ChangeShapes Go.WideShapes Go.ChangeAt Go.RowKit
open Go.ChangeMaps (open_string shut_string)
set_option linter.unusedVariables false
theorem deskWaits_own : ownKnob Try.prog.godebug = none := by kernel_rfl
theorem deskWaits_laidOut : laidOutB Try.prog = true := by kernel_rfl
set_option maxRecDepth 100000 in
theorem deskWaits_lifted (os : Os) (started : os.Started) (H : Type) (enc : TypeId × Value → H) :
    ReturnsInHanded {} Try.checked os 3 .any (Rows.deskWaitsSpec.pre6 enc Try.prog Try.f3 Rows.deskWaitsRow.domain false) (Rows.deskWaitsSpec.post enc Try.prog Try.f3 false true false false) := by
  refine returnsInHanded_of_change (C := Try.checked) deskWaits_own started (by kernel_rfl) Try.func3
    (ChangeSpec.witness6 (enc := enc) (C := Try.checked) false ⟨#[], #[.int .u8 0, .int .u8 0, .int .u8 0, .int .i64 0, .slice none 0 0], []⟩ 12 (by kernel_rfl) (by kernel_rfl) (by kernel_rfl) (by kernel_rfl)) ?_
  intro W base args ds gs before hval0 hW hcnd _
  have hval : ∀ (j : Nat) t v, Try.f3.params[j]? = some t → args[j]? = some v → Value.okWide Try.prog W .any base t v := hval0
  have hW' := hW
  obtain ⟨p, q, hA0, hV, rfl, hfz, hnd⟩ := hW
  have hA : DataW.TrodAll enc Try.prog W 0 (fun _ => true) true Try.f3.params.toList args.toList ds p := hA0
  rw [Try.params3] at hA hval
  obtain ⟨v0, vs0, d0, ds0, p0, q0, hargs, rfl, rfl, h0, r0⟩ := trodAll_cons hA
  obtain ⟨v1, vs1, d1, ds1, p1, q1, rfl, rfl, rfl, h1, r1⟩ := trodAll_cons r0
  obtain ⟨v2, vs2, d2, ds2, p2, q2, rfl, rfl, rfl, h2, r2⟩ := trodAll_cons r1
  obtain ⟨v3, vs3, d3, ds3, p3, q3, rfl, rfl, rfl, h3, r3⟩ := trodAll_cons r2
  obtain ⟨v4, vs4, d4, ds4, p4, q4, rfl, rfl, rfl, h4, r4⟩ := trodAll_cons r3
  obtain ⟨rfl, rfl, rfl⟩ := trodAll_nil r4
  obtain rfl : args = #[v0, v1, v2, v3, v4] := by cases args; simp_all
  obtain ⟨rfl, rfl⟩ := trodVars_none hV
  have k0 := h0
  have lt0 : ∀ x ∈ p0, x.block < W.heap.size := by obtain ⟨m, hm⟩ := k0; exact DataW.trod_lt m _ _ _ hm
  have k1 := h1
  have lt1 : ∀ x ∈ p1, x.block < W.heap.size := by obtain ⟨m, hm⟩ := k1; exact DataW.trod_lt m _ _ _ hm
  have k2 := h2
  have lt2 : ∀ x ∈ p2, x.block < W.heap.size := by obtain ⟨m, hm⟩ := k2; exact DataW.trod_lt m _ _ _ hm
  have k3 := h3
  have lt3 : ∀ x ∈ p3, x.block < W.heap.size := by obtain ⟨m, hm⟩ := k3; exact DataW.trod_lt m _ _ _ hm
  have k4 := h4
  have lt4 : ∀ x ∈ p4, x.block < W.heap.size := by obtain ⟨m, hm⟩ := k4; exact DataW.trod_lt m _ _ _ hm
  obtain ⟨m0, rfl, wf0⟩ := open_int' Try.underlying5 (hval 0 5 _ rfl rfl) h0
  obtain ⟨b0, rfl⟩ := u8_arg wf0
  obtain ⟨m1, rfl, wf1⟩ := open_int' Try.underlying5 (hval 1 5 _ rfl rfl) h1
  obtain ⟨b1, rfl⟩ := u8_arg wf1
  obtain ⟨m2, rfl, wf2⟩ := open_int' Try.underlying5 (hval 2 5 _ rfl rfl) h2
  obtain ⟨b2, rfl⟩ := u8_arg wf2
  obtain ⟨n3, rfl, wf3⟩ := open_int' Try.underlying3 (hval 3 3 _ rfl rfl) h3
  obtain ⟨a4, len4, cap4, rfl⟩ := okWide_slice Try.underlying22 (hval 4 22 _ rfl rfl)
  obtain ⟨fu4, hf4⟩ := h4
  obtain ⟨A4, bs4, c4, hcs4, rd4, hc4, hm4⟩ := open_u8s Try.underlying22 Try.underlying5 (by kernel_rfl) hf4
  simp [Value.cells] at hcs4
  obtain ⟨rfl, rfl, rfl⟩ := hcs4
  clear hA0 hval0
  refine (DeskWaits_calls b0 b1 b2 n3 a4 bs4 cap4 W rd4).mono fun e W' ⟨he, hh⟩ => ?_
  have bel := hh.below
  subst he
  exact ⟨_, rfl, _, _, _, [], _, [], hW', trodAll_mk1 (shut_bool Try.underlying4 _), (trodAll_cons_mk (Below.trod deskWaits_laidOut (by kernel_rfl) (of_decide_eq_true (by kernel_rfl)) k0 bel lt0) (trodAll_cons_mk (Below.trod deskWaits_laidOut (by kernel_rfl) (of_decide_eq_true (by kernel_rfl)) k1 bel lt1) (trodAll_cons_mk (Below.trod deskWaits_laidOut (by kernel_rfl) (of_decide_eq_true (by kernel_rfl)) k2 bel lt2) (trodAll_cons_mk (Below.trod deskWaits_laidOut (by kernel_rfl) (of_decide_eq_true (by kernel_rfl)) k3 bel lt3) (trodAll_cons_mk (Below.trod deskWaits_laidOut (by kernel_rfl) (of_decide_eq_true (by kernel_rfl)) k4 bel lt4) trodAll_mk0))))), rfl, bel.frame _, fun h => by cases h⟩
theorem deskWaits_over : Rows.deskWaitsRow.holds Try.pinned (OpenSpec.ofChange Rows.deskWaitsSpec) :=
  OpenClaim.holds_of_wide 3 Try.f3 rfl rfl rfl rfl rfl rfl rfl ⟨rfl, rfl, rfl, rfl, rfl⟩ rfl rfl rfl rfl rfl (by kernel_rfl) Try.func3 (by kernel_rfl)
    (of_decide_eq_true (by kernel_rfl)) (by unfold Func.isWrapper; first | (rw [if_pos (by decide +kernel)]; kernel_rfl) | (rw [if_neg (by decide +kernel)]; exact ⟨rfl, rfl⟩))
    (fun os started H enc _ => deskWaits_lifted os started H enc)
theorem deskWaits_proved : Rows.DeskWaitsSaid := deskWaits_over
end Go.Proofs.Ythcdelpdgkoioaa
