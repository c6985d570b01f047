/- Package octet: what heads are written with. -/
import Derived.Test.YtdepaaphgfapjaaSha
import Derived.Test.YtdepaaphgfapjaaOc
namespace Go.Proofs.Ytdepaaphgfapjaa
open Go.RowKit
theorem Put4_calls (S : List Nat) (p : Nat) (A : Option Addr) (n c : Nat) (bs : List UInt8) (x : Nat) (w : World) (h0 : Hp w S [.blk p [.slice A n c] 57, .row A n c 5 1 (by8 bs)] w) (hn : n ≤ 1000000) : Calls Try.prog 22 #[pt p 0, .int .u64 (x : Int), .int .i64 4] w fun e w' => ∃ A c, e = .returned (.tuple #[]) ∧ Hp w S [.blk p [.slice A (n + 4) c] 57, .row A (n + 4) c 5 1 (by8 (bs ++ putB x 4))] w' := by
  refine calls_G (args := [pt p 0, .int .u64 (x : Int), .int .i64 4]) Try.func22 rfl Try.ntmps22 rfl ?_
  intro Q0 hRet hNor hPan
  have H := h0
  have H : Hp w S [.blk p [.slice A n c] 57, .row A n c 5 1 (by8 bs)] w := H
  refine G.seqK fun K1 hK2 => ?_
  refine G.seqK fun K3 hK4 => ?_
  refine G.region ?_
  refine GL.run (j := 2) 2 [0, 1, 2, 7] [(0, pt p 0), (1, .int .u64 (x : Int)), (2, .int .i64 4), (7, .bool false)] (by kernel_rfl) rfl ?_
  refine GL.k rfl hK4 (fun _ _ h => h) ?_
  refine G.no rfl ?_
  refine G.skipK hK2 (fun _ _ h => h) ?_
  refine G.seqK fun K5 hK6 => ?_
  refine G.region ?_
  refine GL.run (j := 1) 1 [0, 1, 2, 8] [(0, pt p 0), (1, .int .u64 (x : Int)), (2, .int .i64 4), (8, .int .i64 4)] (by kernel_rfl) rfl ?_
  refine GL.k rfl hK6 (fun _ _ h => h) ?_
  refine G.block ?_
  refine G.seqK fun K7 hK8 => ?_
  refine G.seqK fun K9 hK10 => ?_
  refine G.region ?_
  refine GL.run (j := 2) 2 [0, 1, 2, 8, 9] [(0, pt p 0), (1, .int .u64 (x : Int)), (2, .int .i64 4), (8, .int .i64 4), (9, .bool false)] (by kernel_rfl) rfl ?_
  refine GL.k rfl hK10 (fun _ _ h => h) ?_
  refine G.no rfl ?_
  refine G.seqK fun K11 hK12 => ?_
  refine G.region ?_
  refine GL.run (j := 2) 2 [0, 1, 2, 8, 9] [(0, pt p 0), (1, .int .u64 (x : Int)), (2, .int .i64 4), (8, .int .i64 4), (9, .bool false)] (by kernel_rfl) rfl ?_
  refine GL.k rfl hK12 (fun _ _ h => h) ?_
  refine G.no rfl ?_
  refine G.seqK fun K13 hK14 => ?_
  refine G.region ?_
  refine GL.run (j := 2) 2 [0, 1, 2, 8, 9] [(0, pt p 0), (1, .int .u64 (x : Int)), (2, .int .i64 4), (8, .int .i64 4), (9, .bool true)] (by kernel_rfl) rfl ?_
  refine GL.k rfl hK14 (fun _ _ h => h) ?_
  refine G.yes rfl ?_
  refine G.skipK hK8 (fun _ _ h => h) ?_
  refine G.yes rfl ?_
  refine G.seqK fun K15 hK16 => ?_
  refine G.region ?_
  refine GL.run (j := 2) 2 [0, 1, 14, 15] [(0, pt p 0), (1, .int .u64 (x : Int)), (14, .int .i64 4), (15, .int .i64 0)] (by kernel_rfl) rfl ?_
  refine GL.k rfl hK16 (fun _ _ h => h) ?_
  refine G.block ?_
  have H17 : Hp w S [.blk p [.slice A (n + 0) c] 57, .row A (n + 0) c 5 1 (by8 (bs ++ putB x 0))] w := by rw [show putB x 0 = [] from rfl, List.append_nil]; exact H
  refine G.fit [0, 1, 14, 15] (M' := [(0, pt p 0), (1, .int .u64 (x : Int)), (14, .int .i64 4), (15, .int .i64 0)]) (by kernel_rfl) ?_
  refine G.eq (M' := [(0, pt p 0), (1, .int .u64 ((x / 256 ^ 0 : Nat) : Int)), (14, .int .i64 4), (15, .int .i64 0)]) (by simp only [Nat.pow_zero, Nat.div_one]) ?_
  refine G.loop (X := Nat × Option Addr × Nat) (fun ⟨i, B_, b_⟩ => [(0, pt p 0), (1, .int .u64 ((x / 256 ^ i : Nat) : Int)), (14, .int .i64 4), (15, .int .i64 (i : Int))]) (fun ⟨i, B_, b_⟩ w_ => (i ≤ 4) ∧ Hp w S [.blk p [.slice B_ (n + i) b_] 57, .row B_ (n + i) b_ 5 1 (by8 (bs ++ putB x i))] w_) (fun ⟨i, B_, b_⟩ => 4 - i) ⟨0, A, c⟩ [0, 1, 14, 15] (by kernel_rfl) ⟨by omega, H17⟩ ?_
  rintro ⟨i, B_, b_⟩ w18 ⟨hi19, H20⟩
  refine G.eq (M' := [(0, pt p 0), (1, .int .u64 ((x / 256 ^ i : Nat) : Int)), (14, .int .i64 4), (15, .int .i64 (i : Int))]) rfl ?_
  have H20 : Hp w S [.blk p [.slice B_ (n + i) b_] 57, .row B_ (n + i) b_ 5 1 (by8 (bs ++ putB x i))] w18 := H20
  have hi9 := hi19
  refine G.seqK fun K21 hK22 => ?_
  refine G.region ?_
  refine GL.run (j := 1) 1 [0, 1, 14, 15, 16] [(0, pt p 0), (1, .int .u64 ((x / 256 ^ i : Nat) : Int)), (14, .int .i64 4), (15, .int .i64 (i : Int)), (16, .bool (decide ((i : Int) < 4)))] (by kernel_rfl) rfl ?_
  refine GL.k rfl hK22 (fun _ _ h => h) ?_
  refine G.seqK fun K23 hK24 => ?_
  cases hb25 : (decide ((i : Int) < 4))
  · skip
    have hb25f := of_decide_eq_false hb25
    refine G.no rfl ?_
    -- exit to the end
    refine fun F_ hF_ hM_ => wp_exit ?_
    refine hNor _ _ (bodyPost_0 rfl  ?_ F_ hF_ hM_)
    have HF := H20
    rw [show i = 4 by omega] at HF
    exact ⟨_, _, rfl, HF⟩
  · skip
    have hb25f := of_decide_eq_true hb25
    refine G.yes rfl ?_
    refine G.skipK hK24 (fun _ _ h => h) ?_
    refine G.seqK fun K26 hK27 => ?_
    refine G.block ?_
    refine G.seqK fun K28 hK29 => ?_
    refine G.region ?_
    refine GL.run (j := 4) 4 [0, 1, 14, 15, 17, 20] [(0, pt p 0), (1, .int .u64 ((x / 256 ^ i : Nat) : Int)), (14, .int .i64 4), (15, .int .i64 (i : Int)), (17, pt p 0), (20, pt p 0)] (by kernel_rfl) rfl ?_
    refine GL.sem (j := 5) (H20.ld (o := 0) (ty := 28) (v := .slice B_ (n + i) b_) 0 rfl (by kernel_rfl) rfl) [0, 1, 14, 15, 17, 21] [(0, pt p 0), (1, .int .u64 ((x / 256 ^ i : Nat) : Int)), (14, .int .i64 4), (15, .int .i64 (i : Int)), (17, pt p 0), (21, .slice B_ (n + i) b_)] (by kernel_rfl) (by kernel_rfl) rfl ?_
    refine GL.run (j := 7) 2 [0, 1, 14, 15, 17, 21, 23] [(0, pt p 0), (1, .int .u64 ((x / 256 ^ i : Nat) : Int)), (14, .int .i64 4), (15, .int .i64 (i : Int)), (17, pt p 0), (21, .slice B_ (n + i) b_), (23, .int .u8 (IntKind.u8.wrap ((x / 256 ^ i : Nat) : Int)))] (by kernel_rfl) rfl ?_
    have e30 : (IntKind.u8.wrap ((x / 256 ^ i : Nat) : Int)) = ((UInt8.ofNat (x / 256 ^ i)).toNat : Int) := n_byte _
    refine GL.eq (M' := [(0, pt p 0), (1, .int .u64 ((x / 256 ^ i : Nat) : Int)), (14, .int .i64 4), (15, .int .i64 (i : Int)), (17, pt p 0), (21, .slice B_ (n + i) b_), (23, .int .u8 ((UInt8.ofNat (x / 256 ^ i)).toNat : Int))]) (by rw [e30]) ?_
    clear e30
    obtain ⟨p31, w32, r33, H34⟩ := H20.made (P := Try.prog) (Instr.buildSlice 28 1 #[(0, .int .u8 ((UInt8.ofNat (x / 256 ^ i)).toNat : Int))]) (fun b_ => .slice (some ⟨b_, 0, none⟩) 1 1) [.int .u8 ((UInt8.ofNat (x / 256 ^ i)).toNat : Int)] 5 (by kernel_rfl)
    have H34 : Hp w S [.blk p [.slice B_ (n + i) b_] 57, .row B_ (n + i) b_ 5 1 (by8 (bs ++ putB x i)), .blk p31 [.int .u8 ((UInt8.ofNat (x / 256 ^ i)).toNat : Int)] 5] w32 := H34
    refine GL.sem (j := 8) (r33) [0, 1, 14, 15, 17, 21, 24] [(0, pt p 0), (1, .int .u64 ((x / 256 ^ i : Nat) : Int)), (14, .int .i64 4), (15, .int .i64 (i : Int)), (17, pt p 0), (21, .slice B_ (n + i) b_), (24, .slice (some ⟨p31, 0, none⟩) 1 1)] (by kernel_rfl) (by kernel_rfl) rfl ?_
    obtain ⟨A35, c36, w37, r38, H39⟩ := H34.append (P := Try.prog) (e := 5) (sz := 1) (by_ := 1) (n := (n + i)) (c := b_) (m := 1) (d := 1) (t := 28) (ty := 28) (xs := by8 (bs ++ putB x i)) (news := by8 ([(UInt8.ofNat (x / 256 ^ i))] : List UInt8)) 1 rfl (by kernel_rfl) (H34.rdBlk (o := 0) (xs := by8 ([(UInt8.ofNat (x / 256 ^ i))] : List UInt8)) 2 1 rfl rfl) (by first | (simp [by8_length]; done) | (rw [by8_length]; omega) | (rw [by8_length, putB_length])) (by8_one _) (by omega) (by simp only [maxLen]; omega)
    rw [← by8_append] at H39
    have H39 : Hp w S [.blk p [.slice B_ (n + i) b_] 57, .row A35 ((n + i) + 1) c36 5 1 (by8 ((bs ++ putB x i) ++ ([(UInt8.ofNat (x / 256 ^ i))] : List UInt8))), .blk p31 [.int .u8 ((UInt8.ofNat (x / 256 ^ i)).toNat : Int)] 5] w37 := H39
    refine GL.sem (j := 9) (r38) [0, 1, 14, 15, 17, 25] [(0, pt p 0), (1, .int .u64 ((x / 256 ^ i : Nat) : Int)), (14, .int .i64 4), (15, .int .i64 (i : Int)), (17, pt p 0), (25, .slice A35 ((n + i) + 1) c36)] (by kernel_rfl) (by kernel_rfl) rfl ?_
    refine GL.run (j := 11) 2 [0, 1, 14, 15, 25, 27] [(0, pt p 0), (1, .int .u64 ((x / 256 ^ i : Nat) : Int)), (14, .int .i64 4), (15, .int .i64 (i : Int)), (25, .slice A35 ((n + i) + 1) c36), (27, pt p 0)] (by kernel_rfl) rfl ?_
    obtain ⟨w40, r41, H42⟩ := H39.st (P := Try.prog) (o := 0) (ty := 28) (v := .slice A35 ((n + i) + 1) c36) 0 rfl (by kernel_rfl) (by simp) rfl
    have H42 : Hp w S [.blk p [.slice A35 ((n + i) + 1) c36] 57, .row A35 ((n + i) + 1) c36 5 1 (by8 ((bs ++ putB x i) ++ ([(UInt8.ofNat (x / 256 ^ i))] : List UInt8))), .blk p31 [.int .u8 ((UInt8.ofNat (x / 256 ^ i)).toNat : Int)] 5] w40 := H42
    refine GL.semU (j := 12) r41 [0, 1, 14, 15] [(0, pt p 0), (1, .int .u64 ((x / 256 ^ i : Nat) : Int)), (14, .int .i64 4), (15, .int .i64 (i : Int))] (by kernel_rfl) rfl rfl rfl ?_
    refine GL.k rfl hK29 (fun _ _ h => h) ?_
    refine G.region ?_
    refine GL.run (j := 3) 3 [0, 1, 14, 15] [(0, pt p 0), (1, .int .u64 (Int.fdiv ((x / 256 ^ i : Nat) : Int) (2 ^ 8))), (14, .int .i64 4), (15, .int .i64 (i : Int))] (by kernel_rfl) rfl ?_
    have e43 : (Int.fdiv ((x / 256 ^ i : Nat) : Int) (2 ^ 8)) = (((x / 256 ^ i) / 256 : Nat) : Int) := n_shr _ 8
    refine GL.eq (M' := [(0, pt p 0), (1, .int .u64 (((x / 256 ^ i) / 256 : Nat) : Int)), (14, .int .i64 4), (15, .int .i64 (i : Int))]) (by rw [e43]) ?_
    clear e43
    refine GL.k rfl hK27 (fun _ _ h => h) ?_
    refine G.region ?_
    refine GL.run (j := 2) 2 [0, 1, 14, 15] [(0, pt p 0), (1, .int .u64 (((x / 256 ^ i) / 256 : Nat) : Int)), (14, .int .i64 4), (15, .int .i64 (IntKind.i64.wrap ((i : Int) + 1)))] (by kernel_rfl) rfl ?_
    have e44 : (IntKind.i64.wrap ((i : Int) + 1)) = ((i + 1 : Nat) : Int) := by rw [in_i64 (by omega)]; omega
    refine GL.eq (M' := [(0, pt p 0), (1, .int .u64 (((x / 256 ^ i) / 256 : Nat) : Int)), (14, .int .i64 4), (15, .int .i64 ((i + 1 : Nat) : Int))]) (by rw [e44]) ?_
    clear e44
    have H45 : Hp w S [.blk p [.slice A35 ((n + i) + 1) c36] 57, .row A35 ((n + i) + 1) c36 5 1 (by8 ((bs ++ putB x i) ++ ([(UInt8.ofNat (x / 256 ^ i))] : List UInt8)))] w40 := H42.sub (List.Sublist.cons_cons _ (List.Sublist.cons_cons _ (List.Sublist.cons _ (List.Sublist.slnil))))
    have H46 : Hp w S [.blk p [.slice A35 (n + (i + 1)) c36] 57, .row A35 (n + (i + 1)) c36 5 1 (by8 (bs ++ putB x (i + 1)))] w40 := by rw [putB_snoc, ← List.append_assoc]; exact H45
    refine GL.fit (ts := [0, 1, 14, 15]) (M' := [(0, pt p 0), (1, .int .u64 (((x / 256 ^ i) / 256 : Nat) : Int)), (14, .int .i64 4), (15, .int .i64 ((i + 1 : Nat) : Int))]) (by kernel_rfl) ?_
    refine GL.eq (M' := [(0, pt p 0), (1, .int .u64 ((x / 256 ^ (i + 1) : Nat) : Int)), (14, .int .i64 4), (15, .int .i64 (((i + 1) : Nat) : Int))]) (by rw [Nat.pow_succ, ← Nat.div_div_eq_div_mul]) ?_
    exact GL.again ⟨(i + 1), A35, c36⟩ [0, 1, 14, 15] rfl (by kernel_rfl) (by show 4 - (i + 1) < 4 - i; omega) ⟨by omega, H46⟩
theorem WBytes_calls (S : List Nat) (p : Nat) (A : Option Addr) (n c : Nat) (bs : List UInt8) (w : World) (h0 : Hp w S [.blk p [.slice A n c] 57, .row A n c 5 1 (by8 bs)] w) (hn : n ≤ 1000000) : Calls Try.prog 24 #[pt p 0] w fun e w' => ∃ B b, e = .returned (.slice B n b) ∧ Hp w S [.blk p [.slice A n c] 57, .row A n c 5 1 (by8 bs), .row B n b 5 1 (by8 bs)] w' := by
  refine calls_G (args := [pt p 0]) Try.func24 rfl Try.ntmps24 rfl ?_
  intro Q0 hRet hNor hPan
  have H := h0
  have H : Hp w S [.blk p [.slice A n c] 57, .row A n c 5 1 (by8 bs)] w := H
  refine G.seqK fun K1 hK2 => ?_
  refine G.region ?_
  refine GL.run (j := 1) 1 [0] [(0, pt p 0)] (by kernel_rfl) rfl ?_
  refine GL.k rfl hK2 (fun _ _ h => h) ?_
  refine G.seqK fun K3 hK4 => ?_
  refine G.seqK fun K5 hK6 => ?_
  refine G.region ?_
  refine GL.run (j := 2) 2 [0, 4] [(0, pt p 0), (4, .bool false)] (by kernel_rfl) rfl ?_
  refine GL.k rfl hK6 (fun _ _ h => h) ?_
  refine G.no rfl ?_
  refine G.skipK hK4 (fun _ _ h => h) ?_
  refine G.seqK fun K7 hK8 => ?_
  refine G.region ?_
  refine GL.run (j := 3) 3 [7] [(7, pt p 0)] (by kernel_rfl) rfl ?_
  refine GL.sem (j := 4) (H.ld (o := 0) (ty := 28) (v := .slice A n c) 0 rfl (by kernel_rfl) rfl) [8] [(8, .slice A n c)] (by kernel_rfl) (by kernel_rfl) rfl ?_
  have hl14 := (H.rowLe 1 rfl).2.1
  rw [by8_length, Nat.mul_one] at hl14
  refine GL.call (j := 5) (Clone_calls bs A n c w (H.rdRow 1 rfl) (by omega) (by omega)) (by kernel_rfl) rfl (fun e_ w13 hR => ?_)
  obtain ⟨A9, c10, rfl, H12⟩ := hR
  have H11 : Hp w S [.blk p [.slice A n c] 57, .row A n c 5 1 (by8 bs), .row A9 n c10 5 1 (by8 bs)] w13 := H.callNew H12
  refine ⟨_, rfl, [9], [(9, .slice A9 n c10)], by kernel_rfl, ?_⟩
  refine GL.run (j := 6) 1 [2] [(2, .slice A9 n c10)] (by kernel_rfl) rfl ?_
  refine GL.k rfl hK8 (fun _ _ h => h) ?_
  refine G.ret ?_
  intro F_ hF_ hM_
  refine hRet _ _ (bodyPost_1 rfl (RV.tmp rfl) ?_ F_ hF_ hM_)
  exact ⟨_, _, rfl, H11⟩
theorem WRaw_calls (S : List Nat) (p : Nat) (A : Option Addr) (n c : Nat) (bs : List UInt8) (B : Option Addr) (m d : Nat) (ys : List UInt8) (w : World) (h0 : Hp w S [.blk p [.slice A n c] 57, .row A n c 5 1 (by8 bs)] w) (hn : n ≤ 1000000) (hx : RdO w S B (by8 ys)) (hm : m = ys.length) (hmb : m ≤ 100000) : Calls Try.prog 23 #[pt p 0, .slice B m d] w fun e w' => ∃ A c, e = .returned (.tuple #[]) ∧ Hp w S [.blk p [.slice A (n + m) c] 57, .row A (n + m) c 5 1 (by8 (bs ++ ys))] w' := by
  refine calls_G (args := [pt p 0, .slice B m d]) Try.func23 rfl Try.ntmps23 rfl ?_
  intro Q0 hRet hNor hPan
  have H := h0
  have H : Hp w S [.blk p [.slice A n c] 57, .row A n c 5 1 (by8 bs)] w := H
  refine G.seqK fun K1 hK2 => ?_
  refine G.region ?_
  refine GL.run (j := 2) 2 [0, 1, 5] [(0, pt p 0), (1, .slice B m d), (5, .bool true)] (by kernel_rfl) rfl ?_
  refine GL.k rfl hK2 (fun _ _ h => h) ?_
  refine G.yes rfl ?_
  refine G.region ?_
  refine GL.run (j := 4) 4 [1, 6, 9] [(1, .slice B m d), (6, pt p 0), (9, pt p 0)] (by kernel_rfl) rfl ?_
  refine GL.sem (j := 5) (H.ld (o := 0) (ty := 28) (v := .slice A n c) 0 rfl (by kernel_rfl) rfl) [1, 6, 10] [(1, .slice B m d), (6, pt p 0), (10, .slice A n c)] (by kernel_rfl) (by kernel_rfl) rfl ?_
  refine GL.run (j := 6) 1 [6, 10, 11] [(6, pt p 0), (10, .slice A n c), (11, .slice B m d)] (by kernel_rfl) rfl ?_
  obtain ⟨A3, c4, w5, r6, H7⟩ := H.append (P := Try.prog) (e := 5) (sz := 1) (by_ := 1) (n := n) (c := c) (m := m) (d := d) (t := 28) (ty := 28) (xs := by8 bs) (news := by8 ys) 1 rfl (by kernel_rfl) (hx.hp H) (by first | (simp [by8_length]; done) | (rw [by8_length]; omega) | (rw [by8_length, putB_length])) (by8_one _) (by omega) (by simp only [maxLen]; omega)
  rw [← by8_append] at H7
  have H7 : Hp w S [.blk p [.slice A n c] 57, .row A3 (n + m) c4 5 1 (by8 (bs ++ ys))] w5 := H7
  refine GL.sem (j := 7) (r6) [6, 12] [(6, pt p 0), (12, .slice A3 (n + m) c4)] (by kernel_rfl) (by kernel_rfl) rfl ?_
  refine GL.run (j := 9) 2 [12, 14] [(12, .slice A3 (n + m) c4), (14, pt p 0)] (by kernel_rfl) rfl ?_
  obtain ⟨w8, r9, H10⟩ := H7.st (P := Try.prog) (o := 0) (ty := 28) (v := .slice A3 (n + m) c4) 0 rfl (by kernel_rfl) (by simp) rfl
  have H10 : Hp w S [.blk p [.slice A3 (n + m) c4] 57, .row A3 (n + m) c4 5 1 (by8 (bs ++ ys))] w8 := H10
  refine GL.semU (j := 10) r9 [] [] (by kernel_rfl) rfl rfl rfl ?_
  refine GL.done rfl ?_
  intro F_ hF_ hM_
  refine hNor _ _ (bodyPost_0 rfl  ?_ F_ hF_ hM_)
  exact ⟨_, _, rfl, H10⟩
end Go.Proofs.Ytdepaaphgfapjaa
