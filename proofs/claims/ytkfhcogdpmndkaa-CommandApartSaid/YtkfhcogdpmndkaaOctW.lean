/- Package octet: what is written. -/
import Derived.Test.YtkfhcogdpmndkaaRows
import Derived.Test.YtkfhcogdpmndkaaOa
import Derived.Test.YtkfhcogdpmndkaaRa
namespace Go.Proofs.Ytkfhcogdpmndkaa
open Go.RowKit
theorem getD8 {bs : List UInt8} {k : Nat} (h : k < bs.length) : bs[k]? = some (bs.getD k 0) := by rw [List.getD_eq_getElem?_getD, List.getElem?_eq_getElem h]; rfl
theorem Clone_some (xs : List UInt8) (A : Option Addr) (n c : Nat) (w : World) (hA : A.isNone = false) (hx : RdS w A (by8 xs)) (hn : n = xs.length) (hb : n ≤ 1099511627776) : Calls Try.prog 34 #[.slice A n c] w fun e w' => ∃ A c, e = .returned (.slice A n c) ∧ Hp w [] [.row A n c 5 1 (by8 xs)] w' := by
  refine calls_G (args := [.slice A n c]) Try.func34 rfl Try.ntmps34 rfl ?_
  intro Q0 hRet hNor hPan
  have H := Hp.start w
  have H : Hp w [] [] w := H
  refine G.seqK fun K1 hK2 => ?_
  refine G.region ?_
  refine GL.run (j := 1) 1 [0] [(0, .slice A n c)] (by kernel_rfl) rfl ?_
  refine GL.k rfl hK2 (fun _ _ h => h) ?_
  refine G.seqK fun K3 hK4 => ?_
  refine G.seqK fun K5 hK6 => ?_
  refine G.region ?_
  refine GL.run (j := 1) 1 [0, 3] [(0, .slice A n c), (3, .slice A n c)] (by kernel_rfl) rfl ?_
  refine GL.sem (j := 2) (run_sl_nil (P := Try.prog) (sz := 1) (t := 26) (n := n) (c := c) (A := A) (by kernel_rfl) _) [0, 4] [(0, .slice A n c), (4, .bool (Option.isNone A))] (by kernel_rfl) (by kernel_rfl) rfl ?_
  refine GL.k rfl hK6 (fun _ _ h => h) ?_
  have hb7 : (Option.isNone A) = false := hA
  rw [hb7]
  refine G.no rfl ?_
  refine G.skipK hK4 (fun _ _ h => h) ?_
  refine G.seqK fun K8 hK9 => ?_
  refine G.region ?_
  obtain ⟨p10, w11, r12, H13⟩ := H.madeRow (P := Try.prog) (Instr.buildSlice 26 0 #[]) (fun b_ => .slice (some ⟨b_, 0, none⟩) 0 0) [] 5 0 0 1 (by kernel_rfl) (by decide) (by decide) rfl
  have H13 : Hp w [] [.row (some ⟨p10, 0, none⟩) 0 0 5 1 (by8 ([] : List UInt8))] w11 := H13
  refine GL.sem (j := 1) (r12) [0, 5] [(0, .slice A n c), (5, .slice (some ⟨p10, 0, none⟩) 0 0)] (by kernel_rfl) (by kernel_rfl) rfl ?_
  refine GL.run (j := 2) 1 [5, 6] [(5, .slice (some ⟨p10, 0, none⟩) 0 0), (6, .slice A n c)] (by kernel_rfl) rfl ?_
  obtain ⟨A14, c15, w16, r17, H18⟩ := H13.append (P := Try.prog) (e := 5) (sz := 1) (by_ := 1) (n := 0) (c := 0) (m := n) (d := c) (t := 26) (ty := 26) (xs := by8 ([] : List UInt8)) (news := by8 xs) 0 rfl (by kernel_rfl) (hx.hp H13) (by first | (simp [by8_length]; done) | (rw [by8_length]; omega) | (rw [by8_length, putB_length])) (by8_one _) (by omega) (by simp only [maxLen]; omega)
  rw [Nat.zero_add] at r17 H18
  have H18 : Hp w [] [.row A14 n c15 5 1 (by8 xs)] w16 := H18
  refine GL.sem (j := 3) (r17) [7] [(7, .slice A14 n c15)] (by kernel_rfl) (by kernel_rfl) rfl ?_
  refine GL.run (j := 4) 1 [2] [(2, .slice A14 n c15)] (by kernel_rfl) rfl ?_
  refine GL.k rfl hK9 (fun _ _ h => h) ?_
  refine G.ret ?_
  intro F_ hF_ hM_
  refine hRet _ _ (bodyPost_1 rfl (RV.tmp rfl) ?_ F_ hF_ hM_)
  exact ⟨_, _, rfl, H18.sub (by simp)⟩
theorem Clone_nil (xs : List UInt8) (n c : Nat) (w : World) (hx : RdS w none (by8 [])) (hn : n = 0) (hb : n ≤ 1099511627776) : Calls Try.prog 34 #[.slice none n c] w fun e w' => ∃ A c, e = .returned (.slice A n c) ∧ Hp w [] [.row A n c 5 1 (by8 [])] w' := by
  refine calls_G (args := [.slice none n c]) Try.func34 rfl Try.ntmps34 rfl ?_
  intro Q0 hRet hNor hPan
  have H := Hp.start w
  have H : Hp w [] [] w := H
  refine G.seqK fun K1 hK2 => ?_
  refine G.region ?_
  refine GL.run (j := 1) 1 [0] [(0, .slice none n c)] (by kernel_rfl) rfl ?_
  refine GL.k rfl hK2 (fun _ _ h => h) ?_
  refine G.seqK fun K3 hK4 => ?_
  refine G.seqK fun K5 hK6 => ?_
  refine G.region ?_
  refine GL.run (j := 1) 1 [0, 3] [(0, .slice none n c), (3, .slice none n c)] (by kernel_rfl) rfl ?_
  refine GL.sem (j := 2) (run_sl_nil (P := Try.prog) (sz := 1) (t := 26) (n := n) (c := c) (A := none) (by kernel_rfl) _) [0, 4] [(0, .slice none n c), (4, .bool true)] (by kernel_rfl) (by kernel_rfl) rfl ?_
  refine GL.k rfl hK6 (fun _ _ h => h) ?_
  refine G.yes rfl ?_
  refine G.seqK fun K7 hK8 => ?_
  refine G.region ?_
  refine GL.run (j := 1) 1 [2] [(2, .slice none 0 0)] (by kernel_rfl) rfl ?_
  refine GL.k rfl hK8 (fun _ _ h => h) ?_
  refine G.ret ?_
  intro F_ hF_ hM_
  refine hRet _ _ (bodyPost_1 rfl (RV.tmp rfl) ?_ F_ hF_ hM_)
  obtain rfl : n = 0 := by omega
  exact ⟨none, 0, rfl, H.rowNil 5 1⟩
theorem Clone_calls (xs : List UInt8) (A : Option Addr) (n c : Nat) (w : World) (hx : RdS w A (by8 xs)) (hn : n = xs.length) (hb : n ≤ 1099511627776) : Calls Try.prog 34 #[.slice A n c] w fun e w' => ∃ A c, e = .returned (.slice A n c) ∧ Hp w [] [.row A n c 5 1 (by8 xs)] w' := by
  cases A with
  | some a => exact Clone_some xs (some a) n c w rfl hx hn hb
  | none =>
    have hxs : xs = [] := by
      rcases hx with h | ⟨a, h, _⟩
      · simpa [by8] using h
      · cases h
    subst hxs
    exact Clone_nil [] n c w hx hn hb
theorem Put1_calls (S : List Nat) (p : Nat) (A : Option Addr) (n c : Nat) (bs : List UInt8) (x : Nat) (w : World) (h0 : Hp w S [.blk p [.slice A n c] 53, .row A n c 5 1 (by8 bs)] w) (hn : n ≤ 1000000) : Calls Try.prog 19 #[pt p 0, .int .u64 (x : Int), .int .i64 1] w fun e w' => ∃ A c, e = .returned (.tuple #[]) ∧ Hp w S [.blk p [.slice A (n + 1) c] 53, .row A (n + 1) c 5 1 (by8 (bs ++ putB x 1))] w' := by
  refine calls_G (args := [pt p 0, .int .u64 (x : Int), .int .i64 1]) Try.func19 rfl Try.ntmps19 rfl ?_
  intro Q0 hRet hNor hPan
  have H := h0
  have H : Hp w S [.blk p [.slice A n c] 53, .row A n c 5 1 (by8 bs)] w := H
  refine G.seqK fun K1 hK2 => ?_
  refine G.seqK fun K3 hK4 => ?_
  refine G.region ?_
  refine GL.run (j := 2) 2 [0, 1, 2, 7] [(0, pt p 0), (1, .int .u64 (x : Int)), (2, .int .i64 1), (7, .bool false)] (by kernel_rfl) rfl ?_
  refine GL.k rfl hK4 (fun _ _ h => h) ?_
  refine G.no rfl ?_
  refine G.skipK hK2 (fun _ _ h => h) ?_
  refine G.seqK fun K5 hK6 => ?_
  refine G.region ?_
  refine GL.run (j := 1) 1 [0, 1, 2, 8] [(0, pt p 0), (1, .int .u64 (x : Int)), (2, .int .i64 1), (8, .int .i64 1)] (by kernel_rfl) rfl ?_
  refine GL.k rfl hK6 (fun _ _ h => h) ?_
  refine G.block ?_
  refine G.seqK fun K7 hK8 => ?_
  refine G.seqK fun K9 hK10 => ?_
  refine G.region ?_
  refine GL.run (j := 2) 2 [0, 1, 2, 8, 9] [(0, pt p 0), (1, .int .u64 (x : Int)), (2, .int .i64 1), (8, .int .i64 1), (9, .bool true)] (by kernel_rfl) rfl ?_
  refine GL.k rfl hK10 (fun _ _ h => h) ?_
  refine G.yes rfl ?_
  refine G.skipK hK8 (fun _ _ h => h) ?_
  refine G.yes rfl ?_
  refine G.seqK fun K11 hK12 => ?_
  refine G.region ?_
  refine GL.run (j := 2) 2 [0, 1, 14, 15] [(0, pt p 0), (1, .int .u64 (x : Int)), (14, .int .i64 1), (15, .int .i64 0)] (by kernel_rfl) rfl ?_
  refine GL.k rfl hK12 (fun _ _ h => h) ?_
  refine G.block ?_
  have H13 : Hp w S [.blk p [.slice A (n + 0) c] 53, .row A (n + 0) c 5 1 (by8 (bs ++ putB x 0))] w := by rw [show putB x 0 = [] from rfl, List.append_nil]; exact H
  refine G.fit [0, 1, 14, 15] (M' := [(0, pt p 0), (1, .int .u64 (x : Int)), (14, .int .i64 1), (15, .int .i64 0)]) (by kernel_rfl) ?_
  refine G.eq (M' := [(0, pt p 0), (1, .int .u64 ((x / 256 ^ 0 : Nat) : Int)), (14, .int .i64 1), (15, .int .i64 0)]) (by simp only [Nat.pow_zero, Nat.div_one]) ?_
  refine G.loop (X := Nat × Option Addr × Nat) (fun ⟨i, B_, b_⟩ => [(0, pt p 0), (1, .int .u64 ((x / 256 ^ i : Nat) : Int)), (14, .int .i64 1), (15, .int .i64 (i : Int))]) (fun ⟨i, B_, b_⟩ w_ => (i ≤ 1) ∧ Hp w S [.blk p [.slice B_ (n + i) b_] 53, .row B_ (n + i) b_ 5 1 (by8 (bs ++ putB x i))] w_) (fun ⟨i, B_, b_⟩ => 1 - i) ⟨0, A, c⟩ [0, 1, 14, 15] (by kernel_rfl) ⟨by omega, H13⟩ ?_
  rintro ⟨i, B_, b_⟩ w14 ⟨hi15, H16⟩
  refine G.eq (M' := [(0, pt p 0), (1, .int .u64 ((x / 256 ^ i : Nat) : Int)), (14, .int .i64 1), (15, .int .i64 (i : Int))]) rfl ?_
  have H16 : Hp w S [.blk p [.slice B_ (n + i) b_] 53, .row B_ (n + i) b_ 5 1 (by8 (bs ++ putB x i))] w14 := H16
  have hi9 := hi15
  refine G.seqK fun K17 hK18 => ?_
  refine G.region ?_
  refine GL.run (j := 1) 1 [0, 1, 14, 15, 16] [(0, pt p 0), (1, .int .u64 ((x / 256 ^ i : Nat) : Int)), (14, .int .i64 1), (15, .int .i64 (i : Int)), (16, .bool (decide ((i : Int) < 1)))] (by kernel_rfl) rfl ?_
  refine GL.k rfl hK18 (fun _ _ h => h) ?_
  refine G.seqK fun K19 hK20 => ?_
  cases hb21 : (decide ((i : Int) < 1))
  · skip
    have hb21f := of_decide_eq_false hb21
    refine G.no rfl ?_
    -- exit to the end
    refine fun F_ hF_ hM_ => wp_exit ?_
    refine hNor _ _ (bodyPost_0 rfl  ?_ F_ hF_ hM_)
    have HF := H16
    rw [show i = 1 by omega] at HF
    exact ⟨_, _, rfl, HF⟩
  · skip
    have hb21f := of_decide_eq_true hb21
    refine G.yes rfl ?_
    refine G.skipK hK20 (fun _ _ h => h) ?_
    refine G.seqK fun K22 hK23 => ?_
    refine G.block ?_
    refine G.seqK fun K24 hK25 => ?_
    refine G.region ?_
    refine GL.run (j := 4) 4 [0, 1, 14, 15, 17, 20] [(0, pt p 0), (1, .int .u64 ((x / 256 ^ i : Nat) : Int)), (14, .int .i64 1), (15, .int .i64 (i : Int)), (17, pt p 0), (20, pt p 0)] (by kernel_rfl) rfl ?_
    refine GL.sem (j := 5) (H16.ld (o := 0) (ty := 26) (v := .slice B_ (n + i) b_) 0 rfl (by kernel_rfl) rfl) [0, 1, 14, 15, 17, 21] [(0, pt p 0), (1, .int .u64 ((x / 256 ^ i : Nat) : Int)), (14, .int .i64 1), (15, .int .i64 (i : Int)), (17, pt p 0), (21, .slice B_ (n + i) b_)] (by kernel_rfl) (by kernel_rfl) rfl ?_
    refine GL.run (j := 7) 2 [0, 1, 14, 15, 17, 21, 23] [(0, pt p 0), (1, .int .u64 ((x / 256 ^ i : Nat) : Int)), (14, .int .i64 1), (15, .int .i64 (i : Int)), (17, pt p 0), (21, .slice B_ (n + i) b_), (23, .int .u8 (IntKind.u8.wrap ((x / 256 ^ i : Nat) : Int)))] (by kernel_rfl) rfl ?_
    have e26 : (IntKind.u8.wrap ((x / 256 ^ i : Nat) : Int)) = ((UInt8.ofNat (x / 256 ^ i)).toNat : Int) := n_byte _
    refine GL.eq (M' := [(0, pt p 0), (1, .int .u64 ((x / 256 ^ i : Nat) : Int)), (14, .int .i64 1), (15, .int .i64 (i : Int)), (17, pt p 0), (21, .slice B_ (n + i) b_), (23, .int .u8 ((UInt8.ofNat (x / 256 ^ i)).toNat : Int))]) (by rw [e26]) ?_
    clear e26
    obtain ⟨p27, w28, r29, H30⟩ := H16.made (P := Try.prog) (Instr.buildSlice 26 1 #[(0, .int .u8 ((UInt8.ofNat (x / 256 ^ i)).toNat : Int))]) (fun b_ => .slice (some ⟨b_, 0, none⟩) 1 1) [.int .u8 ((UInt8.ofNat (x / 256 ^ i)).toNat : Int)] 5 (by kernel_rfl)
    have H30 : Hp w S [.blk p [.slice B_ (n + i) b_] 53, .row B_ (n + i) b_ 5 1 (by8 (bs ++ putB x i)), .blk p27 [.int .u8 ((UInt8.ofNat (x / 256 ^ i)).toNat : Int)] 5] w28 := H30
    refine GL.sem (j := 8) (r29) [0, 1, 14, 15, 17, 21, 24] [(0, pt p 0), (1, .int .u64 ((x / 256 ^ i : Nat) : Int)), (14, .int .i64 1), (15, .int .i64 (i : Int)), (17, pt p 0), (21, .slice B_ (n + i) b_), (24, .slice (some ⟨p27, 0, none⟩) 1 1)] (by kernel_rfl) (by kernel_rfl) rfl ?_
    obtain ⟨A31, c32, w33, r34, H35⟩ := H30.append (P := Try.prog) (e := 5) (sz := 1) (by_ := 1) (n := (n + i)) (c := b_) (m := 1) (d := 1) (t := 26) (ty := 26) (xs := by8 (bs ++ putB x i)) (news := by8 ([(UInt8.ofNat (x / 256 ^ i))] : List UInt8)) 1 rfl (by kernel_rfl) (H30.rdBlk (o := 0) (xs := by8 ([(UInt8.ofNat (x / 256 ^ i))] : List UInt8)) 2 1 rfl rfl) (by first | (simp [by8_length]; done) | (rw [by8_length]; omega) | (rw [by8_length, putB_length])) (by8_one _) (by omega) (by simp only [maxLen]; omega)
    rw [← by8_append] at H35
    have H35 : Hp w S [.blk p [.slice B_ (n + i) b_] 53, .row A31 ((n + i) + 1) c32 5 1 (by8 ((bs ++ putB x i) ++ ([(UInt8.ofNat (x / 256 ^ i))] : List UInt8))), .blk p27 [.int .u8 ((UInt8.ofNat (x / 256 ^ i)).toNat : Int)] 5] w33 := H35
    refine GL.sem (j := 9) (r34) [0, 1, 14, 15, 17, 25] [(0, pt p 0), (1, .int .u64 ((x / 256 ^ i : Nat) : Int)), (14, .int .i64 1), (15, .int .i64 (i : Int)), (17, pt p 0), (25, .slice A31 ((n + i) + 1) c32)] (by kernel_rfl) (by kernel_rfl) rfl ?_
    refine GL.run (j := 11) 2 [0, 1, 14, 15, 25, 27] [(0, pt p 0), (1, .int .u64 ((x / 256 ^ i : Nat) : Int)), (14, .int .i64 1), (15, .int .i64 (i : Int)), (25, .slice A31 ((n + i) + 1) c32), (27, pt p 0)] (by kernel_rfl) rfl ?_
    obtain ⟨w36, r37, H38⟩ := H35.st (P := Try.prog) (o := 0) (ty := 26) (v := .slice A31 ((n + i) + 1) c32) 0 rfl (by kernel_rfl) (by simp) rfl
    have H38 : Hp w S [.blk p [.slice A31 ((n + i) + 1) c32] 53, .row A31 ((n + i) + 1) c32 5 1 (by8 ((bs ++ putB x i) ++ ([(UInt8.ofNat (x / 256 ^ i))] : List UInt8))), .blk p27 [.int .u8 ((UInt8.ofNat (x / 256 ^ i)).toNat : Int)] 5] w36 := H38
    refine GL.semU (j := 12) r37 [0, 1, 14, 15] [(0, pt p 0), (1, .int .u64 ((x / 256 ^ i : Nat) : Int)), (14, .int .i64 1), (15, .int .i64 (i : Int))] (by kernel_rfl) rfl rfl rfl ?_
    refine GL.k rfl hK25 (fun _ _ h => h) ?_
    refine G.region ?_
    refine GL.run (j := 3) 3 [0, 1, 14, 15] [(0, pt p 0), (1, .int .u64 (Int.fdiv ((x / 256 ^ i : Nat) : Int) (2 ^ 8))), (14, .int .i64 1), (15, .int .i64 (i : Int))] (by kernel_rfl) rfl ?_
    have e39 : (Int.fdiv ((x / 256 ^ i : Nat) : Int) (2 ^ 8)) = (((x / 256 ^ i) / 256 : Nat) : Int) := n_shr _ 8
    refine GL.eq (M' := [(0, pt p 0), (1, .int .u64 (((x / 256 ^ i) / 256 : Nat) : Int)), (14, .int .i64 1), (15, .int .i64 (i : Int))]) (by rw [e39]) ?_
    clear e39
    refine GL.k rfl hK23 (fun _ _ h => h) ?_
    refine G.region ?_
    refine GL.run (j := 2) 2 [0, 1, 14, 15] [(0, pt p 0), (1, .int .u64 (((x / 256 ^ i) / 256 : Nat) : Int)), (14, .int .i64 1), (15, .int .i64 (IntKind.i64.wrap ((i : Int) + 1)))] (by kernel_rfl) rfl ?_
    have e40 : (IntKind.i64.wrap ((i : Int) + 1)) = ((i + 1 : Nat) : Int) := by rw [in_i64 (by omega)]; omega
    refine GL.eq (M' := [(0, pt p 0), (1, .int .u64 (((x / 256 ^ i) / 256 : Nat) : Int)), (14, .int .i64 1), (15, .int .i64 ((i + 1 : Nat) : Int))]) (by rw [e40]) ?_
    clear e40
    have H41 : Hp w S [.blk p [.slice A31 ((n + i) + 1) c32] 53, .row A31 ((n + i) + 1) c32 5 1 (by8 ((bs ++ putB x i) ++ ([(UInt8.ofNat (x / 256 ^ i))] : List UInt8)))] w36 := H38.sub (List.Sublist.cons_cons _ (List.Sublist.cons_cons _ (List.Sublist.cons _ (List.Sublist.slnil))))
    have H42 : Hp w S [.blk p [.slice A31 (n + (i + 1)) c32] 53, .row A31 (n + (i + 1)) c32 5 1 (by8 (bs ++ putB x (i + 1)))] w36 := by rw [putB_snoc, ← List.append_assoc]; exact H41
    refine GL.fit (ts := [0, 1, 14, 15]) (M' := [(0, pt p 0), (1, .int .u64 (((x / 256 ^ i) / 256 : Nat) : Int)), (14, .int .i64 1), (15, .int .i64 ((i + 1 : Nat) : Int))]) (by kernel_rfl) ?_
    refine GL.eq (M' := [(0, pt p 0), (1, .int .u64 ((x / 256 ^ (i + 1) : Nat) : Int)), (14, .int .i64 1), (15, .int .i64 (((i + 1) : Nat) : Int))]) (by rw [Nat.pow_succ, ← Nat.div_div_eq_div_mul]) ?_
    exact GL.again ⟨(i + 1), A31, c32⟩ [0, 1, 14, 15] rfl (by kernel_rfl) (by show 1 - (i + 1) < 1 - i; omega) ⟨by omega, H42⟩
theorem Put2_calls (S : List Nat) (p : Nat) (A : Option Addr) (n c : Nat) (bs : List UInt8) (x : Nat) (w : World) (h0 : Hp w S [.blk p [.slice A n c] 53, .row A n c 5 1 (by8 bs)] w) (hn : n ≤ 1000000) : Calls Try.prog 19 #[pt p 0, .int .u64 (x : Int), .int .i64 2] w fun e w' => ∃ A c, e = .returned (.tuple #[]) ∧ Hp w S [.blk p [.slice A (n + 2) c] 53, .row A (n + 2) c 5 1 (by8 (bs ++ putB x 2))] w' := by
  refine calls_G (args := [pt p 0, .int .u64 (x : Int), .int .i64 2]) Try.func19 rfl Try.ntmps19 rfl ?_
  intro Q0 hRet hNor hPan
  have H := h0
  have H : Hp w S [.blk p [.slice A n c] 53, .row A n c 5 1 (by8 bs)] w := H
  refine G.seqK fun K1 hK2 => ?_
  refine G.seqK fun K3 hK4 => ?_
  refine G.region ?_
  refine GL.run (j := 2) 2 [0, 1, 2, 7] [(0, pt p 0), (1, .int .u64 (x : Int)), (2, .int .i64 2), (7, .bool false)] (by kernel_rfl) rfl ?_
  refine GL.k rfl hK4 (fun _ _ h => h) ?_
  refine G.no rfl ?_
  refine G.skipK hK2 (fun _ _ h => h) ?_
  refine G.seqK fun K5 hK6 => ?_
  refine G.region ?_
  refine GL.run (j := 1) 1 [0, 1, 2, 8] [(0, pt p 0), (1, .int .u64 (x : Int)), (2, .int .i64 2), (8, .int .i64 2)] (by kernel_rfl) rfl ?_
  refine GL.k rfl hK6 (fun _ _ h => h) ?_
  refine G.block ?_
  refine G.seqK fun K7 hK8 => ?_
  refine G.seqK fun K9 hK10 => ?_
  refine G.region ?_
  refine GL.run (j := 2) 2 [0, 1, 2, 8, 9] [(0, pt p 0), (1, .int .u64 (x : Int)), (2, .int .i64 2), (8, .int .i64 2), (9, .bool false)] (by kernel_rfl) rfl ?_
  refine GL.k rfl hK10 (fun _ _ h => h) ?_
  refine G.no rfl ?_
  refine G.seqK fun K11 hK12 => ?_
  refine G.region ?_
  refine GL.run (j := 2) 2 [0, 1, 2, 8, 9] [(0, pt p 0), (1, .int .u64 (x : Int)), (2, .int .i64 2), (8, .int .i64 2), (9, .bool true)] (by kernel_rfl) rfl ?_
  refine GL.k rfl hK12 (fun _ _ h => h) ?_
  refine G.yes rfl ?_
  refine G.skipK hK8 (fun _ _ h => h) ?_
  refine G.yes rfl ?_
  refine G.seqK fun K13 hK14 => ?_
  refine G.region ?_
  refine GL.run (j := 2) 2 [0, 1, 14, 15] [(0, pt p 0), (1, .int .u64 (x : Int)), (14, .int .i64 2), (15, .int .i64 0)] (by kernel_rfl) rfl ?_
  refine GL.k rfl hK14 (fun _ _ h => h) ?_
  refine G.block ?_
  have H15 : Hp w S [.blk p [.slice A (n + 0) c] 53, .row A (n + 0) c 5 1 (by8 (bs ++ putB x 0))] w := by rw [show putB x 0 = [] from rfl, List.append_nil]; exact H
  refine G.fit [0, 1, 14, 15] (M' := [(0, pt p 0), (1, .int .u64 (x : Int)), (14, .int .i64 2), (15, .int .i64 0)]) (by kernel_rfl) ?_
  refine G.eq (M' := [(0, pt p 0), (1, .int .u64 ((x / 256 ^ 0 : Nat) : Int)), (14, .int .i64 2), (15, .int .i64 0)]) (by simp only [Nat.pow_zero, Nat.div_one]) ?_
  refine G.loop (X := Nat × Option Addr × Nat) (fun ⟨i, B_, b_⟩ => [(0, pt p 0), (1, .int .u64 ((x / 256 ^ i : Nat) : Int)), (14, .int .i64 2), (15, .int .i64 (i : Int))]) (fun ⟨i, B_, b_⟩ w_ => (i ≤ 2) ∧ Hp w S [.blk p [.slice B_ (n + i) b_] 53, .row B_ (n + i) b_ 5 1 (by8 (bs ++ putB x i))] w_) (fun ⟨i, B_, b_⟩ => 2 - i) ⟨0, A, c⟩ [0, 1, 14, 15] (by kernel_rfl) ⟨by omega, H15⟩ ?_
  rintro ⟨i, B_, b_⟩ w16 ⟨hi17, H18⟩
  refine G.eq (M' := [(0, pt p 0), (1, .int .u64 ((x / 256 ^ i : Nat) : Int)), (14, .int .i64 2), (15, .int .i64 (i : Int))]) rfl ?_
  have H18 : Hp w S [.blk p [.slice B_ (n + i) b_] 53, .row B_ (n + i) b_ 5 1 (by8 (bs ++ putB x i))] w16 := H18
  have hi9 := hi17
  refine G.seqK fun K19 hK20 => ?_
  refine G.region ?_
  refine GL.run (j := 1) 1 [0, 1, 14, 15, 16] [(0, pt p 0), (1, .int .u64 ((x / 256 ^ i : Nat) : Int)), (14, .int .i64 2), (15, .int .i64 (i : Int)), (16, .bool (decide ((i : Int) < 2)))] (by kernel_rfl) rfl ?_
  refine GL.k rfl hK20 (fun _ _ h => h) ?_
  refine G.seqK fun K21 hK22 => ?_
  cases hb23 : (decide ((i : Int) < 2))
  · skip
    have hb23f := of_decide_eq_false hb23
    refine G.no rfl ?_
    -- exit to the end
    refine fun F_ hF_ hM_ => wp_exit ?_
    refine hNor _ _ (bodyPost_0 rfl  ?_ F_ hF_ hM_)
    have HF := H18
    rw [show i = 2 by omega] at HF
    exact ⟨_, _, rfl, HF⟩
  · skip
    have hb23f := of_decide_eq_true hb23
    refine G.yes rfl ?_
    refine G.skipK hK22 (fun _ _ h => h) ?_
    refine G.seqK fun K24 hK25 => ?_
    refine G.block ?_
    refine G.seqK fun K26 hK27 => ?_
    refine G.region ?_
    refine GL.run (j := 4) 4 [0, 1, 14, 15, 17, 20] [(0, pt p 0), (1, .int .u64 ((x / 256 ^ i : Nat) : Int)), (14, .int .i64 2), (15, .int .i64 (i : Int)), (17, pt p 0), (20, pt p 0)] (by kernel_rfl) rfl ?_
    refine GL.sem (j := 5) (H18.ld (o := 0) (ty := 26) (v := .slice B_ (n + i) b_) 0 rfl (by kernel_rfl) rfl) [0, 1, 14, 15, 17, 21] [(0, pt p 0), (1, .int .u64 ((x / 256 ^ i : Nat) : Int)), (14, .int .i64 2), (15, .int .i64 (i : Int)), (17, pt p 0), (21, .slice B_ (n + i) b_)] (by kernel_rfl) (by kernel_rfl) rfl ?_
    refine GL.run (j := 7) 2 [0, 1, 14, 15, 17, 21, 23] [(0, pt p 0), (1, .int .u64 ((x / 256 ^ i : Nat) : Int)), (14, .int .i64 2), (15, .int .i64 (i : Int)), (17, pt p 0), (21, .slice B_ (n + i) b_), (23, .int .u8 (IntKind.u8.wrap ((x / 256 ^ i : Nat) : Int)))] (by kernel_rfl) rfl ?_
    have e28 : (IntKind.u8.wrap ((x / 256 ^ i : Nat) : Int)) = ((UInt8.ofNat (x / 256 ^ i)).toNat : Int) := n_byte _
    refine GL.eq (M' := [(0, pt p 0), (1, .int .u64 ((x / 256 ^ i : Nat) : Int)), (14, .int .i64 2), (15, .int .i64 (i : Int)), (17, pt p 0), (21, .slice B_ (n + i) b_), (23, .int .u8 ((UInt8.ofNat (x / 256 ^ i)).toNat : Int))]) (by rw [e28]) ?_
    clear e28
    obtain ⟨p29, w30, r31, H32⟩ := H18.made (P := Try.prog) (Instr.buildSlice 26 1 #[(0, .int .u8 ((UInt8.ofNat (x / 256 ^ i)).toNat : Int))]) (fun b_ => .slice (some ⟨b_, 0, none⟩) 1 1) [.int .u8 ((UInt8.ofNat (x / 256 ^ i)).toNat : Int)] 5 (by kernel_rfl)
    have H32 : Hp w S [.blk p [.slice B_ (n + i) b_] 53, .row B_ (n + i) b_ 5 1 (by8 (bs ++ putB x i)), .blk p29 [.int .u8 ((UInt8.ofNat (x / 256 ^ i)).toNat : Int)] 5] w30 := H32
    refine GL.sem (j := 8) (r31) [0, 1, 14, 15, 17, 21, 24] [(0, pt p 0), (1, .int .u64 ((x / 256 ^ i : Nat) : Int)), (14, .int .i64 2), (15, .int .i64 (i : Int)), (17, pt p 0), (21, .slice B_ (n + i) b_), (24, .slice (some ⟨p29, 0, none⟩) 1 1)] (by kernel_rfl) (by kernel_rfl) rfl ?_
    obtain ⟨A33, c34, w35, r36, H37⟩ := H32.append (P := Try.prog) (e := 5) (sz := 1) (by_ := 1) (n := (n + i)) (c := b_) (m := 1) (d := 1) (t := 26) (ty := 26) (xs := by8 (bs ++ putB x i)) (news := by8 ([(UInt8.ofNat (x / 256 ^ i))] : List UInt8)) 1 rfl (by kernel_rfl) (H32.rdBlk (o := 0) (xs := by8 ([(UInt8.ofNat (x / 256 ^ i))] : List UInt8)) 2 1 rfl rfl) (by first | (simp [by8_length]; done) | (rw [by8_length]; omega) | (rw [by8_length, putB_length])) (by8_one _) (by omega) (by simp only [maxLen]; omega)
    rw [← by8_append] at H37
    have H37 : Hp w S [.blk p [.slice B_ (n + i) b_] 53, .row A33 ((n + i) + 1) c34 5 1 (by8 ((bs ++ putB x i) ++ ([(UInt8.ofNat (x / 256 ^ i))] : List UInt8))), .blk p29 [.int .u8 ((UInt8.ofNat (x / 256 ^ i)).toNat : Int)] 5] w35 := H37
    refine GL.sem (j := 9) (r36) [0, 1, 14, 15, 17, 25] [(0, pt p 0), (1, .int .u64 ((x / 256 ^ i : Nat) : Int)), (14, .int .i64 2), (15, .int .i64 (i : Int)), (17, pt p 0), (25, .slice A33 ((n + i) + 1) c34)] (by kernel_rfl) (by kernel_rfl) rfl ?_
    refine GL.run (j := 11) 2 [0, 1, 14, 15, 25, 27] [(0, pt p 0), (1, .int .u64 ((x / 256 ^ i : Nat) : Int)), (14, .int .i64 2), (15, .int .i64 (i : Int)), (25, .slice A33 ((n + i) + 1) c34), (27, pt p 0)] (by kernel_rfl) rfl ?_
    obtain ⟨w38, r39, H40⟩ := H37.st (P := Try.prog) (o := 0) (ty := 26) (v := .slice A33 ((n + i) + 1) c34) 0 rfl (by kernel_rfl) (by simp) rfl
    have H40 : Hp w S [.blk p [.slice A33 ((n + i) + 1) c34] 53, .row A33 ((n + i) + 1) c34 5 1 (by8 ((bs ++ putB x i) ++ ([(UInt8.ofNat (x / 256 ^ i))] : List UInt8))), .blk p29 [.int .u8 ((UInt8.ofNat (x / 256 ^ i)).toNat : Int)] 5] w38 := H40
    refine GL.semU (j := 12) r39 [0, 1, 14, 15] [(0, pt p 0), (1, .int .u64 ((x / 256 ^ i : Nat) : Int)), (14, .int .i64 2), (15, .int .i64 (i : Int))] (by kernel_rfl) rfl rfl rfl ?_
    refine GL.k rfl hK27 (fun _ _ h => h) ?_
    refine G.region ?_
    refine GL.run (j := 3) 3 [0, 1, 14, 15] [(0, pt p 0), (1, .int .u64 (Int.fdiv ((x / 256 ^ i : Nat) : Int) (2 ^ 8))), (14, .int .i64 2), (15, .int .i64 (i : Int))] (by kernel_rfl) rfl ?_
    have e41 : (Int.fdiv ((x / 256 ^ i : Nat) : Int) (2 ^ 8)) = (((x / 256 ^ i) / 256 : Nat) : Int) := n_shr _ 8
    refine GL.eq (M' := [(0, pt p 0), (1, .int .u64 (((x / 256 ^ i) / 256 : Nat) : Int)), (14, .int .i64 2), (15, .int .i64 (i : Int))]) (by rw [e41]) ?_
    clear e41
    refine GL.k rfl hK25 (fun _ _ h => h) ?_
    refine G.region ?_
    refine GL.run (j := 2) 2 [0, 1, 14, 15] [(0, pt p 0), (1, .int .u64 (((x / 256 ^ i) / 256 : Nat) : Int)), (14, .int .i64 2), (15, .int .i64 (IntKind.i64.wrap ((i : Int) + 1)))] (by kernel_rfl) rfl ?_
    have e42 : (IntKind.i64.wrap ((i : Int) + 1)) = ((i + 1 : Nat) : Int) := by rw [in_i64 (by omega)]; omega
    refine GL.eq (M' := [(0, pt p 0), (1, .int .u64 (((x / 256 ^ i) / 256 : Nat) : Int)), (14, .int .i64 2), (15, .int .i64 ((i + 1 : Nat) : Int))]) (by rw [e42]) ?_
    clear e42
    have H43 : Hp w S [.blk p [.slice A33 ((n + i) + 1) c34] 53, .row A33 ((n + i) + 1) c34 5 1 (by8 ((bs ++ putB x i) ++ ([(UInt8.ofNat (x / 256 ^ i))] : List UInt8)))] w38 := H40.sub (List.Sublist.cons_cons _ (List.Sublist.cons_cons _ (List.Sublist.cons _ (List.Sublist.slnil))))
    have H44 : Hp w S [.blk p [.slice A33 (n + (i + 1)) c34] 53, .row A33 (n + (i + 1)) c34 5 1 (by8 (bs ++ putB x (i + 1)))] w38 := by rw [putB_snoc, ← List.append_assoc]; exact H43
    refine GL.fit (ts := [0, 1, 14, 15]) (M' := [(0, pt p 0), (1, .int .u64 (((x / 256 ^ i) / 256 : Nat) : Int)), (14, .int .i64 2), (15, .int .i64 ((i + 1 : Nat) : Int))]) (by kernel_rfl) ?_
    refine GL.eq (M' := [(0, pt p 0), (1, .int .u64 ((x / 256 ^ (i + 1) : Nat) : Int)), (14, .int .i64 2), (15, .int .i64 (((i + 1) : Nat) : Int))]) (by rw [Nat.pow_succ, ← Nat.div_div_eq_div_mul]) ?_
    exact GL.again ⟨(i + 1), A33, c34⟩ [0, 1, 14, 15] rfl (by kernel_rfl) (by show 2 - (i + 1) < 2 - i; omega) ⟨by omega, H44⟩
theorem Put4_calls (S : List Nat) (p : Nat) (A : Option Addr) (n c : Nat) (bs : List UInt8) (x : Nat) (w : World) (h0 : Hp w S [.blk p [.slice A n c] 53, .row A n c 5 1 (by8 bs)] w) (hn : n ≤ 1000000) : Calls Try.prog 19 #[pt p 0, .int .u64 (x : Int), .int .i64 4] w fun e w' => ∃ A c, e = .returned (.tuple #[]) ∧ Hp w S [.blk p [.slice A (n + 4) c] 53, .row A (n + 4) c 5 1 (by8 (bs ++ putB x 4))] w' := by
  refine calls_G (args := [pt p 0, .int .u64 (x : Int), .int .i64 4]) Try.func19 rfl Try.ntmps19 rfl ?_
  intro Q0 hRet hNor hPan
  have H := h0
  have H : Hp w S [.blk p [.slice A n c] 53, .row A n c 5 1 (by8 bs)] w := H
  refine G.seqK fun K1 hK2 => ?_
  refine G.seqK fun K3 hK4 => ?_
  refine G.region ?_
  refine GL.run (j := 2) 2 [0, 1, 2, 7] [(0, pt p 0), (1, .int .u64 (x : Int)), (2, .int .i64 4), (7, .bool false)] (by kernel_rfl) rfl ?_
  refine GL.k rfl hK4 (fun _ _ h => h) ?_
  refine G.no rfl ?_
  refine G.skipK hK2 (fun _ _ h => h) ?_
  refine G.seqK fun K5 hK6 => ?_
  refine G.region ?_
  refine GL.run (j := 1) 1 [0, 1, 2, 8] [(0, pt p 0), (1, .int .u64 (x : Int)), (2, .int .i64 4), (8, .int .i64 4)] (by kernel_rfl) rfl ?_
  refine GL.k rfl hK6 (fun _ _ h => h) ?_
  refine G.block ?_
  refine G.seqK fun K7 hK8 => ?_
  refine G.seqK fun K9 hK10 => ?_
  refine G.region ?_
  refine GL.run (j := 2) 2 [0, 1, 2, 8, 9] [(0, pt p 0), (1, .int .u64 (x : Int)), (2, .int .i64 4), (8, .int .i64 4), (9, .bool false)] (by kernel_rfl) rfl ?_
  refine GL.k rfl hK10 (fun _ _ h => h) ?_
  refine G.no rfl ?_
  refine G.seqK fun K11 hK12 => ?_
  refine G.region ?_
  refine GL.run (j := 2) 2 [0, 1, 2, 8, 9] [(0, pt p 0), (1, .int .u64 (x : Int)), (2, .int .i64 4), (8, .int .i64 4), (9, .bool false)] (by kernel_rfl) rfl ?_
  refine GL.k rfl hK12 (fun _ _ h => h) ?_
  refine G.no rfl ?_
  refine G.seqK fun K13 hK14 => ?_
  refine G.region ?_
  refine GL.run (j := 2) 2 [0, 1, 2, 8, 9] [(0, pt p 0), (1, .int .u64 (x : Int)), (2, .int .i64 4), (8, .int .i64 4), (9, .bool true)] (by kernel_rfl) rfl ?_
  refine GL.k rfl hK14 (fun _ _ h => h) ?_
  refine G.yes rfl ?_
  refine G.skipK hK8 (fun _ _ h => h) ?_
  refine G.yes rfl ?_
  refine G.seqK fun K15 hK16 => ?_
  refine G.region ?_
  refine GL.run (j := 2) 2 [0, 1, 14, 15] [(0, pt p 0), (1, .int .u64 (x : Int)), (14, .int .i64 4), (15, .int .i64 0)] (by kernel_rfl) rfl ?_
  refine GL.k rfl hK16 (fun _ _ h => h) ?_
  refine G.block ?_
  have H17 : Hp w S [.blk p [.slice A (n + 0) c] 53, .row A (n + 0) c 5 1 (by8 (bs ++ putB x 0))] w := by rw [show putB x 0 = [] from rfl, List.append_nil]; exact H
  refine G.fit [0, 1, 14, 15] (M' := [(0, pt p 0), (1, .int .u64 (x : Int)), (14, .int .i64 4), (15, .int .i64 0)]) (by kernel_rfl) ?_
  refine G.eq (M' := [(0, pt p 0), (1, .int .u64 ((x / 256 ^ 0 : Nat) : Int)), (14, .int .i64 4), (15, .int .i64 0)]) (by simp only [Nat.pow_zero, Nat.div_one]) ?_
  refine G.loop (X := Nat × Option Addr × Nat) (fun ⟨i, B_, b_⟩ => [(0, pt p 0), (1, .int .u64 ((x / 256 ^ i : Nat) : Int)), (14, .int .i64 4), (15, .int .i64 (i : Int))]) (fun ⟨i, B_, b_⟩ w_ => (i ≤ 4) ∧ Hp w S [.blk p [.slice B_ (n + i) b_] 53, .row B_ (n + i) b_ 5 1 (by8 (bs ++ putB x i))] w_) (fun ⟨i, B_, b_⟩ => 4 - i) ⟨0, A, c⟩ [0, 1, 14, 15] (by kernel_rfl) ⟨by omega, H17⟩ ?_
  rintro ⟨i, B_, b_⟩ w18 ⟨hi19, H20⟩
  refine G.eq (M' := [(0, pt p 0), (1, .int .u64 ((x / 256 ^ i : Nat) : Int)), (14, .int .i64 4), (15, .int .i64 (i : Int))]) rfl ?_
  have H20 : Hp w S [.blk p [.slice B_ (n + i) b_] 53, .row B_ (n + i) b_ 5 1 (by8 (bs ++ putB x i))] w18 := H20
  have hi9 := hi19
  refine G.seqK fun K21 hK22 => ?_
  refine G.region ?_
  refine GL.run (j := 1) 1 [0, 1, 14, 15, 16] [(0, pt p 0), (1, .int .u64 ((x / 256 ^ i : Nat) : Int)), (14, .int .i64 4), (15, .int .i64 (i : Int)), (16, .bool (decide ((i : Int) < 4)))] (by kernel_rfl) rfl ?_
  refine GL.k rfl hK22 (fun _ _ h => h) ?_
  refine G.seqK fun K23 hK24 => ?_
  cases hb25 : (decide ((i : Int) < 4))
  · skip
    have hb25f := of_decide_eq_false hb25
    refine G.no rfl ?_
    -- exit to the end
    refine fun F_ hF_ hM_ => wp_exit ?_
    refine hNor _ _ (bodyPost_0 rfl  ?_ F_ hF_ hM_)
    have HF := H20
    rw [show i = 4 by omega] at HF
    exact ⟨_, _, rfl, HF⟩
  · skip
    have hb25f := of_decide_eq_true hb25
    refine G.yes rfl ?_
    refine G.skipK hK24 (fun _ _ h => h) ?_
    refine G.seqK fun K26 hK27 => ?_
    refine G.block ?_
    refine G.seqK fun K28 hK29 => ?_
    refine G.region ?_
    refine GL.run (j := 4) 4 [0, 1, 14, 15, 17, 20] [(0, pt p 0), (1, .int .u64 ((x / 256 ^ i : Nat) : Int)), (14, .int .i64 4), (15, .int .i64 (i : Int)), (17, pt p 0), (20, pt p 0)] (by kernel_rfl) rfl ?_
    refine GL.sem (j := 5) (H20.ld (o := 0) (ty := 26) (v := .slice B_ (n + i) b_) 0 rfl (by kernel_rfl) rfl) [0, 1, 14, 15, 17, 21] [(0, pt p 0), (1, .int .u64 ((x / 256 ^ i : Nat) : Int)), (14, .int .i64 4), (15, .int .i64 (i : Int)), (17, pt p 0), (21, .slice B_ (n + i) b_)] (by kernel_rfl) (by kernel_rfl) rfl ?_
    refine GL.run (j := 7) 2 [0, 1, 14, 15, 17, 21, 23] [(0, pt p 0), (1, .int .u64 ((x / 256 ^ i : Nat) : Int)), (14, .int .i64 4), (15, .int .i64 (i : Int)), (17, pt p 0), (21, .slice B_ (n + i) b_), (23, .int .u8 (IntKind.u8.wrap ((x / 256 ^ i : Nat) : Int)))] (by kernel_rfl) rfl ?_
    have e30 : (IntKind.u8.wrap ((x / 256 ^ i : Nat) : Int)) = ((UInt8.ofNat (x / 256 ^ i)).toNat : Int) := n_byte _
    refine GL.eq (M' := [(0, pt p 0), (1, .int .u64 ((x / 256 ^ i : Nat) : Int)), (14, .int .i64 4), (15, .int .i64 (i : Int)), (17, pt p 0), (21, .slice B_ (n + i) b_), (23, .int .u8 ((UInt8.ofNat (x / 256 ^ i)).toNat : Int))]) (by rw [e30]) ?_
    clear e30
    obtain ⟨p31, w32, r33, H34⟩ := H20.made (P := Try.prog) (Instr.buildSlice 26 1 #[(0, .int .u8 ((UInt8.ofNat (x / 256 ^ i)).toNat : Int))]) (fun b_ => .slice (some ⟨b_, 0, none⟩) 1 1) [.int .u8 ((UInt8.ofNat (x / 256 ^ i)).toNat : Int)] 5 (by kernel_rfl)
    have H34 : Hp w S [.blk p [.slice B_ (n + i) b_] 53, .row B_ (n + i) b_ 5 1 (by8 (bs ++ putB x i)), .blk p31 [.int .u8 ((UInt8.ofNat (x / 256 ^ i)).toNat : Int)] 5] w32 := H34
    refine GL.sem (j := 8) (r33) [0, 1, 14, 15, 17, 21, 24] [(0, pt p 0), (1, .int .u64 ((x / 256 ^ i : Nat) : Int)), (14, .int .i64 4), (15, .int .i64 (i : Int)), (17, pt p 0), (21, .slice B_ (n + i) b_), (24, .slice (some ⟨p31, 0, none⟩) 1 1)] (by kernel_rfl) (by kernel_rfl) rfl ?_
    obtain ⟨A35, c36, w37, r38, H39⟩ := H34.append (P := Try.prog) (e := 5) (sz := 1) (by_ := 1) (n := (n + i)) (c := b_) (m := 1) (d := 1) (t := 26) (ty := 26) (xs := by8 (bs ++ putB x i)) (news := by8 ([(UInt8.ofNat (x / 256 ^ i))] : List UInt8)) 1 rfl (by kernel_rfl) (H34.rdBlk (o := 0) (xs := by8 ([(UInt8.ofNat (x / 256 ^ i))] : List UInt8)) 2 1 rfl rfl) (by first | (simp [by8_length]; done) | (rw [by8_length]; omega) | (rw [by8_length, putB_length])) (by8_one _) (by omega) (by simp only [maxLen]; omega)
    rw [← by8_append] at H39
    have H39 : Hp w S [.blk p [.slice B_ (n + i) b_] 53, .row A35 ((n + i) + 1) c36 5 1 (by8 ((bs ++ putB x i) ++ ([(UInt8.ofNat (x / 256 ^ i))] : List UInt8))), .blk p31 [.int .u8 ((UInt8.ofNat (x / 256 ^ i)).toNat : Int)] 5] w37 := H39
    refine GL.sem (j := 9) (r38) [0, 1, 14, 15, 17, 25] [(0, pt p 0), (1, .int .u64 ((x / 256 ^ i : Nat) : Int)), (14, .int .i64 4), (15, .int .i64 (i : Int)), (17, pt p 0), (25, .slice A35 ((n + i) + 1) c36)] (by kernel_rfl) (by kernel_rfl) rfl ?_
    refine GL.run (j := 11) 2 [0, 1, 14, 15, 25, 27] [(0, pt p 0), (1, .int .u64 ((x / 256 ^ i : Nat) : Int)), (14, .int .i64 4), (15, .int .i64 (i : Int)), (25, .slice A35 ((n + i) + 1) c36), (27, pt p 0)] (by kernel_rfl) rfl ?_
    obtain ⟨w40, r41, H42⟩ := H39.st (P := Try.prog) (o := 0) (ty := 26) (v := .slice A35 ((n + i) + 1) c36) 0 rfl (by kernel_rfl) (by simp) rfl
    have H42 : Hp w S [.blk p [.slice A35 ((n + i) + 1) c36] 53, .row A35 ((n + i) + 1) c36 5 1 (by8 ((bs ++ putB x i) ++ ([(UInt8.ofNat (x / 256 ^ i))] : List UInt8))), .blk p31 [.int .u8 ((UInt8.ofNat (x / 256 ^ i)).toNat : Int)] 5] w40 := H42
    refine GL.semU (j := 12) r41 [0, 1, 14, 15] [(0, pt p 0), (1, .int .u64 ((x / 256 ^ i : Nat) : Int)), (14, .int .i64 4), (15, .int .i64 (i : Int))] (by kernel_rfl) rfl rfl rfl ?_
    refine GL.k rfl hK29 (fun _ _ h => h) ?_
    refine G.region ?_
    refine GL.run (j := 3) 3 [0, 1, 14, 15] [(0, pt p 0), (1, .int .u64 (Int.fdiv ((x / 256 ^ i : Nat) : Int) (2 ^ 8))), (14, .int .i64 4), (15, .int .i64 (i : Int))] (by kernel_rfl) rfl ?_
    have e43 : (Int.fdiv ((x / 256 ^ i : Nat) : Int) (2 ^ 8)) = (((x / 256 ^ i) / 256 : Nat) : Int) := n_shr _ 8
    refine GL.eq (M' := [(0, pt p 0), (1, .int .u64 (((x / 256 ^ i) / 256 : Nat) : Int)), (14, .int .i64 4), (15, .int .i64 (i : Int))]) (by rw [e43]) ?_
    clear e43
    refine GL.k rfl hK27 (fun _ _ h => h) ?_
    refine G.region ?_
    refine GL.run (j := 2) 2 [0, 1, 14, 15] [(0, pt p 0), (1, .int .u64 (((x / 256 ^ i) / 256 : Nat) : Int)), (14, .int .i64 4), (15, .int .i64 (IntKind.i64.wrap ((i : Int) + 1)))] (by kernel_rfl) rfl ?_
    have e44 : (IntKind.i64.wrap ((i : Int) + 1)) = ((i + 1 : Nat) : Int) := by rw [in_i64 (by omega)]; omega
    refine GL.eq (M' := [(0, pt p 0), (1, .int .u64 (((x / 256 ^ i) / 256 : Nat) : Int)), (14, .int .i64 4), (15, .int .i64 ((i + 1 : Nat) : Int))]) (by rw [e44]) ?_
    clear e44
    have H45 : Hp w S [.blk p [.slice A35 ((n + i) + 1) c36] 53, .row A35 ((n + i) + 1) c36 5 1 (by8 ((bs ++ putB x i) ++ ([(UInt8.ofNat (x / 256 ^ i))] : List UInt8)))] w40 := H42.sub (List.Sublist.cons_cons _ (List.Sublist.cons_cons _ (List.Sublist.cons _ (List.Sublist.slnil))))
    have H46 : Hp w S [.blk p [.slice A35 (n + (i + 1)) c36] 53, .row A35 (n + (i + 1)) c36 5 1 (by8 (bs ++ putB x (i + 1)))] w40 := by rw [putB_snoc, ← List.append_assoc]; exact H45
    refine GL.fit (ts := [0, 1, 14, 15]) (M' := [(0, pt p 0), (1, .int .u64 (((x / 256 ^ i) / 256 : Nat) : Int)), (14, .int .i64 4), (15, .int .i64 ((i + 1 : Nat) : Int))]) (by kernel_rfl) ?_
    refine GL.eq (M' := [(0, pt p 0), (1, .int .u64 ((x / 256 ^ (i + 1) : Nat) : Int)), (14, .int .i64 4), (15, .int .i64 (((i + 1) : Nat) : Int))]) (by rw [Nat.pow_succ, ← Nat.div_div_eq_div_mul]) ?_
    exact GL.again ⟨(i + 1), A35, c36⟩ [0, 1, 14, 15] rfl (by kernel_rfl) (by show 4 - (i + 1) < 4 - i; omega) ⟨by omega, H46⟩
theorem Put8_calls (S : List Nat) (p : Nat) (A : Option Addr) (n c : Nat) (bs : List UInt8) (x : Nat) (w : World) (h0 : Hp w S [.blk p [.slice A n c] 53, .row A n c 5 1 (by8 bs)] w) (hn : n ≤ 1000000) : Calls Try.prog 19 #[pt p 0, .int .u64 (x : Int), .int .i64 8] w fun e w' => ∃ A c, e = .returned (.tuple #[]) ∧ Hp w S [.blk p [.slice A (n + 8) c] 53, .row A (n + 8) c 5 1 (by8 (bs ++ putB x 8))] w' := by
  refine calls_G (args := [pt p 0, .int .u64 (x : Int), .int .i64 8]) Try.func19 rfl Try.ntmps19 rfl ?_
  intro Q0 hRet hNor hPan
  have H := h0
  have H : Hp w S [.blk p [.slice A n c] 53, .row A n c 5 1 (by8 bs)] w := H
  refine G.seqK fun K1 hK2 => ?_
  refine G.seqK fun K3 hK4 => ?_
  refine G.region ?_
  refine GL.run (j := 2) 2 [0, 1, 2, 7] [(0, pt p 0), (1, .int .u64 (x : Int)), (2, .int .i64 8), (7, .bool false)] (by kernel_rfl) rfl ?_
  refine GL.k rfl hK4 (fun _ _ h => h) ?_
  refine G.no rfl ?_
  refine G.skipK hK2 (fun _ _ h => h) ?_
  refine G.seqK fun K5 hK6 => ?_
  refine G.region ?_
  refine GL.run (j := 1) 1 [0, 1, 2, 8] [(0, pt p 0), (1, .int .u64 (x : Int)), (2, .int .i64 8), (8, .int .i64 8)] (by kernel_rfl) rfl ?_
  refine GL.k rfl hK6 (fun _ _ h => h) ?_
  refine G.block ?_
  refine G.seqK fun K7 hK8 => ?_
  refine G.seqK fun K9 hK10 => ?_
  refine G.region ?_
  refine GL.run (j := 2) 2 [0, 1, 2, 8, 9] [(0, pt p 0), (1, .int .u64 (x : Int)), (2, .int .i64 8), (8, .int .i64 8), (9, .bool false)] (by kernel_rfl) rfl ?_
  refine GL.k rfl hK10 (fun _ _ h => h) ?_
  refine G.no rfl ?_
  refine G.seqK fun K11 hK12 => ?_
  refine G.region ?_
  refine GL.run (j := 2) 2 [0, 1, 2, 8, 9] [(0, pt p 0), (1, .int .u64 (x : Int)), (2, .int .i64 8), (8, .int .i64 8), (9, .bool false)] (by kernel_rfl) rfl ?_
  refine GL.k rfl hK12 (fun _ _ h => h) ?_
  refine G.no rfl ?_
  refine G.seqK fun K13 hK14 => ?_
  refine G.region ?_
  refine GL.run (j := 2) 2 [0, 1, 2, 8, 9] [(0, pt p 0), (1, .int .u64 (x : Int)), (2, .int .i64 8), (8, .int .i64 8), (9, .bool false)] (by kernel_rfl) rfl ?_
  refine GL.k rfl hK14 (fun _ _ h => h) ?_
  refine G.no rfl ?_
  refine G.region ?_
  refine GL.run (j := 2) 2 [0, 1, 2, 9] [(0, pt p 0), (1, .int .u64 (x : Int)), (2, .int .i64 8), (9, .bool true)] (by kernel_rfl) rfl ?_
  refine GL.k rfl hK8 (fun _ _ h => h) ?_
  refine G.yes rfl ?_
  refine G.seqK fun K15 hK16 => ?_
  refine G.region ?_
  refine GL.run (j := 2) 2 [0, 1, 14, 15] [(0, pt p 0), (1, .int .u64 (x : Int)), (14, .int .i64 8), (15, .int .i64 0)] (by kernel_rfl) rfl ?_
  refine GL.k rfl hK16 (fun _ _ h => h) ?_
  refine G.block ?_
  have H17 : Hp w S [.blk p [.slice A (n + 0) c] 53, .row A (n + 0) c 5 1 (by8 (bs ++ putB x 0))] w := by rw [show putB x 0 = [] from rfl, List.append_nil]; exact H
  refine G.fit [0, 1, 14, 15] (M' := [(0, pt p 0), (1, .int .u64 (x : Int)), (14, .int .i64 8), (15, .int .i64 0)]) (by kernel_rfl) ?_
  refine G.eq (M' := [(0, pt p 0), (1, .int .u64 ((x / 256 ^ 0 : Nat) : Int)), (14, .int .i64 8), (15, .int .i64 0)]) (by simp only [Nat.pow_zero, Nat.div_one]) ?_
  refine G.loop (X := Nat × Option Addr × Nat) (fun ⟨i, B_, b_⟩ => [(0, pt p 0), (1, .int .u64 ((x / 256 ^ i : Nat) : Int)), (14, .int .i64 8), (15, .int .i64 (i : Int))]) (fun ⟨i, B_, b_⟩ w_ => (i ≤ 8) ∧ Hp w S [.blk p [.slice B_ (n + i) b_] 53, .row B_ (n + i) b_ 5 1 (by8 (bs ++ putB x i))] w_) (fun ⟨i, B_, b_⟩ => 8 - i) ⟨0, A, c⟩ [0, 1, 14, 15] (by kernel_rfl) ⟨by omega, H17⟩ ?_
  rintro ⟨i, B_, b_⟩ w18 ⟨hi19, H20⟩
  refine G.eq (M' := [(0, pt p 0), (1, .int .u64 ((x / 256 ^ i : Nat) : Int)), (14, .int .i64 8), (15, .int .i64 (i : Int))]) rfl ?_
  have H20 : Hp w S [.blk p [.slice B_ (n + i) b_] 53, .row B_ (n + i) b_ 5 1 (by8 (bs ++ putB x i))] w18 := H20
  have hi9 := hi19
  refine G.seqK fun K21 hK22 => ?_
  refine G.region ?_
  refine GL.run (j := 1) 1 [0, 1, 14, 15, 16] [(0, pt p 0), (1, .int .u64 ((x / 256 ^ i : Nat) : Int)), (14, .int .i64 8), (15, .int .i64 (i : Int)), (16, .bool (decide ((i : Int) < 8)))] (by kernel_rfl) rfl ?_
  refine GL.k rfl hK22 (fun _ _ h => h) ?_
  refine G.seqK fun K23 hK24 => ?_
  cases hb25 : (decide ((i : Int) < 8))
  · skip
    have hb25f := of_decide_eq_false hb25
    refine G.no rfl ?_
    -- exit to the end
    refine fun F_ hF_ hM_ => wp_exit ?_
    refine hNor _ _ (bodyPost_0 rfl  ?_ F_ hF_ hM_)
    have HF := H20
    rw [show i = 8 by omega] at HF
    exact ⟨_, _, rfl, HF⟩
  · skip
    have hb25f := of_decide_eq_true hb25
    refine G.yes rfl ?_
    refine G.skipK hK24 (fun _ _ h => h) ?_
    refine G.seqK fun K26 hK27 => ?_
    refine G.block ?_
    refine G.seqK fun K28 hK29 => ?_
    refine G.region ?_
    refine GL.run (j := 4) 4 [0, 1, 14, 15, 17, 20] [(0, pt p 0), (1, .int .u64 ((x / 256 ^ i : Nat) : Int)), (14, .int .i64 8), (15, .int .i64 (i : Int)), (17, pt p 0), (20, pt p 0)] (by kernel_rfl) rfl ?_
    refine GL.sem (j := 5) (H20.ld (o := 0) (ty := 26) (v := .slice B_ (n + i) b_) 0 rfl (by kernel_rfl) rfl) [0, 1, 14, 15, 17, 21] [(0, pt p 0), (1, .int .u64 ((x / 256 ^ i : Nat) : Int)), (14, .int .i64 8), (15, .int .i64 (i : Int)), (17, pt p 0), (21, .slice B_ (n + i) b_)] (by kernel_rfl) (by kernel_rfl) rfl ?_
    refine GL.run (j := 7) 2 [0, 1, 14, 15, 17, 21, 23] [(0, pt p 0), (1, .int .u64 ((x / 256 ^ i : Nat) : Int)), (14, .int .i64 8), (15, .int .i64 (i : Int)), (17, pt p 0), (21, .slice B_ (n + i) b_), (23, .int .u8 (IntKind.u8.wrap ((x / 256 ^ i : Nat) : Int)))] (by kernel_rfl) rfl ?_
    have e30 : (IntKind.u8.wrap ((x / 256 ^ i : Nat) : Int)) = ((UInt8.ofNat (x / 256 ^ i)).toNat : Int) := n_byte _
    refine GL.eq (M' := [(0, pt p 0), (1, .int .u64 ((x / 256 ^ i : Nat) : Int)), (14, .int .i64 8), (15, .int .i64 (i : Int)), (17, pt p 0), (21, .slice B_ (n + i) b_), (23, .int .u8 ((UInt8.ofNat (x / 256 ^ i)).toNat : Int))]) (by rw [e30]) ?_
    clear e30
    obtain ⟨p31, w32, r33, H34⟩ := H20.made (P := Try.prog) (Instr.buildSlice 26 1 #[(0, .int .u8 ((UInt8.ofNat (x / 256 ^ i)).toNat : Int))]) (fun b_ => .slice (some ⟨b_, 0, none⟩) 1 1) [.int .u8 ((UInt8.ofNat (x / 256 ^ i)).toNat : Int)] 5 (by kernel_rfl)
    have H34 : Hp w S [.blk p [.slice B_ (n + i) b_] 53, .row B_ (n + i) b_ 5 1 (by8 (bs ++ putB x i)), .blk p31 [.int .u8 ((UInt8.ofNat (x / 256 ^ i)).toNat : Int)] 5] w32 := H34
    refine GL.sem (j := 8) (r33) [0, 1, 14, 15, 17, 21, 24] [(0, pt p 0), (1, .int .u64 ((x / 256 ^ i : Nat) : Int)), (14, .int .i64 8), (15, .int .i64 (i : Int)), (17, pt p 0), (21, .slice B_ (n + i) b_), (24, .slice (some ⟨p31, 0, none⟩) 1 1)] (by kernel_rfl) (by kernel_rfl) rfl ?_
    obtain ⟨A35, c36, w37, r38, H39⟩ := H34.append (P := Try.prog) (e := 5) (sz := 1) (by_ := 1) (n := (n + i)) (c := b_) (m := 1) (d := 1) (t := 26) (ty := 26) (xs := by8 (bs ++ putB x i)) (news := by8 ([(UInt8.ofNat (x / 256 ^ i))] : List UInt8)) 1 rfl (by kernel_rfl) (H34.rdBlk (o := 0) (xs := by8 ([(UInt8.ofNat (x / 256 ^ i))] : List UInt8)) 2 1 rfl rfl) (by first | (simp [by8_length]; done) | (rw [by8_length]; omega) | (rw [by8_length, putB_length])) (by8_one _) (by omega) (by simp only [maxLen]; omega)
    rw [← by8_append] at H39
    have H39 : Hp w S [.blk p [.slice B_ (n + i) b_] 53, .row A35 ((n + i) + 1) c36 5 1 (by8 ((bs ++ putB x i) ++ ([(UInt8.ofNat (x / 256 ^ i))] : List UInt8))), .blk p31 [.int .u8 ((UInt8.ofNat (x / 256 ^ i)).toNat : Int)] 5] w37 := H39
    refine GL.sem (j := 9) (r38) [0, 1, 14, 15, 17, 25] [(0, pt p 0), (1, .int .u64 ((x / 256 ^ i : Nat) : Int)), (14, .int .i64 8), (15, .int .i64 (i : Int)), (17, pt p 0), (25, .slice A35 ((n + i) + 1) c36)] (by kernel_rfl) (by kernel_rfl) rfl ?_
    refine GL.run (j := 11) 2 [0, 1, 14, 15, 25, 27] [(0, pt p 0), (1, .int .u64 ((x / 256 ^ i : Nat) : Int)), (14, .int .i64 8), (15, .int .i64 (i : Int)), (25, .slice A35 ((n + i) + 1) c36), (27, pt p 0)] (by kernel_rfl) rfl ?_
    obtain ⟨w40, r41, H42⟩ := H39.st (P := Try.prog) (o := 0) (ty := 26) (v := .slice A35 ((n + i) + 1) c36) 0 rfl (by kernel_rfl) (by simp) rfl
    have H42 : Hp w S [.blk p [.slice A35 ((n + i) + 1) c36] 53, .row A35 ((n + i) + 1) c36 5 1 (by8 ((bs ++ putB x i) ++ ([(UInt8.ofNat (x / 256 ^ i))] : List UInt8))), .blk p31 [.int .u8 ((UInt8.ofNat (x / 256 ^ i)).toNat : Int)] 5] w40 := H42
    refine GL.semU (j := 12) r41 [0, 1, 14, 15] [(0, pt p 0), (1, .int .u64 ((x / 256 ^ i : Nat) : Int)), (14, .int .i64 8), (15, .int .i64 (i : Int))] (by kernel_rfl) rfl rfl rfl ?_
    refine GL.k rfl hK29 (fun _ _ h => h) ?_
    refine G.region ?_
    refine GL.run (j := 3) 3 [0, 1, 14, 15] [(0, pt p 0), (1, .int .u64 (Int.fdiv ((x / 256 ^ i : Nat) : Int) (2 ^ 8))), (14, .int .i64 8), (15, .int .i64 (i : Int))] (by kernel_rfl) rfl ?_
    have e43 : (Int.fdiv ((x / 256 ^ i : Nat) : Int) (2 ^ 8)) = (((x / 256 ^ i) / 256 : Nat) : Int) := n_shr _ 8
    refine GL.eq (M' := [(0, pt p 0), (1, .int .u64 (((x / 256 ^ i) / 256 : Nat) : Int)), (14, .int .i64 8), (15, .int .i64 (i : Int))]) (by rw [e43]) ?_
    clear e43
    refine GL.k rfl hK27 (fun _ _ h => h) ?_
    refine G.region ?_
    refine GL.run (j := 2) 2 [0, 1, 14, 15] [(0, pt p 0), (1, .int .u64 (((x / 256 ^ i) / 256 : Nat) : Int)), (14, .int .i64 8), (15, .int .i64 (IntKind.i64.wrap ((i : Int) + 1)))] (by kernel_rfl) rfl ?_
    have e44 : (IntKind.i64.wrap ((i : Int) + 1)) = ((i + 1 : Nat) : Int) := by rw [in_i64 (by omega)]; omega
    refine GL.eq (M' := [(0, pt p 0), (1, .int .u64 (((x / 256 ^ i) / 256 : Nat) : Int)), (14, .int .i64 8), (15, .int .i64 ((i + 1 : Nat) : Int))]) (by rw [e44]) ?_
    clear e44
    have H45 : Hp w S [.blk p [.slice A35 ((n + i) + 1) c36] 53, .row A35 ((n + i) + 1) c36 5 1 (by8 ((bs ++ putB x i) ++ ([(UInt8.ofNat (x / 256 ^ i))] : List UInt8)))] w40 := H42.sub (List.Sublist.cons_cons _ (List.Sublist.cons_cons _ (List.Sublist.cons _ (List.Sublist.slnil))))
    have H46 : Hp w S [.blk p [.slice A35 (n + (i + 1)) c36] 53, .row A35 (n + (i + 1)) c36 5 1 (by8 (bs ++ putB x (i + 1)))] w40 := by rw [putB_snoc, ← List.append_assoc]; exact H45
    refine GL.fit (ts := [0, 1, 14, 15]) (M' := [(0, pt p 0), (1, .int .u64 (((x / 256 ^ i) / 256 : Nat) : Int)), (14, .int .i64 8), (15, .int .i64 ((i + 1 : Nat) : Int))]) (by kernel_rfl) ?_
    refine GL.eq (M' := [(0, pt p 0), (1, .int .u64 ((x / 256 ^ (i + 1) : Nat) : Int)), (14, .int .i64 8), (15, .int .i64 (((i + 1) : Nat) : Int))]) (by rw [Nat.pow_succ, ← Nat.div_div_eq_div_mul]) ?_
    exact GL.again ⟨(i + 1), A35, c36⟩ [0, 1, 14, 15] rfl (by kernel_rfl) (by show 8 - (i + 1) < 8 - i; omega) ⟨by omega, H46⟩
theorem WBytes_calls (S : List Nat) (p : Nat) (A : Option Addr) (n c : Nat) (bs : List UInt8) (w : World) (h0 : Hp w S [.blk p [.slice A n c] 53, .row A n c 5 1 (by8 bs)] w) (hn : n ≤ 1000000) : Calls Try.prog 22 #[pt p 0] w fun e w' => ∃ B b, e = .returned (.slice B n b) ∧ Hp w S [.blk p [.slice A n c] 53, .row A n c 5 1 (by8 bs), .row B n b 5 1 (by8 bs)] w' := by
  refine calls_G (args := [pt p 0]) Try.func22 rfl Try.ntmps22 rfl ?_
  intro Q0 hRet hNor hPan
  have H := h0
  have H : Hp w S [.blk p [.slice A n c] 53, .row A n c 5 1 (by8 bs)] w := H
  refine G.seqK fun K1 hK2 => ?_
  refine G.region ?_
  refine GL.run (j := 1) 1 [0] [(0, pt p 0)] (by kernel_rfl) rfl ?_
  refine GL.k rfl hK2 (fun _ _ h => h) ?_
  refine G.seqK fun K3 hK4 => ?_
  refine G.seqK fun K5 hK6 => ?_
  refine G.region ?_
  refine GL.run (j := 2) 2 [0, 4] [(0, pt p 0), (4, .bool false)] (by kernel_rfl) rfl ?_
  refine GL.k rfl hK6 (fun _ _ h => h) ?_
  refine G.no rfl ?_
  refine G.skipK hK4 (fun _ _ h => h) ?_
  refine G.seqK fun K7 hK8 => ?_
  refine G.region ?_
  refine GL.run (j := 3) 3 [7] [(7, pt p 0)] (by kernel_rfl) rfl ?_
  refine GL.sem (j := 4) (H.ld (o := 0) (ty := 26) (v := .slice A n c) 0 rfl (by kernel_rfl) rfl) [8] [(8, .slice A n c)] (by kernel_rfl) (by kernel_rfl) rfl ?_
  have hl14 := (H.rowLe 1 rfl).2.1
  rw [by8_length, Nat.mul_one] at hl14
  refine GL.call (j := 5) (Clone_calls bs A n c w (H.rdRow 1 rfl) (by omega) (by omega)) (by kernel_rfl) rfl (fun e_ w13 hR => ?_)
  obtain ⟨A9, c10, rfl, H12⟩ := hR
  have H11 : Hp w S [.blk p [.slice A n c] 53, .row A n c 5 1 (by8 bs), .row A9 n c10 5 1 (by8 bs)] w13 := H.callNew H12
  refine ⟨_, rfl, [9], [(9, .slice A9 n c10)], by kernel_rfl, ?_⟩
  refine GL.run (j := 6) 1 [2] [(2, .slice A9 n c10)] (by kernel_rfl) rfl ?_
  refine GL.k rfl hK8 (fun _ _ h => h) ?_
  refine G.ret ?_
  intro F_ hF_ hM_
  refine hRet _ _ (bodyPost_1 rfl (RV.tmp rfl) ?_ F_ hF_ hM_)
  exact ⟨_, _, rfl, H11⟩
end Go.Proofs.Ytkfhcogdpmndkaa
