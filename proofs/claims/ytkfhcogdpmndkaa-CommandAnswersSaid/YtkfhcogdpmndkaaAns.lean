/- Answers as bytes. -/
import Derived.Test.YtkfhcogdpmndkaaOctR
import Derived.Test.YtkfhcogdpmndkaaOb
namespace Go.Proofs.Ytkfhcogdpmndkaa
open Go.RowKit
/-- The two numbers of an answer's bytes. -/
def ans1 (xs : List UInt8) : Nat := getB (rV false xs 1)
def ans8 (xs : List UInt8) : Nat := getB (rV (!(rOK false xs 1)) (rR false xs 1) 8)
def paE (xs : List UInt8) : Nat := if xs.length = 9 ∧ ans1 xs ≤ 23 then 0 else 2
def paA (xs : List UInt8) : Nat := if xs.length = 9 ∧ ans1 xs ≤ 23 then ans1 xs else 0
def paV (xs : List UInt8) : Nat := if xs.length = 9 ∧ ans1 xs ≤ 23 then ans8 xs else 0
theorem pa_cases (xs : List UInt8) : (paE xs = 0 ∧ paA xs = ans1 xs ∧ paV xs = ans8 xs ∧ xs.length = 9 ∧ ans1 xs ≤ 23) ∨ (paE xs = 2 ∧ paA xs = 0 ∧ paV xs = 0 ∧ ¬ (xs.length = 9 ∧ ans1 xs ≤ 23)) := by
  unfold paE paA paV
  by_cases h : xs.length = 9 ∧ ans1 xs ≤ 23
  · rw [if_pos h, if_pos h, if_pos h]
    exact .inl ⟨rfl, rfl, rfl, h.1, h.2⟩
  · rw [if_neg h, if_neg h, if_neg h]
    exact .inr ⟨rfl, rfl, rfl, h⟩
theorem end9 (xs : List UInt8) : (!(!(rOK (!(rOK false xs 1)) (rR false xs 1) 8)) && ((rR (!(rOK false xs 1)) (rR false xs 1) 8).length == 0)) = decide (xs.length = 9) := by
  by_cases h1 : 1 ≤ xs.length
  · obtain ⟨e1, _, e3⟩ := rOK_true h1
    rw [e1, e3]
    by_cases h8 : 8 ≤ (xs.drop 1).length
    · obtain ⟨f1, _, f3⟩ := rOK_true h8
      rw [show (!true) = false from rfl, f1, f3]
      rw [List.length_drop] at h8
      rw [Bool.eq_iff_iff]
      simp only [Bool.not_true, Bool.not_false, Bool.true_and, beq_iff_eq, decide_eq_true_eq, List.length_drop]
      omega
    · obtain ⟨f1, _, f3⟩ := rOK_false (wr := false) (.inr (Nat.lt_of_not_le h8))
      rw [show (!true) = false from rfl, f1, decide_eq_false (by rw [List.length_drop] at h8; omega)]
      rfl
  · obtain ⟨e1, _, e3⟩ := rOK_false (wr := false) (rest := xs) (n := 1) (.inr (by omega))
    rw [e1, e3]
    obtain ⟨f1, _, _⟩ := rOK_false (wr := true) (rest := []) (n := 8) (.inl rfl)
    rw [show (!false) = true from rfl, f1, decide_eq_false (by omega)]
    rfl
theorem ans_len {xs : List UInt8} (h : xs.length = 9) : ans1 xs = getB (xs.take 1) ∧ ans8 xs = getB (xs.drop 1) := by
  unfold ans1 ans8
  obtain ⟨e1, e2, e3⟩ := rOK_true (rest := xs) (n := 1) (by omega)
  rw [e1, e2, e3]
  obtain ⟨_, f2, _⟩ := rOK_true (rest := xs.drop 1) (n := 8) (by rw [List.length_drop]; omega)
  have h8 : (xs.drop 1).take 8 = xs.drop 1 := List.take_of_length_le (by rw [List.length_drop]; omega)
  rw [show (!true) = false from rfl, f2, h8]
  exact ⟨rfl, rfl⟩
theorem ans_back {xs : List UInt8} (h : xs.length = 9) : putB (ans1 xs) 1 ++ putB (ans8 xs) 8 = xs := by
  rw [(ans_len h).1, (ans_len h).2]
  have h1 := putB_get (xs.take 1)
  have h2 := putB_get (xs.drop 1)
  rw [show (xs.take 1).length = 1 by rw [List.length_take]; omega] at h1
  rw [show (xs.drop 1).length = 8 by rw [List.length_drop]; omega] at h2
  rw [h1, h2, List.take_append_drop]
theorem ans_put {e v : Nat} (he : e < 256) (hv : v < K) : (putB e 1 ++ putB v 8).length = 9 ∧ ans1 (putB e 1 ++ putB v 8) = e ∧ ans8 (putB e 1 ++ putB v 8) = v := by
  have hl : (putB e 1 ++ putB v 8).length = 9 := by rw [List.length_append, putB_length, putB_length]
  refine ⟨hl, ?_, ?_⟩
  · rw [(ans_len hl).1, List.take_append_of_le_length (by rw [putB_length]; omega), List.take_of_length_le (by rw [putB_length]; omega), getB_put]
    omega
  · rw [(ans_len hl).2, List.drop_append_of_le_length (by rw [putB_length]; omega), List.drop_of_length_le (by rw [putB_length]; omega), List.nil_append, getB_put]
    exact Nat.mod_eq_of_lt hv
theorem ans1_at {xs : List UInt8} {b : UInt8} (h : xs.length = 9) (hb : xs[0]? = some b) : ans1 xs = b.toNat := by
  rw [(ans_len h).1]
  cases xs with
  | nil => simp at h
  | cons x r =>
    simp at hb
    subst hb
    simp [getB]
theorem ans1_lt (xs : List UInt8) : ans1 xs < 256 := get_lt false xs 1
theorem ans8_lt (xs : List UInt8) : ans8 xs < K := get_lt _ _ 8
theorem put1_byte (b : UInt8) : putB b.toNat 1 = [b] := by simp [putB]
theorem n_byte256 (x : Nat) : IntKind.u8.wrap ((x % 256 : Nat) : Int) = (((UInt8.ofNat x).toNat : Nat) : Int) := by rw [IntKind.wrap_u8, u8_ofNat]; omega
theorem RPut_calls (x n : Nat) (hx : x < K) (hn : n ≤ 1000) (w : World) : Calls Try.prog 11 #[.int .u64 (x : Int), .int .i64 (n : Int)] w fun e w' => ∃ A c, e = .returned (.slice A n c) ∧ Hp w [] [.row A n c 5 1 (by8 (putB x n))] w' := by
  refine calls_G (args := [.int .u64 (x : Int), .int .i64 (n : Int)]) Try.func11 rfl Try.ntmps11 rfl ?_
  intro Q0 hRet hNor hPan
  have H := Hp.start w
  have H : Hp w [] [] w := H
  refine G.seqK fun K1 hK2 => ?_
  refine G.region ?_
  refine GL.run (j := 1) 1 [0, 1] [(0, .int .u64 (x : Int)), (1, .int .i64 (n : Int))] (by kernel_rfl) rfl ?_
  refine GL.k rfl hK2 (fun _ _ h => h) ?_
  refine G.seqK fun K3 hK4 => ?_
  refine G.region ?_
  obtain ⟨p5, w6, r7, H8⟩ := H.madeRow (P := Try.prog) (Instr.buildSlice 26 0 #[]) (fun b_ => .slice (some ⟨b_, 0, none⟩) 0 0) [] 5 0 0 1 (by kernel_rfl) (by decide) (by decide) rfl
  have H8 : Hp w [] [.row (some ⟨p5, 0, none⟩) 0 0 5 1 (by8 ([] : List UInt8))] w6 := H8
  refine GL.sem (j := 1) (r7) [0, 1, 7] [(0, .int .u64 (x : Int)), (1, .int .i64 (n : Int)), (7, .slice (some ⟨p5, 0, none⟩) 0 0)] (by kernel_rfl) (by kernel_rfl) rfl ?_
  refine GL.run (j := 2) 1 [0, 1, 5] [(0, .int .u64 (x : Int)), (1, .int .i64 (n : Int)), (5, .slice (some ⟨p5, 0, none⟩) 0 0)] (by kernel_rfl) rfl ?_
  refine GL.k rfl hK4 (fun _ _ h => h) ?_
  refine G.seqK fun K9 hK10 => ?_
  refine G.seqK fun K11 hK12 => ?_
  refine G.region ?_
  refine GL.run (j := 1) 1 [0, 1, 5, 6] [(0, .int .u64 (x : Int)), (1, .int .i64 (n : Int)), (5, .slice (some ⟨p5, 0, none⟩) 0 0), (6, .int .i64 0)] (by kernel_rfl) rfl ?_
  refine GL.k rfl hK12 (fun _ _ h => h) ?_
  refine G.block ?_
  refine G.fit [0, 1, 5, 6] (M' := [(0, .int .u64 (x : Int)), (1, .int .i64 (n : Int)), (5, .slice (some ⟨p5, 0, none⟩) 0 0), (6, .int .i64 0)]) (by kernel_rfl) ?_
  refine G.eq (M' := [(0, .int .u64 ((x / 256 ^ 0 : Nat) : Int)), (1, .int .i64 (n : Int)), (5, .slice (some ⟨p5, 0, none⟩) 0 0), (6, .int .i64 0)]) (by simp only [Nat.pow_zero, Nat.div_one]) ?_
  refine G.loop (X := Nat × Option Addr × Nat) (fun ⟨i, B_, b_⟩ => [(0, .int .u64 ((x / 256 ^ i : Nat) : Int)), (1, .int .i64 (n : Int)), (5, .slice B_ i b_), (6, .int .i64 (i : Int))]) (fun ⟨i, B_, b_⟩ w_ => (i ≤ n) ∧ Hp w [] [.row B_ i b_ 5 1 (by8 (putB x i))] w_) (fun ⟨i, B_, b_⟩ => n - i) ⟨0, (some ⟨p5, 0, none⟩), 0⟩ [0, 1, 5, 6] (by kernel_rfl) ⟨Nat.zero_le _, H8⟩ ?_
  rintro ⟨i, B_, b_⟩ w13 ⟨hi14, H15⟩
  refine G.eq (M' := [(0, .int .u64 ((x / 256 ^ i : Nat) : Int)), (1, .int .i64 (n : Int)), (5, .slice B_ i b_), (6, .int .i64 (i : Int))]) rfl ?_
  have H15 : Hp w [] [.row B_ i b_ 5 1 (by8 (putB x i))] w13 := H15
  have hi9 := hi14
  refine G.seqK fun K16 hK17 => ?_
  refine G.seqK fun K18 hK19 => ?_
  refine G.region ?_
  refine GL.run (j := 3) 3 [0, 1, 5, 6, 10] [(0, .int .u64 ((x / 256 ^ i : Nat) : Int)), (1, .int .i64 (n : Int)), (5, .slice B_ i b_), (6, .int .i64 (i : Int)), (10, .bool (decide ((i : Int) < (n : Int))))] (by kernel_rfl) rfl ?_
  refine GL.k rfl hK19 (fun _ _ h => h) ?_
  cases hb20 : (decide ((i : Int) < (n : Int)))
  · skip
    have hb20f := of_decide_eq_false hb20
    refine G.no rfl ?_
    refine G.exitK hK10 (fun _ _ h => h) ?_
    refine G.seqK fun K21 hK22 => ?_
    refine G.region ?_
    refine GL.run (j := 2) 2 [4] [(4, .slice B_ i b_)] (by kernel_rfl) rfl ?_
    refine GL.k rfl hK22 (fun _ _ h => h) ?_
    refine G.ret ?_
    intro F_ hF_ hM_
    refine hRet _ _ (bodyPost_1 rfl (RV.tmp rfl) ?_ F_ hF_ hM_)
    have HF := H15
    rw [show i = n by omega] at HF
    rw [show i = n by omega]
    exact ⟨_, _, rfl, HF⟩
  · skip
    have hb20f := of_decide_eq_true hb20
    refine G.yes rfl ?_
    refine G.skipK hK17 (fun _ _ h => h) ?_
    refine G.seqK fun K23 hK24 => ?_
    refine G.block ?_
    refine G.seqK fun K25 hK26 => ?_
    refine G.region ?_
    refine GL.run (j := 4) 4 [0, 1, 6, 13, 16] [(0, .int .u64 ((x / 256 ^ i : Nat) : Int)), (1, .int .i64 (n : Int)), (6, .int .i64 (i : Int)), (13, .slice B_ i b_), (16, .int .u8 (IntKind.u8.wrap (Int.tmod ((x / 256 ^ i : Nat) : Int) 256)))] (by kernel_rfl) rfl ?_
    have e27 : (Int.tmod ((x / 256 ^ i : Nat) : Int) 256) = (((x / 256 ^ i) % 256 : Nat) : Int) := n_rem _ 256
    have e28 : (IntKind.u8.wrap (((x / 256 ^ i) % 256 : Nat) : Int)) = ((UInt8.ofNat (x / 256 ^ i)).toNat : Int) := n_byte256 _
    refine GL.eq (M' := [(0, .int .u64 ((x / 256 ^ i : Nat) : Int)), (1, .int .i64 (n : Int)), (6, .int .i64 (i : Int)), (13, .slice B_ i b_), (16, .int .u8 ((UInt8.ofNat (x / 256 ^ i)).toNat : Int))]) (by rw [e27, e28]) ?_
    clear e27 e28
    obtain ⟨p29, w30, r31, H32⟩ := H15.made (P := Try.prog) (Instr.buildSlice 26 1 #[(0, .int .u8 ((UInt8.ofNat (x / 256 ^ i)).toNat : Int))]) (fun b_ => .slice (some ⟨b_, 0, none⟩) 1 1) [.int .u8 ((UInt8.ofNat (x / 256 ^ i)).toNat : Int)] 5 (by kernel_rfl)
    have H32 : Hp w [] [.row B_ i b_ 5 1 (by8 (putB x i)), .blk p29 [.int .u8 ((UInt8.ofNat (x / 256 ^ i)).toNat : Int)] 5] w30 := H32
    refine GL.sem (j := 5) (r31) [0, 1, 6, 13, 17] [(0, .int .u64 ((x / 256 ^ i : Nat) : Int)), (1, .int .i64 (n : Int)), (6, .int .i64 (i : Int)), (13, .slice B_ i b_), (17, .slice (some ⟨p29, 0, none⟩) 1 1)] (by kernel_rfl) (by kernel_rfl) rfl ?_
    obtain ⟨A33, c34, w35, r36, H37⟩ := H32.append (P := Try.prog) (e := 5) (sz := 1) (by_ := 1) (n := i) (c := b_) (m := 1) (d := 1) (t := 26) (ty := 26) (xs := by8 (putB x i)) (news := by8 ([(UInt8.ofNat (x / 256 ^ i))] : List UInt8)) 0 rfl (by kernel_rfl) (H32.rdBlk (o := 0) (xs := by8 ([(UInt8.ofNat (x / 256 ^ i))] : List UInt8)) 1 1 rfl rfl) (by first | (simp [by8_length]; done) | (rw [by8_length]; omega)) (by8_one _) (by omega) (by simp only [maxLen]; omega)
    rw [← by8_append] at H37
    have H37 : Hp w [] [.row A33 (i + 1) c34 5 1 (by8 ((putB x i) ++ ([(UInt8.ofNat (x / 256 ^ i))] : List UInt8))), .blk p29 [.int .u8 ((UInt8.ofNat (x / 256 ^ i)).toNat : Int)] 5] w35 := H37
    refine GL.sem (j := 6) (r36) [0, 1, 6, 18] [(0, .int .u64 ((x / 256 ^ i : Nat) : Int)), (1, .int .i64 (n : Int)), (6, .int .i64 (i : Int)), (18, .slice A33 (i + 1) c34)] (by kernel_rfl) (by kernel_rfl) rfl ?_
    refine GL.run (j := 7) 1 [0, 1, 5, 6] [(0, .int .u64 ((x / 256 ^ i : Nat) : Int)), (1, .int .i64 (n : Int)), (5, .slice A33 (i + 1) c34), (6, .int .i64 (i : Int))] (by kernel_rfl) rfl ?_
    refine GL.k rfl hK26 (fun _ _ h => h) ?_
    refine G.region ?_
    refine GL.run (j := 3) 3 [0, 1, 5, 6] [(0, .int .u64 (IntKind.u64.wrap (Int.tdiv ((x / 256 ^ i : Nat) : Int) 256))), (1, .int .i64 (n : Int)), (5, .slice A33 (i + 1) c34), (6, .int .i64 (i : Int))] (by kernel_rfl) rfl ?_
    have e38 : (IntKind.u64.wrap (Int.tdiv ((x / 256 ^ i : Nat) : Int) 256)) = (((x / 256 ^ i) / 256 : Nat) : Int) := n_quo 256 (Nat.lt_of_le_of_lt (Nat.div_le_self _ _) hx)
    refine GL.eq (M' := [(0, .int .u64 (((x / 256 ^ i) / 256 : Nat) : Int)), (1, .int .i64 (n : Int)), (5, .slice A33 (i + 1) c34), (6, .int .i64 (i : Int))]) (by rw [e38]) ?_
    clear e38
    refine GL.k rfl hK24 (fun _ _ h => h) ?_
    refine G.region ?_
    refine GL.run (j := 3) 3 [0, 1, 5, 6] [(0, .int .u64 (((x / 256 ^ i) / 256 : Nat) : Int)), (1, .int .i64 (n : Int)), (5, .slice A33 (i + 1) c34), (6, .int .i64 (IntKind.i64.wrap ((i : Int) + 1)))] (by kernel_rfl) rfl ?_
    have e39 : (IntKind.i64.wrap ((i : Int) + 1)) = ((i + 1 : Nat) : Int) := by rw [in_i64 (by omega)]; omega
    refine GL.eq (M' := [(0, .int .u64 (((x / 256 ^ i) / 256 : Nat) : Int)), (1, .int .i64 (n : Int)), (5, .slice A33 (i + 1) c34), (6, .int .i64 ((i + 1 : Nat) : Int))]) (by rw [e39]) ?_
    clear e39
    have H40 : Hp w [] [.row A33 (i + 1) c34 5 1 (by8 ((putB x i) ++ ([(UInt8.ofNat (x / 256 ^ i))] : List UInt8)))] w35 := H37.sub (List.Sublist.cons_cons _ (List.Sublist.cons _ (List.Sublist.slnil)))
    have H41 : Hp w [] [.row A33 (i + 1) c34 5 1 (by8 (putB x (i + 1)))] w35 := by rw [putB_snoc]; exact H40
    refine GL.fit (ts := [0, 1, 5, 6]) (M' := [(0, .int .u64 (((x / 256 ^ i) / 256 : Nat) : Int)), (1, .int .i64 (n : Int)), (5, .slice A33 (i + 1) c34), (6, .int .i64 ((i + 1 : Nat) : Int))]) (by kernel_rfl) ?_
    refine GL.eq (M' := [(0, .int .u64 ((x / 256 ^ (i + 1) : Nat) : Int)), (1, .int .i64 (n : Int)), (5, .slice A33 (i + 1) c34), (6, .int .i64 (((i + 1) : Nat) : Int))]) (by rw [Nat.pow_succ, ← Nat.div_div_eq_div_mul]) ?_
    exact GL.again ⟨(i + 1), A33, c34⟩ [0, 1, 5, 6] rfl (by kernel_rfl) (by show n - (i + 1) < n - i; omega) ⟨by omega, H41⟩
theorem ABytes_calls (e v : Nat) (he : e < 256) (w : World) : Calls Try.prog 10 #[.agg #[.int .i64 (e : Int), .int .u64 (v : Int)]] w fun e_ w' => ∃ A c, e_ = .returned (.slice A 9 c) ∧ Hp w [] [.row A 9 c 5 1 (by8 (putB e 1 ++ putB v 8))] w' := by
  refine calls_G (args := [.agg #[.int .i64 (e : Int), .int .u64 (v : Int)]]) Try.func10 rfl Try.ntmps10 rfl ?_
  intro Q0 hRet hNor hPan
  have H := Hp.start w
  have H : Hp w [] [] w := H
  refine G.seqK fun K1 hK2 => ?_
  refine G.region ?_
  obtain ⟨p3, w4, r5, H6⟩ := H.box (P := Try.prog) 38 [.int .i64 (e : Int), .int .u64 (v : Int)] (.agg #[.int .i64 (e : Int), .int .u64 (v : Int)]) rfl
  have H6 : Hp w [] [.blk p3 [.int .i64 (e : Int), .int .u64 (v : Int)] 38] w4 := H6
  refine GL.sem (j := 1) (r5) [1] [(1, pt p3 0)] (by kernel_rfl) (by kernel_rfl) rfl ?_
  refine GL.run (j := 2) 1 [1] [(1, pt p3 0)] (by kernel_rfl) rfl ?_
  refine GL.k rfl hK2 (fun _ _ h => h) ?_
  refine G.seqK fun K7 hK8 => ?_
  refine G.region ?_
  obtain ⟨p9, w10, r11, H12⟩ := H6.alloc (P := Try.prog) 53 [.slice none 0 0] (by kernel_rfl)
  have H12 : Hp w [] [.blk p3 [.int .i64 (e : Int), .int .u64 (v : Int)] 38, .blk p9 [.slice none 0 0] 53] w10 := H12
  refine GL.sem (j := 1) (r11) [1, 3] [(1, pt p3 0), (3, pt p9 0)] (by kernel_rfl) (by kernel_rfl) rfl ?_
  refine GL.k rfl hK8 (fun _ _ h => h) ?_
  refine G.seqK fun K13 hK14 => ?_
  refine G.region ?_
  refine GL.run (j := 1) 1 [1, 3, 4] [(1, pt p3 0), (3, pt p9 0), (4, pt p3 0)] (by kernel_rfl) rfl ?_
  refine GL.sem (j := 2) (H12.ld (o := 0) (ty := 30) (v := .int .i64 (e : Int)) 0 rfl (by kernel_rfl) rfl) [1, 3, 5] [(1, pt p3 0), (3, pt p9 0), (5, .int .i64 (e : Int))] (by kernel_rfl) (by kernel_rfl) rfl ?_
  refine GL.run (j := 4) 2 [1, 3, 7] [(1, pt p3 0), (3, pt p9 0), (7, .int .u64 (IntKind.u64.wrap (IntKind.u8.wrap (e : Int))))] (by kernel_rfl) rfl ?_
  have e15 : (IntKind.u8.wrap (e : Int)) = (e : Int) := in_u8 (by omega)
  have e16 : (IntKind.u64.wrap (e : Int)) = (e : Int) := in_u64 (by omega)
  refine GL.eq (M' := [(1, pt p3 0), (3, pt p9 0), (7, .int .u64 (e : Int))]) (by rw [e15, e16]) ?_
  clear e15 e16
  have H17 := H12.rowNil 5 1
  have H17 : Hp w [] [.blk p3 [.int .i64 (e : Int), .int .u64 (v : Int)] 38, .blk p9 [.slice none 0 0] 53, .row none 0 0 5 1 (by8 ([] : List UInt8))] w10 := H17
  have H20 := (Hp.reorder (L' := [.blk p9 [.slice none 0 0] 53, .row none 0 0 5 1 (by8 ([] : List UInt8)), .blk p3 [.int .i64 (e : Int), .int .u64 (v : Int)] 38]) H17 (List.Perm.trans (List.Perm.swap _ _ _) (List.Perm.cons _ (List.Perm.trans (List.Perm.swap _ _ _) (List.Perm.refl _)))))
  refine GL.call (j := 5) (Put1_calls (ids [.blk p9 [.slice none 0 0] 53, .row none 0 0 5 1 (by8 ([] : List UInt8))]) p9 none 0 0 ([] : List UInt8) e w10 (Hp.startL (A := [.blk p9 [.slice none 0 0] 53, .row none 0 0 5 1 (by8 ([] : List UInt8))]) (B := [.blk p3 [.int .i64 (e : Int), .int .u64 (v : Int)] 38]) H20) (by omega)) (by kernel_rfl) rfl (fun e_ w21 hR => ?_)
  obtain ⟨A18, c19, rfl, H23⟩ := hR
  have H22 : Hp w [] [.blk p9 [.slice A18 1 c19] 53, .row A18 1 c19 5 1 (by8 (putB e 1)), .blk p3 [.int .i64 (e : Int), .int .u64 (v : Int)] 38] w21 := Hp.callL (A := [.blk p9 [.slice none 0 0] 53, .row none 0 0 5 1 (by8 ([] : List UInt8))]) (B := [.blk p3 [.int .i64 (e : Int), .int .u64 (v : Int)] 38]) H20 H23
  refine ⟨_, rfl, [1, 3], [(1, pt p3 0), (3, pt p9 0)], by kernel_rfl, ?_⟩
  refine GL.k rfl hK14 (fun _ _ h => h) ?_
  refine G.seqK fun K24 hK25 => ?_
  refine G.region ?_
  refine GL.run (j := 1) 1 [3, 9] [(3, pt p9 0), (9, pt p3 1)] (by kernel_rfl) rfl ?_
  refine GL.sem (j := 2) (H22.ld (o := 1) (ty := 23) (v := .int .u64 (v : Int)) 2 rfl (by kernel_rfl) rfl) [3, 10] [(3, pt p9 0), (10, .int .u64 (v : Int))] (by kernel_rfl) (by kernel_rfl) rfl ?_
  refine GL.call (j := 3) (Put8_calls (ids [.blk p9 [.slice A18 1 c19] 53, .row A18 1 c19 5 1 (by8 (putB e 1))]) p9 A18 1 c19 (putB e 1) v w21 (Hp.startL (A := [.blk p9 [.slice A18 1 c19] 53, .row A18 1 c19 5 1 (by8 (putB e 1))]) (B := [.blk p3 [.int .i64 (e : Int), .int .u64 (v : Int)] 38]) H22) (by omega)) (by kernel_rfl) rfl (fun e_ w28 hR => ?_)
  obtain ⟨A26, c27, rfl, H30⟩ := hR
  have H29 : Hp w [] [.blk p9 [.slice A26 9 c27] 53, .row A26 9 c27 5 1 (by8 ((putB e 1) ++ (putB v 8))), .blk p3 [.int .i64 (e : Int), .int .u64 (v : Int)] 38] w28 := Hp.callL (A := [.blk p9 [.slice A18 1 c19] 53, .row A18 1 c19 5 1 (by8 (putB e 1))]) (B := [.blk p3 [.int .i64 (e : Int), .int .u64 (v : Int)] 38]) H22 H30
  refine ⟨_, rfl, [3], [(3, pt p9 0)], by kernel_rfl, ?_⟩
  refine GL.k rfl hK25 (fun _ _ h => h) ?_
  refine G.seqK fun K31 hK32 => ?_
  refine G.region ?_
  refine GL.call (j := 1) (WBytes_calls (ids [.blk p9 [.slice A26 9 c27] 53, .row A26 9 c27 5 1 (by8 ((putB e 1) ++ (putB v 8)))]) p9 A26 9 c27 ((putB e 1) ++ (putB v 8)) w28 (Hp.startL (A := [.blk p9 [.slice A26 9 c27] 53, .row A26 9 c27 5 1 (by8 ((putB e 1) ++ (putB v 8)))]) (B := [.blk p3 [.int .i64 (e : Int), .int .u64 (v : Int)] 38]) H29) (by omega)) (by kernel_rfl) rfl (fun e_ w35 hR => ?_)
  obtain ⟨A33, c34, rfl, H37⟩ := hR
  have H36 : Hp w [] [.blk p9 [.slice A26 9 c27] 53, .row A26 9 c27 5 1 (by8 ((putB e 1) ++ (putB v 8))), .row A33 9 c34 5 1 (by8 ((putB e 1) ++ (putB v 8))), .blk p3 [.int .i64 (e : Int), .int .u64 (v : Int)] 38] w35 := Hp.callL (A := [.blk p9 [.slice A26 9 c27] 53, .row A26 9 c27 5 1 (by8 ((putB e 1) ++ (putB v 8)))]) (B := [.blk p3 [.int .i64 (e : Int), .int .u64 (v : Int)] 38]) H29 H37
  refine ⟨_, rfl, [12], [(12, .slice A33 9 c34)], by kernel_rfl, ?_⟩
  refine GL.run (j := 2) 1 [2] [(2, .slice A33 9 c34)] (by kernel_rfl) rfl ?_
  refine GL.k rfl hK32 (fun _ _ h => h) ?_
  refine G.ret ?_
  intro F_ hF_ hM_
  refine hRet _ _ (bodyPost_1 rfl (RV.tmp rfl) ?_ F_ hF_ hM_)
  have H38 : Hp w [] [.row A33 9 c34 5 1 (by8 ((putB e 1) ++ (putB v 8)))] w35 := H36.sub (List.Sublist.cons _ (List.Sublist.cons _ (List.Sublist.cons_cons _ (List.Sublist.cons _ (List.Sublist.slnil)))))
  exact ⟨_, _, rfl, H38⟩
theorem PAnswer_nine (xs : List UInt8) (A : Option Addr) (n c : Nat) (w : World) (hx : RdS w A (by8 xs)) (hn : n = xs.length) (hb : n ≤ 1000000) (h9 : n = 9) : Calls Try.prog 12 #[.slice A n c] w fun e w' => e = .returned (.tuple #[.agg #[.int .i64 ((paA xs : Nat) : Int), .int .u64 ((paV xs : Nat) : Int)], .int .i64 ((paE xs : Nat) : Int)]) ∧ Hp w [] [] w' := by
  refine calls_G (args := [.slice A n c]) Try.func12 rfl Try.ntmps12 rfl ?_
  intro Q0 hRet hNor hPan
  have H := Hp.start w
  have H : Hp w [] [] w := H
  refine G.seqK fun K1 hK2 => ?_
  refine G.region ?_
  obtain ⟨p3, w4, r5, H6⟩ := H.alloc (P := Try.prog) 38 [.int .i64 0, .int .u64 0] (by kernel_rfl)
  have H6 : Hp w [] [.blk p3 [.int .i64 0, .int .u64 0] 38] w4 := H6
  refine GL.sem (j := 1) (r5) [0, 2] [(0, .slice A n c), (2, pt p3 0)] (by kernel_rfl) (by kernel_rfl) rfl ?_
  refine GL.run (j := 2) 1 [0, 2] [(0, .slice A n c), (2, pt p3 0)] (by kernel_rfl) rfl ?_
  refine GL.k rfl hK2 (fun _ _ h => h) ?_
  refine G.seqK fun K7 hK8 => ?_
  refine G.region ?_
  refine GL.run (j := 1) 1 [2, 6] [(2, pt p3 0), (6, .slice A n c)] (by kernel_rfl) rfl ?_
  refine GL.call (j := 2) (Read_calls xs A n c w4 (hx.hp H6) (by omega) (by omega)) (by kernel_rfl) rfl (fun e_ w14 hR => ?_)
  obtain ⟨p9, A10, c11, rfl, H13⟩ := hR
  have H12 : Hp w [] [.blk p3 [.int .i64 0, .int .u64 0] 38, .row A10 n c11 5 1 (by8 xs), .blk p9 [.slice A10 n c11, .bool false] 74] w14 := H6.callNew H13
  have hk15 : n = xs.length := by omega
  have hc16 := (H12.rowLe 1 rfl).1
  refine ⟨_, rfl, [2, 7], [(2, pt p3 0), (7, pt p9 0)], by kernel_rfl, ?_⟩
  refine GL.run (j := 3) 1 [2, 4] [(2, pt p3 0), (4, pt p9 0)] (by kernel_rfl) rfl ?_
  refine GL.k rfl hK8 (fun _ _ h => h) ?_
  refine G.seqK fun K17 hK18 => ?_
  refine G.region ?_
  refine GL.run (j := 1) 1 [2, 4, 8] [(2, pt p3 0), (4, pt p9 0), (8, pt p9 0)] (by kernel_rfl) rfl ?_
  have H23 := (Hp.reorder (L' := [.blk p9 [.slice A10 n c11, .bool false] 74, .row A10 n c11 5 1 (by8 xs), .blk p3 [.int .i64 0, .int .u64 0] 38]) H12 (List.Perm.trans (List.Perm.cons _ (List.Perm.swap _ _ _)) (List.Perm.trans (List.Perm.swap _ _ _) (List.Perm.cons _ (List.Perm.trans (List.Perm.swap _ _ _) (List.Perm.refl _))))))
  refine GL.call (j := 2) (Get1_calls (ids [.blk p9 [.slice A10 n c11, .bool false] 74, .row A10 n c11 5 1 (by8 xs)]) p9 A10 n c11 false A10 n c11 xs xs w14 (Hp.startL (A := [.blk p9 [.slice A10 n c11, .bool false] 74, .row A10 n c11 5 1 (by8 xs)]) (B := [.blk p3 [.int .i64 0, .int .u64 0] 38]) H23) (Cut.refl _ _) (hk15) (hc16) ((by omega))) (by kernel_rfl) rfl (fun e_ w24 hR => ?_)
  obtain ⟨A19, c20, rfl, H26, hC21, hL22⟩ := hR
  have H25 : Hp w [] [.blk p9 [.slice A19 ((rR false xs 1).length) c20, .bool (!(rOK false xs 1))] 74, .row A10 n c11 5 1 (by8 xs), .blk p3 [.int .i64 0, .int .u64 0] 38] w24 := Hp.callL (A := [.blk p9 [.slice A10 n c11, .bool false] 74, .row A10 n c11 5 1 (by8 xs)]) (B := [.blk p3 [.int .i64 0, .int .u64 0] 38]) H23 H26
  refine ⟨_, rfl, [2, 4, 9], [(2, pt p3 0), (4, pt p9 0), (9, .int .u64 (((getB (rV false xs 1)) : Nat) : Int))], by kernel_rfl, ?_⟩
  refine GL.run (j := 4) 2 [2, 4, 10, 11] [(2, pt p3 0), (4, pt p9 0), (10, .int .i64 (IntKind.i64.wrap (((getB (rV false xs 1)) : Nat) : Int))), (11, pt p9 0)] (by kernel_rfl) rfl ?_
  have e27 : (IntKind.i64.wrap (((getB (rV false xs 1)) : Nat) : Int)) = (((getB (rV false xs 1)) : Nat) : Int) := in_i64 (by have := ans1_lt xs; unfold ans1 at this; omega)
  refine GL.eq (M' := [(2, pt p3 0), (4, pt p9 0), (10, .int .i64 (((getB (rV false xs 1)) : Nat) : Int)), (11, pt p9 0)]) (by rw [e27]) ?_
  clear e27
  refine GL.call (j := 5) (Get8_calls (ids [.blk p9 [.slice A19 ((rR false xs 1).length) c20, .bool (!(rOK false xs 1))] 74, .row A10 n c11 5 1 (by8 xs)]) p9 A19 ((rR false xs 1).length) c20 (!(rOK false xs 1)) A10 n c11 xs (rR false xs 1) w24 (Hp.startL (A := [.blk p9 [.slice A19 ((rR false xs 1).length) c20, .bool (!(rOK false xs 1))] 74, .row A10 n c11 5 1 (by8 xs)]) (B := [.blk p3 [.int .i64 0, .int .u64 0] 38]) H25) hC21 (rfl) (hL22) ((Nat.le_trans (rR_le _ _ _) (hk15 ▸ (by omega))))) (by kernel_rfl) rfl (fun e_ w32 hR => ?_)
  obtain ⟨A28, c29, rfl, H34, hC30, hL31⟩ := hR
  have H33 : Hp w [] [.blk p9 [.slice A28 ((rR (!(rOK false xs 1)) (rR false xs 1) 8).length) c29, .bool (!(rOK (!(rOK false xs 1)) (rR false xs 1) 8))] 74, .row A10 n c11 5 1 (by8 xs), .blk p3 [.int .i64 0, .int .u64 0] 38] w32 := Hp.callL (A := [.blk p9 [.slice A19 ((rR false xs 1).length) c20, .bool (!(rOK false xs 1))] 74, .row A10 n c11 5 1 (by8 xs)]) (B := [.blk p3 [.int .i64 0, .int .u64 0] 38]) H25 H34
  refine ⟨_, rfl, [2, 4, 10, 12], [(2, pt p3 0), (4, pt p9 0), (10, .int .i64 (((getB (rV false xs 1)) : Nat) : Int)), (12, .int .u64 (((getB (rV (!(rOK false xs 1)) (rR false xs 1) 8)) : Nat) : Int))], by kernel_rfl, ?_⟩
  refine GL.run (j := 6) 1 [2, 4, 13] [(2, pt p3 0), (4, pt p9 0), (13, .agg #[.int .i64 (((getB (rV false xs 1)) : Nat) : Int), .int .u64 (((getB (rV (!(rOK false xs 1)) (rR false xs 1) 8)) : Nat) : Int)])] (by kernel_rfl) rfl ?_
  obtain ⟨p35, w36, r37, H38⟩ := H33.alloc (P := Try.prog) 38 [.int .i64 0, .int .u64 0] (by kernel_rfl)
  have H38 : Hp w [] [.blk p9 [.slice A28 ((rR (!(rOK false xs 1)) (rR false xs 1) 8).length) c29, .bool (!(rOK (!(rOK false xs 1)) (rR false xs 1) 8))] 74, .row A10 n c11 5 1 (by8 xs), .blk p3 [.int .i64 0, .int .u64 0] 38, .blk p35 [.int .i64 0, .int .u64 0] 38] w36 := H38
  refine GL.sem (j := 7) (r37) [2, 4, 5, 13] [(2, pt p3 0), (4, pt p9 0), (5, pt p35 0), (13, .agg #[.int .i64 (((getB (rV false xs 1)) : Nat) : Int), .int .u64 (((getB (rV (!(rOK false xs 1)) (rR false xs 1) 8)) : Nat) : Int)])] (by kernel_rfl) (by kernel_rfl) rfl ?_
  obtain ⟨w39, r40, H41⟩ := H38.stA (P := Try.prog) (o := 0) (vs := [.int .i64 (((getB (rV false xs 1)) : Nat) : Int), .int .u64 (((getB (rV (!(rOK false xs 1)) (rR false xs 1) 8)) : Nat) : Int)]) (ty := 38) (m := 2) 3 rfl (by kernel_rfl) rfl (by simp) (by simp [Value.oneCell'])
  have H41 : Hp w [] [.blk p9 [.slice A28 ((rR (!(rOK false xs 1)) (rR false xs 1) 8).length) c29, .bool (!(rOK (!(rOK false xs 1)) (rR false xs 1) 8))] 74, .row A10 n c11 5 1 (by8 xs), .blk p3 [.int .i64 0, .int .u64 0] 38, .blk p35 [.int .i64 (((getB (rV false xs 1)) : Nat) : Int), .int .u64 (((getB (rV (!(rOK false xs 1)) (rR false xs 1) 8)) : Nat) : Int)] 38] w39 := H41
  refine GL.semU (j := 8) r40 [2, 4, 5] [(2, pt p3 0), (4, pt p9 0), (5, pt p35 0)] (by kernel_rfl) rfl rfl rfl ?_
  refine GL.k rfl hK18 (fun _ _ h => h) ?_
  refine G.seqK fun K42 hK43 => ?_
  refine G.seqK fun K44 hK45 => ?_
  refine G.region ?_
  refine GL.run (j := 1) 1 [2, 5, 14] [(2, pt p3 0), (5, pt p35 0), (14, pt p9 0)] (by kernel_rfl) rfl ?_
  refine GL.call (j := 2) (End_calls (ids [.blk p9 [.slice A28 ((rR (!(rOK false xs 1)) (rR false xs 1) 8).length) c29, .bool (!(rOK (!(rOK false xs 1)) (rR false xs 1) 8))] 74, .row A10 n c11 5 1 (by8 xs)]) p9 A28 ((rR (!(rOK false xs 1)) (rR false xs 1) 8).length) c29 (!(rOK (!(rOK false xs 1)) (rR false xs 1) 8)) A10 n c11 xs (rR (!(rOK false xs 1)) (rR false xs 1) 8) w39 (Hp.startL (A := [.blk p9 [.slice A28 ((rR (!(rOK false xs 1)) (rR false xs 1) 8).length) c29, .bool (!(rOK (!(rOK false xs 1)) (rR false xs 1) 8))] 74, .row A10 n c11 5 1 (by8 xs)]) (B := [.blk p3 [.int .i64 0, .int .u64 0] 38, .blk p35 [.int .i64 (((getB (rV false xs 1)) : Nat) : Int), .int .u64 (((getB (rV (!(rOK false xs 1)) (rR false xs 1) 8)) : Nat) : Int)] 38]) H41) (rfl)) (by kernel_rfl) rfl (fun e_ w46 hR => ?_)
  obtain ⟨rfl, H48⟩ := hR
  have H47 : Hp w [] [.blk p9 [.slice A28 ((rR (!(rOK false xs 1)) (rR false xs 1) 8).length) c29, .bool (!(rOK (!(rOK false xs 1)) (rR false xs 1) 8))] 74, .row A10 n c11 5 1 (by8 xs), .blk p3 [.int .i64 0, .int .u64 0] 38, .blk p35 [.int .i64 (((getB (rV false xs 1)) : Nat) : Int), .int .u64 (((getB (rV (!(rOK false xs 1)) (rR false xs 1) 8)) : Nat) : Int)] 38] w46 := Hp.callL (A := [.blk p9 [.slice A28 ((rR (!(rOK false xs 1)) (rR false xs 1) 8).length) c29, .bool (!(rOK (!(rOK false xs 1)) (rR false xs 1) 8))] 74, .row A10 n c11 5 1 (by8 xs)]) (B := [.blk p3 [.int .i64 0, .int .u64 0] 38, .blk p35 [.int .i64 (((getB (rV false xs 1)) : Nat) : Int), .int .u64 (((getB (rV (!(rOK false xs 1)) (rR false xs 1) 8)) : Nat) : Int)] 38]) H41 H48
  refine ⟨_, rfl, [2, 5, 15], [(2, pt p3 0), (5, pt p35 0), (15, .bool (!(!(rOK (!(rOK false xs 1)) (rR false xs 1) 8)) && ((rR (!(rOK false xs 1)) (rR false xs 1) 8).length == 0)))], by kernel_rfl, ?_⟩
  refine GL.run (j := 4) 2 [2, 5, 17] [(2, pt p3 0), (5, pt p35 0), (17, .bool (!(!(!(rOK (!(rOK false xs 1)) (rR false xs 1) 8)) && ((rR (!(rOK false xs 1)) (rR false xs 1) 8).length == 0))))] (by kernel_rfl) rfl ?_
  have hb49 : (!(!(!(rOK (!(rOK false xs 1)) (rR false xs 1) 8)) && ((rR (!(rOK false xs 1)) (rR false xs 1) 8).length == 0))) = false := by rw [show (!(!(rOK (!(rOK false xs 1)) (rR false xs 1) 8)) && ((rR (!(rOK false xs 1)) (rR false xs 1) 8).length == 0)) = true from (end9 xs).trans (decide_eq_true (by omega))]; rfl
  rw [hb49]
  refine GL.run (j := 5) 1 [2, 5, 17, 18] [(2, pt p3 0), (5, pt p35 0), (17, .bool false), (18, pt p35 0)] (by kernel_rfl) rfl ?_
  refine GL.sem (j := 6) (H47.ld (o := 0) (ty := 30) (v := .int .i64 (((getB (rV false xs 1)) : Nat) : Int)) 3 rfl (by kernel_rfl) rfl) [2, 5, 17, 19] [(2, pt p3 0), (5, pt p35 0), (17, .bool false), (19, .int .i64 (((getB (rV false xs 1)) : Nat) : Int))] (by kernel_rfl) (by kernel_rfl) rfl ?_
  refine GL.run (j := 8) 2 [2, 5, 21] [(2, pt p3 0), (5, pt p35 0), (21, .bool (decide (23 < (((getB (rV false xs 1)) : Nat) : Int))))] (by kernel_rfl) rfl ?_
  refine GL.k rfl hK45 (fun _ _ h => h) ?_
  cases hb50 : (decide (23 < (((getB (rV false xs 1)) : Nat) : Int)))
  · skip
    have hb50f := of_decide_eq_false hb50
    refine G.no rfl ?_
    refine G.skipK hK43 (fun _ _ h => h) ?_
    refine G.seqK fun K51 hK52 => ?_
    refine G.region ?_
    refine GL.sem (j := 1) (H47.ldA (o := 0) (ty := 38) (m := 2) (sub := [.int .i64 (((getB (rV false xs 1)) : Nat) : Int), .int .u64 (((getB (rV (!(rOK false xs 1)) (rR false xs 1) 8)) : Nat) : Int)]) 3 rfl (by kernel_rfl) rfl rfl) [2, 23] [(2, pt p3 0), (23, .agg #[.int .i64 (((getB (rV false xs 1)) : Nat) : Int), .int .u64 (((getB (rV (!(rOK false xs 1)) (rR false xs 1) 8)) : Nat) : Int)])] (by kernel_rfl) (by kernel_rfl) rfl ?_
    obtain ⟨w53, r54, H55⟩ := H47.stA (P := Try.prog) (o := 0) (vs := [.int .i64 (((getB (rV false xs 1)) : Nat) : Int), .int .u64 (((getB (rV (!(rOK false xs 1)) (rR false xs 1) 8)) : Nat) : Int)]) (ty := 38) (m := 2) 2 rfl (by kernel_rfl) rfl (by simp) (by simp [Value.oneCell'])
    have H55 : Hp w [] [.blk p9 [.slice A28 ((rR (!(rOK false xs 1)) (rR false xs 1) 8).length) c29, .bool (!(rOK (!(rOK false xs 1)) (rR false xs 1) 8))] 74, .row A10 n c11 5 1 (by8 xs), .blk p3 [.int .i64 (((getB (rV false xs 1)) : Nat) : Int), .int .u64 (((getB (rV (!(rOK false xs 1)) (rR false xs 1) 8)) : Nat) : Int)] 38, .blk p35 [.int .i64 (((getB (rV false xs 1)) : Nat) : Int), .int .u64 (((getB (rV (!(rOK false xs 1)) (rR false xs 1) 8)) : Nat) : Int)] 38] w53 := H55
    refine GL.semU (j := 2) r54 [2] [(2, pt p3 0)] (by kernel_rfl) rfl rfl rfl ?_
    refine GL.run (j := 3) 1 [2, 3] [(2, pt p3 0), (3, .int .i64 0)] (by kernel_rfl) rfl ?_
    refine GL.k rfl hK52 (fun _ _ h => h) ?_
    refine G.ret ?_
    intro F_ hF_ hM_
    refine hRet _ _ (bodyPost_2 rfl (RV.cell rfl (H55.ldA (o := 0) (ty := 38) (m := 2) (sub := [.int .i64 (((getB (rV false xs 1)) : Nat) : Int), .int .u64 (((getB (rV (!(rOK false xs 1)) (rR false xs 1) 8)) : Nat) : Int)]) 2 rfl (by kernel_rfl) rfl rfl)) (RV.tmp rfl) ?_ F_ hF_ hM_)
    have h23 : ans1 xs ≤ 23 := by show getB (rV false xs 1) ≤ 23; omega
    rw [show paE xs = 0 from if_pos ⟨by omega, h23⟩, show paA xs = ans1 xs from if_pos ⟨by omega, h23⟩, show paV xs = ans8 xs from if_pos ⟨by omega, h23⟩]
    exact ⟨rfl, H55.sub (List.nil_sublist _)⟩
  · skip
    have hb50f := of_decide_eq_true hb50
    refine G.yes rfl ?_
    refine G.seqK fun K56 hK57 => ?_
    refine G.region ?_
    refine GL.run (j := 1) 1 [2, 22] [(2, pt p3 0), (22, .agg #[.int .i64 0, .int .u64 0])] (by kernel_rfl) rfl ?_
    obtain ⟨w58, r59, H60⟩ := H47.stA (P := Try.prog) (o := 0) (vs := [.int .i64 0, .int .u64 0]) (ty := 38) (m := 2) 2 rfl (by kernel_rfl) rfl (by simp) (by simp [Value.oneCell'])
    have H60 : Hp w [] [.blk p9 [.slice A28 ((rR (!(rOK false xs 1)) (rR false xs 1) 8).length) c29, .bool (!(rOK (!(rOK false xs 1)) (rR false xs 1) 8))] 74, .row A10 n c11 5 1 (by8 xs), .blk p3 [.int .i64 0, .int .u64 0] 38, .blk p35 [.int .i64 (((getB (rV false xs 1)) : Nat) : Int), .int .u64 (((getB (rV (!(rOK false xs 1)) (rR false xs 1) 8)) : Nat) : Int)] 38] w58 := H60
    refine GL.semU (j := 2) r59 [2] [(2, pt p3 0)] (by kernel_rfl) rfl rfl rfl ?_
    refine GL.run (j := 3) 1 [2, 3] [(2, pt p3 0), (3, .int .i64 2)] (by kernel_rfl) rfl ?_
    refine GL.k rfl hK57 (fun _ _ h => h) ?_
    refine G.ret ?_
    intro F_ hF_ hM_
    refine hRet _ _ (bodyPost_2 rfl (RV.cell rfl (H60.ldA (o := 0) (ty := 38) (m := 2) (sub := [.int .i64 0, .int .u64 0]) 2 rfl (by kernel_rfl) rfl rfl)) (RV.tmp rfl) ?_ F_ hF_ hM_)
    have h23 : ¬ (xs.length = 9 ∧ ans1 xs ≤ 23) := by rintro ⟨_, h⟩; change getB (rV false xs 1) ≤ 23 at h; omega
    rw [show paE xs = 2 from if_neg h23, show paA xs = 0 from if_neg h23, show paV xs = 0 from if_neg h23]
    exact ⟨rfl, H60.sub (List.nil_sublist _)⟩
theorem PAnswer_other (xs : List UInt8) (A : Option Addr) (n c : Nat) (w : World) (hx : RdS w A (by8 xs)) (hn : n = xs.length) (hb : n ≤ 1000000) (h9 : n ≠ 9) : Calls Try.prog 12 #[.slice A n c] w fun e w' => e = .returned (.tuple #[.agg #[.int .i64 ((paA xs : Nat) : Int), .int .u64 ((paV xs : Nat) : Int)], .int .i64 ((paE xs : Nat) : Int)]) ∧ Hp w [] [] w' := by
  refine calls_G (args := [.slice A n c]) Try.func12 rfl Try.ntmps12 rfl ?_
  intro Q0 hRet hNor hPan
  have H := Hp.start w
  have H : Hp w [] [] w := H
  refine G.seqK fun K1 hK2 => ?_
  refine G.region ?_
  obtain ⟨p3, w4, r5, H6⟩ := H.alloc (P := Try.prog) 38 [.int .i64 0, .int .u64 0] (by kernel_rfl)
  have H6 : Hp w [] [.blk p3 [.int .i64 0, .int .u64 0] 38] w4 := H6
  refine GL.sem (j := 1) (r5) [0, 2] [(0, .slice A n c), (2, pt p3 0)] (by kernel_rfl) (by kernel_rfl) rfl ?_
  refine GL.run (j := 2) 1 [0, 2] [(0, .slice A n c), (2, pt p3 0)] (by kernel_rfl) rfl ?_
  refine GL.k rfl hK2 (fun _ _ h => h) ?_
  refine G.seqK fun K7 hK8 => ?_
  refine G.region ?_
  refine GL.run (j := 1) 1 [2, 6] [(2, pt p3 0), (6, .slice A n c)] (by kernel_rfl) rfl ?_
  refine GL.call (j := 2) (Read_calls xs A n c w4 (hx.hp H6) (by omega) (by omega)) (by kernel_rfl) rfl (fun e_ w14 hR => ?_)
  obtain ⟨p9, A10, c11, rfl, H13⟩ := hR
  have H12 : Hp w [] [.blk p3 [.int .i64 0, .int .u64 0] 38, .row A10 n c11 5 1 (by8 xs), .blk p9 [.slice A10 n c11, .bool false] 74] w14 := H6.callNew H13
  have hk15 : n = xs.length := by omega
  have hc16 := (H12.rowLe 1 rfl).1
  refine ⟨_, rfl, [2, 7], [(2, pt p3 0), (7, pt p9 0)], by kernel_rfl, ?_⟩
  refine GL.run (j := 3) 1 [2, 4] [(2, pt p3 0), (4, pt p9 0)] (by kernel_rfl) rfl ?_
  refine GL.k rfl hK8 (fun _ _ h => h) ?_
  refine G.seqK fun K17 hK18 => ?_
  refine G.region ?_
  refine GL.run (j := 1) 1 [2, 4, 8] [(2, pt p3 0), (4, pt p9 0), (8, pt p9 0)] (by kernel_rfl) rfl ?_
  have H23 := (Hp.reorder (L' := [.blk p9 [.slice A10 n c11, .bool false] 74, .row A10 n c11 5 1 (by8 xs), .blk p3 [.int .i64 0, .int .u64 0] 38]) H12 (List.Perm.trans (List.Perm.cons _ (List.Perm.swap _ _ _)) (List.Perm.trans (List.Perm.swap _ _ _) (List.Perm.cons _ (List.Perm.trans (List.Perm.swap _ _ _) (List.Perm.refl _))))))
  refine GL.call (j := 2) (Get1_calls (ids [.blk p9 [.slice A10 n c11, .bool false] 74, .row A10 n c11 5 1 (by8 xs)]) p9 A10 n c11 false A10 n c11 xs xs w14 (Hp.startL (A := [.blk p9 [.slice A10 n c11, .bool false] 74, .row A10 n c11 5 1 (by8 xs)]) (B := [.blk p3 [.int .i64 0, .int .u64 0] 38]) H23) (Cut.refl _ _) (hk15) (hc16) ((by omega))) (by kernel_rfl) rfl (fun e_ w24 hR => ?_)
  obtain ⟨A19, c20, rfl, H26, hC21, hL22⟩ := hR
  have H25 : Hp w [] [.blk p9 [.slice A19 ((rR false xs 1).length) c20, .bool (!(rOK false xs 1))] 74, .row A10 n c11 5 1 (by8 xs), .blk p3 [.int .i64 0, .int .u64 0] 38] w24 := Hp.callL (A := [.blk p9 [.slice A10 n c11, .bool false] 74, .row A10 n c11 5 1 (by8 xs)]) (B := [.blk p3 [.int .i64 0, .int .u64 0] 38]) H23 H26
  refine ⟨_, rfl, [2, 4, 9], [(2, pt p3 0), (4, pt p9 0), (9, .int .u64 (((getB (rV false xs 1)) : Nat) : Int))], by kernel_rfl, ?_⟩
  refine GL.run (j := 4) 2 [2, 4, 10, 11] [(2, pt p3 0), (4, pt p9 0), (10, .int .i64 (IntKind.i64.wrap (((getB (rV false xs 1)) : Nat) : Int))), (11, pt p9 0)] (by kernel_rfl) rfl ?_
  have e27 : (IntKind.i64.wrap (((getB (rV false xs 1)) : Nat) : Int)) = (((getB (rV false xs 1)) : Nat) : Int) := in_i64 (by have := ans1_lt xs; unfold ans1 at this; omega)
  refine GL.eq (M' := [(2, pt p3 0), (4, pt p9 0), (10, .int .i64 (((getB (rV false xs 1)) : Nat) : Int)), (11, pt p9 0)]) (by rw [e27]) ?_
  clear e27
  refine GL.call (j := 5) (Get8_calls (ids [.blk p9 [.slice A19 ((rR false xs 1).length) c20, .bool (!(rOK false xs 1))] 74, .row A10 n c11 5 1 (by8 xs)]) p9 A19 ((rR false xs 1).length) c20 (!(rOK false xs 1)) A10 n c11 xs (rR false xs 1) w24 (Hp.startL (A := [.blk p9 [.slice A19 ((rR false xs 1).length) c20, .bool (!(rOK false xs 1))] 74, .row A10 n c11 5 1 (by8 xs)]) (B := [.blk p3 [.int .i64 0, .int .u64 0] 38]) H25) hC21 (rfl) (hL22) ((Nat.le_trans (rR_le _ _ _) (hk15 ▸ (by omega))))) (by kernel_rfl) rfl (fun e_ w32 hR => ?_)
  obtain ⟨A28, c29, rfl, H34, hC30, hL31⟩ := hR
  have H33 : Hp w [] [.blk p9 [.slice A28 ((rR (!(rOK false xs 1)) (rR false xs 1) 8).length) c29, .bool (!(rOK (!(rOK false xs 1)) (rR false xs 1) 8))] 74, .row A10 n c11 5 1 (by8 xs), .blk p3 [.int .i64 0, .int .u64 0] 38] w32 := Hp.callL (A := [.blk p9 [.slice A19 ((rR false xs 1).length) c20, .bool (!(rOK false xs 1))] 74, .row A10 n c11 5 1 (by8 xs)]) (B := [.blk p3 [.int .i64 0, .int .u64 0] 38]) H25 H34
  refine ⟨_, rfl, [2, 4, 10, 12], [(2, pt p3 0), (4, pt p9 0), (10, .int .i64 (((getB (rV false xs 1)) : Nat) : Int)), (12, .int .u64 (((getB (rV (!(rOK false xs 1)) (rR false xs 1) 8)) : Nat) : Int))], by kernel_rfl, ?_⟩
  refine GL.run (j := 6) 1 [2, 4, 13] [(2, pt p3 0), (4, pt p9 0), (13, .agg #[.int .i64 (((getB (rV false xs 1)) : Nat) : Int), .int .u64 (((getB (rV (!(rOK false xs 1)) (rR false xs 1) 8)) : Nat) : Int)])] (by kernel_rfl) rfl ?_
  obtain ⟨p35, w36, r37, H38⟩ := H33.alloc (P := Try.prog) 38 [.int .i64 0, .int .u64 0] (by kernel_rfl)
  have H38 : Hp w [] [.blk p9 [.slice A28 ((rR (!(rOK false xs 1)) (rR false xs 1) 8).length) c29, .bool (!(rOK (!(rOK false xs 1)) (rR false xs 1) 8))] 74, .row A10 n c11 5 1 (by8 xs), .blk p3 [.int .i64 0, .int .u64 0] 38, .blk p35 [.int .i64 0, .int .u64 0] 38] w36 := H38
  refine GL.sem (j := 7) (r37) [2, 4, 5, 13] [(2, pt p3 0), (4, pt p9 0), (5, pt p35 0), (13, .agg #[.int .i64 (((getB (rV false xs 1)) : Nat) : Int), .int .u64 (((getB (rV (!(rOK false xs 1)) (rR false xs 1) 8)) : Nat) : Int)])] (by kernel_rfl) (by kernel_rfl) rfl ?_
  obtain ⟨w39, r40, H41⟩ := H38.stA (P := Try.prog) (o := 0) (vs := [.int .i64 (((getB (rV false xs 1)) : Nat) : Int), .int .u64 (((getB (rV (!(rOK false xs 1)) (rR false xs 1) 8)) : Nat) : Int)]) (ty := 38) (m := 2) 3 rfl (by kernel_rfl) rfl (by simp) (by simp [Value.oneCell'])
  have H41 : Hp w [] [.blk p9 [.slice A28 ((rR (!(rOK false xs 1)) (rR false xs 1) 8).length) c29, .bool (!(rOK (!(rOK false xs 1)) (rR false xs 1) 8))] 74, .row A10 n c11 5 1 (by8 xs), .blk p3 [.int .i64 0, .int .u64 0] 38, .blk p35 [.int .i64 (((getB (rV false xs 1)) : Nat) : Int), .int .u64 (((getB (rV (!(rOK false xs 1)) (rR false xs 1) 8)) : Nat) : Int)] 38] w39 := H41
  refine GL.semU (j := 8) r40 [2, 4, 5] [(2, pt p3 0), (4, pt p9 0), (5, pt p35 0)] (by kernel_rfl) rfl rfl rfl ?_
  refine GL.k rfl hK18 (fun _ _ h => h) ?_
  refine G.seqK fun K42 hK43 => ?_
  refine G.seqK fun K44 hK45 => ?_
  refine G.region ?_
  refine GL.run (j := 1) 1 [2, 5, 14] [(2, pt p3 0), (5, pt p35 0), (14, pt p9 0)] (by kernel_rfl) rfl ?_
  refine GL.call (j := 2) (End_calls (ids [.blk p9 [.slice A28 ((rR (!(rOK false xs 1)) (rR false xs 1) 8).length) c29, .bool (!(rOK (!(rOK false xs 1)) (rR false xs 1) 8))] 74, .row A10 n c11 5 1 (by8 xs)]) p9 A28 ((rR (!(rOK false xs 1)) (rR false xs 1) 8).length) c29 (!(rOK (!(rOK false xs 1)) (rR false xs 1) 8)) A10 n c11 xs (rR (!(rOK false xs 1)) (rR false xs 1) 8) w39 (Hp.startL (A := [.blk p9 [.slice A28 ((rR (!(rOK false xs 1)) (rR false xs 1) 8).length) c29, .bool (!(rOK (!(rOK false xs 1)) (rR false xs 1) 8))] 74, .row A10 n c11 5 1 (by8 xs)]) (B := [.blk p3 [.int .i64 0, .int .u64 0] 38, .blk p35 [.int .i64 (((getB (rV false xs 1)) : Nat) : Int), .int .u64 (((getB (rV (!(rOK false xs 1)) (rR false xs 1) 8)) : Nat) : Int)] 38]) H41) (rfl)) (by kernel_rfl) rfl (fun e_ w46 hR => ?_)
  obtain ⟨rfl, H48⟩ := hR
  have H47 : Hp w [] [.blk p9 [.slice A28 ((rR (!(rOK false xs 1)) (rR false xs 1) 8).length) c29, .bool (!(rOK (!(rOK false xs 1)) (rR false xs 1) 8))] 74, .row A10 n c11 5 1 (by8 xs), .blk p3 [.int .i64 0, .int .u64 0] 38, .blk p35 [.int .i64 (((getB (rV false xs 1)) : Nat) : Int), .int .u64 (((getB (rV (!(rOK false xs 1)) (rR false xs 1) 8)) : Nat) : Int)] 38] w46 := Hp.callL (A := [.blk p9 [.slice A28 ((rR (!(rOK false xs 1)) (rR false xs 1) 8).length) c29, .bool (!(rOK (!(rOK false xs 1)) (rR false xs 1) 8))] 74, .row A10 n c11 5 1 (by8 xs)]) (B := [.blk p3 [.int .i64 0, .int .u64 0] 38, .blk p35 [.int .i64 (((getB (rV false xs 1)) : Nat) : Int), .int .u64 (((getB (rV (!(rOK false xs 1)) (rR false xs 1) 8)) : Nat) : Int)] 38]) H41 H48
  refine ⟨_, rfl, [2, 5, 15], [(2, pt p3 0), (5, pt p35 0), (15, .bool (!(!(rOK (!(rOK false xs 1)) (rR false xs 1) 8)) && ((rR (!(rOK false xs 1)) (rR false xs 1) 8).length == 0)))], by kernel_rfl, ?_⟩
  refine GL.run (j := 4) 2 [2, 5, 17] [(2, pt p3 0), (5, pt p35 0), (17, .bool (!(!(!(rOK (!(rOK false xs 1)) (rR false xs 1) 8)) && ((rR (!(rOK false xs 1)) (rR false xs 1) 8).length == 0))))] (by kernel_rfl) rfl ?_
  have hb49 : (!(!(!(rOK (!(rOK false xs 1)) (rR false xs 1) 8)) && ((rR (!(rOK false xs 1)) (rR false xs 1) 8).length == 0))) = true := by rw [show (!(!(rOK (!(rOK false xs 1)) (rR false xs 1) 8)) && ((rR (!(rOK false xs 1)) (rR false xs 1) 8).length == 0)) = false from (end9 xs).trans (decide_eq_false (by omega))]; rfl
  rw [hb49]
  refine GL.run (j := 8) 4 [2, 5, 21] [(2, pt p3 0), (5, pt p35 0), (21, .bool true)] (by kernel_rfl) rfl ?_
  refine GL.k rfl hK45 (fun _ _ h => h) ?_
  refine G.yes rfl ?_
  refine G.seqK fun K50 hK51 => ?_
  refine G.region ?_
  refine GL.run (j := 1) 1 [2, 22] [(2, pt p3 0), (22, .agg #[.int .i64 0, .int .u64 0])] (by kernel_rfl) rfl ?_
  obtain ⟨w52, r53, H54⟩ := H47.stA (P := Try.prog) (o := 0) (vs := [.int .i64 0, .int .u64 0]) (ty := 38) (m := 2) 2 rfl (by kernel_rfl) rfl (by simp) (by simp [Value.oneCell'])
  have H54 : Hp w [] [.blk p9 [.slice A28 ((rR (!(rOK false xs 1)) (rR false xs 1) 8).length) c29, .bool (!(rOK (!(rOK false xs 1)) (rR false xs 1) 8))] 74, .row A10 n c11 5 1 (by8 xs), .blk p3 [.int .i64 0, .int .u64 0] 38, .blk p35 [.int .i64 (((getB (rV false xs 1)) : Nat) : Int), .int .u64 (((getB (rV (!(rOK false xs 1)) (rR false xs 1) 8)) : Nat) : Int)] 38] w52 := H54
  refine GL.semU (j := 2) r53 [2] [(2, pt p3 0)] (by kernel_rfl) rfl rfl rfl ?_
  refine GL.run (j := 3) 1 [2, 3] [(2, pt p3 0), (3, .int .i64 2)] (by kernel_rfl) rfl ?_
  refine GL.k rfl hK51 (fun _ _ h => h) ?_
  refine G.ret ?_
  intro F_ hF_ hM_
  refine hRet _ _ (bodyPost_2 rfl (RV.cell rfl (H54.ldA (o := 0) (ty := 38) (m := 2) (sub := [.int .i64 0, .int .u64 0]) 2 rfl (by kernel_rfl) rfl rfl)) (RV.tmp rfl) ?_ F_ hF_ hM_)
  have h23 : ¬ (xs.length = 9 ∧ ans1 xs ≤ 23) := by omega
  rw [show paE xs = 2 from if_neg h23, show paA xs = 0 from if_neg h23, show paV xs = 0 from if_neg h23]
  exact ⟨rfl, H54.sub (List.nil_sublist _)⟩
theorem PAnswer_calls (xs : List UInt8) (A : Option Addr) (n c : Nat) (w : World) (hx : RdS w A (by8 xs)) (hn : n = xs.length) (hb : n ≤ 1000000) : Calls Try.prog 12 #[.slice A n c] w fun e w' => e = .returned (.tuple #[.agg #[.int .i64 ((paA xs : Nat) : Int), .int .u64 ((paV xs : Nat) : Int)], .int .i64 ((paE xs : Nat) : Int)]) ∧ Hp w [] [] w' := by
  by_cases h : n = 9
  · exact PAnswer_nine xs A n c w hx hn hb h
  · exact PAnswer_other xs A n c w hx hn hb h
end Go.Proofs.Ytkfhcogdpmndkaa
