/- The statements' own functions. -/
import Derived.Test.YtobgpfljdooopaaOctRc
import Derived.Test.YtobgpfljdooopaaOctD
namespace Go.Proofs.Ytobgpfljdooopaa
open Go.RowKit
/-- An item as bytes; the bytes of the first ones; those of the others. -/
def itE (k s : Int) (x : Nat) (b : List UInt8) : List UInt8 := if k = 0 then putS x s else if k = 1 then cnt x else if k = 2 then b else if k = 3 then cnt b.length ++ b else []
def accE (kk ss : Nat → Int) (f : Nat → Nat) (bb : Nat → List UInt8) : Nat → List UInt8
  | 0 => []
  | j + 1 => accE kk ss f bb j ++ itE (kk j) (ss j) (f j) (bb j)
def rsE (kk ss : Nat → Int) (f : Nat → Nat) (bb : Nat → List UInt8) : Nat → Nat → List UInt8
  | _, 0 => []
  | j, m + 1 => itE (kk j) (ss j) (f j) (bb j) ++ rsE kk ss f bb (j + 1) m
section
variable {kk ss : Nat → Int} {f : Nat → Nat} {bb : Nat → List UInt8}
theorem itE_len {k s : Int} {x : Nat} {b : List UInt8} (hb : b.length ≤ 300) : (itE k s x b).length ≤ 309 := by
  have h1 := putS_len x s
  have h2 := cntSz_le x
  have h3 := cntSz_le b.length
  unfold itE
  repeat' split
  all_goals first | omega | (rw [cnt_length]; omega) | (rw [List.length_append, cnt_length]; omega) | simp
theorem acc_len {j : Nat} (hb : ∀ i, i < j → (bb i).length ≤ 300) : (accE kk ss f bb j).length ≤ 309 * j := by
  induction j with
  | zero => simp [accE]
  | succ j ih =>
    have h1 := ih fun i hi => hb i (by omega)
    have h2 := itE_len (k := kk j) (s := ss j) (x := f j) (hb j (by omega))
    rw [accE, List.length_append]
    omega
theorem acc_rs (m : Nat) : ∀ j, accE kk ss f bb (j + m) = accE kk ss f bb j ++ rsE kk ss f bb j m := by
  induction m with
  | zero => intro j; simp [rsE]
  | succ m ih =>
    intro j
    rw [show j + (m + 1) = (j + 1) + m by omega, ih (j + 1), accE, rsE, List.append_assoc]
theorem acc_all (n : Nat) : accE kk ss f bb n = rsE kk ss f bb 0 (n - 0) := by
  have := acc_rs (kk := kk) (ss := ss) (f := f) (bb := bb) n 0
  rw [Nat.zero_add] at this
  rw [this, Nat.sub_zero]
  rfl
theorem rs_step {j n : Nat} (h : j < n) : rsE kk ss f bb j (n - j) = itE (kk j) (ss j) (f j) (bb j) ++ rsE kk ss f bb (j + 1) (n - (j + 1)) := by
  rw [show n - j = (n - (j + 1)) + 1 by omega, rsE]
end
theorem back_raw (b T : List UInt8) : rOK false (b ++ T) b.length = true ∧ rV false (b ++ T) b.length = b ∧ rR false (b ++ T) b.length = T := by
  obtain ⟨h1, h2, h3⟩ := rOK_true (rest := b ++ T) (n := b.length) (by rw [List.length_append]; omega)
  exact ⟨h1, by rw [h2, List.take_left'] ; rfl, by rw [h3, List.drop_left']; rfl⟩
theorem back_cnt {x : Nat} (hx : x < 18446744073709551616) (T : List UInt8) : ctOK false (cnt x ++ T) x = true ∧ ctV false (cnt x ++ T) x = x ∧ ctR false (cnt x ++ T) x = T := by
  obtain ⟨a, b, c, _⟩ := cn_cnt hx T
  obtain ⟨h1, h2, h3⟩ := ct_cn (cnt x ++ T) x
  rw [h1, h2, h3, a, b, c, decide_eq_true (Nat.le_refl x)]
  exact ⟨rfl, rfl, rfl⟩
theorem back_counted {b : List UInt8} (hb : b.length < 18446744073709551616) (T : List UInt8) : cdOK false (cnt b.length ++ b ++ T) b.length = true ∧ cdV false (cnt b.length ++ b ++ T) b.length = b ∧ cdR false (cnt b.length ++ b ++ T) b.length = T := by
  obtain ⟨a, c, d⟩ := back_cnt hb (b ++ T)
  obtain ⟨e, g, i⟩ := back_raw b T
  unfold cdOK cdV cdR
  rw [List.append_assoc, a, c, d, show (!true) = false from rfl]
  exact ⟨e, g, i⟩
theorem back_size {x : Nat} {s : Int} (hs : s = 1 ∨ s = 2 ∨ s = 4 ∨ s = 8) (T : List UInt8) : rOK false (putS x s ++ T) s.toNat = true ∧ rV false (putS x s ++ T) s.toNat = putS x s ∧ rR false (putS x s ++ T) s.toNat = T := by
  rw [← (putS_right (x := x) hs).2]
  exact back_raw _ _
theorem few_calls (A : Option Addr) (n c0 : Nat) (xs : List Value) (kk ss : Nat → Int) (f : Nat → Nat) (BB : Nat → Option Addr) (bb : Nat → List UInt8) (bc : Nat → Nat) (w : World) (hr : RdS w A xs) (hx : xs.length = n * 4) (hn : n ≤ 9223372036854775807) (hf : ∀ i, f i < 2 ^ 64) (hs : ∀ i, -9223372036854775808 ≤ ss i ∧ ss i ≤ 9223372036854775807) (hB : ∀ i, RdS w (BB i) (by8 (bb i)) ∧ (bb i).length ≤ bc i ∧ bc i ≤ maxLen) (hel : ∀ i, i < n → (xs.drop (i * 4)).take 4 = [.int .i64 (kk i), .int .i64 (ss i), .int .u64 ((f i : Nat) : Int), .slice (BB i) (bb i).length (bc i)]) : Calls Try.prog 6 #[.slice A n c0] w fun e w' => ∃ b : Bool, e = .returned (.bool b) ∧ (b = true ↔ ((∀ i, i < n → (bb i).length ≤ 300) ∧ n ≤ 40)) ∧ Hp w [] [] w' := by
  refine calls_G (args := [.slice A n c0]) Try.func6 rfl Try.ntmps6 rfl ?_
  intro Q0 hRet hNor hPan
  have H := Hp.start w
  have H : Hp w [] [] w := H
  refine G.seqK fun K1 hK2 => ?_
  refine G.region ?_
  refine GL.run (j := 1) 1 [0] [(0, .slice A n c0)] (by kernel_rfl) rfl ?_
  refine GL.k rfl hK2 (fun _ _ h => h) ?_
  refine G.seqK fun K3 hK4 => ?_
  refine G.seqK fun K5 hK6 => ?_
  refine G.region ?_
  refine GL.run (j := 3) 3 [0, 5, 6, 7] [(0, .slice A n c0), (5, .slice A n c0), (6, .int .i64 (n : Int)), (7, .int .i64 0)] (by kernel_rfl) rfl ?_
  refine GL.k rfl hK6 (fun _ _ h => h) ?_
  refine G.block ?_
  refine G.fit [0, 5, 6, 7] (M' := [(0, .slice A n c0), (5, .slice A n c0), (6, .int .i64 (n : Int)), (7, .int .i64 0)]) (by kernel_rfl) ?_
  refine G.loop (X := Nat) (fun j => [(0, .slice A n c0), (5, .slice A n c0), (6, .int .i64 (n : Int)), (7, .int .i64 (j : Int))]) (fun j w_ => (j ≤ n ∧ ∀ i, i < j → (bb i).length ≤ 300) ∧ Hp w [] [] w_) (fun j => n - j) 0 [0, 5, 6, 7] (by kernel_rfl) ⟨⟨Nat.zero_le _, fun i hi => by omega⟩, H⟩ ?_
  rintro j w7 ⟨hi8, H9⟩
  refine G.eq (M' := [(0, .slice A n c0), (5, .slice A n c0), (6, .int .i64 (n : Int)), (7, .int .i64 (j : Int))]) rfl ?_
  have H9 : Hp w [] [] w7 := H9
  obtain ⟨hjn, hfw⟩ := hi8
  refine G.seqK fun K10 hK11 => ?_
  refine G.region ?_
  refine GL.run (j := 1) 1 [0, 5, 6, 7, 8] [(0, .slice A n c0), (5, .slice A n c0), (6, .int .i64 (n : Int)), (7, .int .i64 (j : Int)), (8, .bool (decide ((j : Int) < (n : Int))))] (by kernel_rfl) rfl ?_
  refine GL.k rfl hK11 (fun _ _ h => h) ?_
  refine G.seqK fun K12 hK13 => ?_
  cases hb14 : (decide ((j : Int) < (n : Int)))
  · skip
    have hb14f := of_decide_eq_false hb14
    refine G.no rfl ?_
    refine G.exitK hK4 (fun _ _ h => h) ?_
    refine G.seqK fun K15 hK16 => ?_
    refine G.region ?_
    refine GL.run (j := 4) 4 [2] [(2, .bool (decide ((n : Int) ≤ 40)))] (by kernel_rfl) rfl ?_
    refine GL.k rfl hK16 (fun _ _ h => h) ?_
    refine G.ret ?_
    intro F_ hF_ hM_
    refine hRet _ _ (bodyPost_1 rfl (RV.tmp rfl) ?_ F_ hF_ hM_)
    exact ⟨_, rfl, ⟨fun h => ⟨fun i hi => hfw i (by omega), by have := of_decide_eq_true h; omega⟩, fun h => decide_eq_true (by omega)⟩, H9.sub (List.nil_sublist _)⟩
  · skip
    have hb14f := of_decide_eq_true hb14
    refine G.yes rfl ?_
    refine G.skipK hK13 (fun _ _ h => h) ?_
    refine G.seqK fun K17 hK18 => ?_
    refine G.block ?_
    refine G.seqK fun K19 hK20 => ?_
    refine G.region ?_
    refine GL.sem (j := 1) (run_idxRdN (P := Try.prog) (k := .i64) (t := 23) (sz := 4) (A := A) (len := n) (cap := c0) (j := j) (by kernel_rfl) rfl (hr.hp H9) hx (by decide) (by omega)) [0, 5, 6, 7, 9] [(0, .slice A n c0), (5, .slice A n c0), (6, .int .i64 (n : Int)), (7, .int .i64 (j : Int)), (9, .pointer (Option.map (fun x => Addr.add x (j * 4)) A))] (by kernel_rfl) (by kernel_rfl) rfl ?_
    refine GL.sem (j := 2) (run_ldRdA (P := Try.prog) (ty := 33) (A := A) (o := (j * 4)) (m := 4) (sub := [.int .i64 (kk j), .int .i64 (ss j), .int .u64 ((f j : Nat) : Int), .slice (BB j) ((bb j).length) (bc j)]) (by kernel_rfl) (hr.hp H9) (hel j (by omega)) rfl (by decide)) [0, 5, 6, 7, 10] [(0, .slice A n c0), (5, .slice A n c0), (6, .int .i64 (n : Int)), (7, .int .i64 (j : Int)), (10, .agg #[.int .i64 (kk j), .int .i64 (ss j), .int .u64 ((f j : Nat) : Int), .slice (BB j) ((bb j).length) (bc j)])] (by kernel_rfl) (by kernel_rfl) rfl ?_
    obtain ⟨p21, w22, r23, H24⟩ := H9.alloc (P := Try.prog) 33 [.int .i64 0, .int .i64 0, .int .u64 0, .slice none 0 0] (by kernel_rfl)
    have H24 : Hp w [] [.blk p21 [.int .i64 0, .int .i64 0, .int .u64 0, .slice none 0 0] 33] w22 := H24
    refine GL.sem (j := 3) (r23) [0, 4, 5, 6, 7, 10] [(0, .slice A n c0), (4, pt p21 0), (5, .slice A n c0), (6, .int .i64 (n : Int)), (7, .int .i64 (j : Int)), (10, .agg #[.int .i64 (kk j), .int .i64 (ss j), .int .u64 ((f j : Nat) : Int), .slice (BB j) ((bb j).length) (bc j)])] (by kernel_rfl) (by kernel_rfl) rfl ?_
    obtain ⟨w25, r26, H27⟩ := H24.stA (P := Try.prog) (o := 0) (vs := [.int .i64 (kk j), .int .i64 (ss j), .int .u64 ((f j : Nat) : Int), .slice (BB j) ((bb j).length) (bc j)]) (ty := 33) (m := 4) 0 rfl (by kernel_rfl) rfl (by simp) (by simp [Value.oneCell'])
    have H27 : Hp w [] [.blk p21 [.int .i64 (kk j), .int .i64 (ss j), .int .u64 ((f j : Nat) : Int), .slice (BB j) ((bb j).length) (bc j)] 33] w25 := H27
    refine GL.semU (j := 4) r26 [0, 4, 5, 6, 7] [(0, .slice A n c0), (4, pt p21 0), (5, .slice A n c0), (6, .int .i64 (n : Int)), (7, .int .i64 (j : Int))] (by kernel_rfl) rfl rfl rfl ?_
    refine GL.k rfl hK20 (fun _ _ h => h) ?_
    refine G.seqK fun K28 hK29 => ?_
    refine G.region ?_
    refine GL.run (j := 1) 1 [0, 5, 6, 7, 11] [(0, .slice A n c0), (5, .slice A n c0), (6, .int .i64 (n : Int)), (7, .int .i64 (j : Int)), (11, pt p21 3)] (by kernel_rfl) rfl ?_
    refine GL.sem (j := 2) (H27.ld (o := 3) (ty := 22) (v := .slice (BB j) ((bb j).length) (bc j)) 0 rfl (by kernel_rfl) rfl) [0, 5, 6, 7, 12] [(0, .slice A n c0), (5, .slice A n c0), (6, .int .i64 (n : Int)), (7, .int .i64 (j : Int)), (12, .slice (BB j) ((bb j).length) (bc j))] (by kernel_rfl) (by kernel_rfl) rfl ?_
    refine GL.run (j := 4) 2 [0, 5, 6, 7, 14] [(0, .slice A n c0), (5, .slice A n c0), (6, .int .i64 (n : Int)), (7, .int .i64 (j : Int)), (14, .bool (decide (300 < (((bb j).length : Nat) : Int))))] (by kernel_rfl) rfl ?_
    refine GL.k rfl hK29 (fun _ _ h => h) ?_
    cases hb30 : (decide (300 < (((bb j).length : Nat) : Int)))
    · skip
      have hb30f := of_decide_eq_false hb30
      refine G.no rfl ?_
      refine G.skipK hK18 (fun _ _ h => h) ?_
      refine G.region ?_
      refine GL.run (j := 2) 2 [0, 5, 6, 7] [(0, .slice A n c0), (5, .slice A n c0), (6, .int .i64 (n : Int)), (7, .int .i64 (IntKind.i64.wrap ((j : Int) + 1)))] (by kernel_rfl) rfl ?_
      have e31 : (IntKind.i64.wrap ((j : Int) + 1)) = ((j + 1 : Nat) : Int) := by rw [in_i64 (by omega)]; omega
      refine GL.eq (M' := [(0, .slice A n c0), (5, .slice A n c0), (6, .int .i64 (n : Int)), (7, .int .i64 ((j + 1 : Nat) : Int))]) (by rw [e31]) ?_
      clear e31
      have H32 : Hp w [] [] w25 := H27.sub (List.Sublist.cons _ (List.Sublist.slnil))
      refine GL.fit (ts := [0, 5, 6, 7]) (M' := [(0, .slice A n c0), (5, .slice A n c0), (6, .int .i64 (n : Int)), (7, .int .i64 ((j + 1 : Nat) : Int))]) (by kernel_rfl) ?_
      refine GL.eq (M' := [(0, .slice A n c0), (5, .slice A n c0), (6, .int .i64 (n : Int)), (7, .int .i64 (((j + 1) : Nat) : Int))]) (by rfl) ?_
      exact GL.again (j + 1) [0, 5, 6, 7] rfl (by kernel_rfl) (by show n - (j + 1) < n - j; omega) ⟨⟨by omega, fun i hi => (Nat.lt_succ_iff_lt_or_eq.1 hi).elim (hfw i) (fun h => by subst h; omega)⟩, H32⟩
    · skip
      have hb30f := of_decide_eq_true hb30
      refine G.yes rfl ?_
      refine G.seqK fun K33 hK34 => ?_
      refine G.region ?_
      refine GL.run (j := 1) 1 [2] [(2, .bool false)] (by kernel_rfl) rfl ?_
      refine GL.k rfl hK34 (fun _ _ h => h) ?_
      refine G.ret ?_
      intro F_ hF_ hM_
      refine hRet _ _ (bodyPost_1 rfl (RV.tmp rfl) ?_ F_ hF_ hM_)
      exact ⟨false, rfl, ⟨(fun h => by cases h), (fun h => by have := h.1 j (by omega); omega)⟩, H27.sub (List.nil_sublist _)⟩
theorem right_calls (s : Int) (w : World) : Calls Try.prog 8 #[.int .i64 s] w fun e w' => e = .returned (.bool (decide (s = 1 ∨ s = 2 ∨ s = 4 ∨ s = 8))) ∧ Hp w [] [] w' := by
  refine calls_G (args := [.int .i64 s]) Try.func8 rfl Try.ntmps8 rfl ?_
  intro Q0 hRet hNor hPan
  have H := Hp.start w
  have H : Hp w [] [] w := H
  refine G.seqK fun K1 hK2 => ?_
  refine G.region ?_
  refine GL.run (j := 1) 1 [0] [(0, .int .i64 s)] (by kernel_rfl) rfl ?_
  refine GL.k rfl hK2 (fun _ _ h => h) ?_
  refine G.seqK fun K3 hK4 => ?_
  refine G.region ?_
  refine GL.run (j := 3) 3 [0, 5] [(0, .int .i64 s), (5, .bool (s == 1))] (by kernel_rfl) rfl ?_
  cases hb5 : (s == 1)
  · skip
    have hb5f := ne_of_beq_false hb5
    refine GL.run (j := 7) 4 [0, 9] [(0, .int .i64 s), (9, .bool (s == 2))] (by kernel_rfl) rfl ?_
    cases hb6 : (s == 2)
    · skip
      have hb6f := ne_of_beq_false hb6
      refine GL.run (j := 11) 4 [0, 13] [(0, .int .i64 s), (13, .bool (s == 4))] (by kernel_rfl) rfl ?_
      cases hb7 : (s == 4)
      · skip
        have hb7f := ne_of_beq_false hb7
        refine GL.run (j := 15) 4 [2] [(2, .bool (s == 8))] (by kernel_rfl) rfl ?_
        refine GL.k rfl hK4 (fun _ _ h => h) ?_
        refine G.ret ?_
        intro F_ hF_ hM_
        refine hRet _ _ (bodyPost_1 rfl (RV.tmp rfl) ?_ F_ hF_ hM_)
        have e0 : ((s == 8) : Bool) = decide (s = 1 ∨ s = 2 ∨ s = 4 ∨ s = 8) := by
          rw [Bool.eq_iff_iff]
          simp only [decide_eq_true_eq, Bool.true_eq_false, Bool.false_eq_true, true_iff, false_iff, beq_iff_eq]
          omega
        rw [e0]
        exact ⟨rfl, H.sub (List.nil_sublist _)⟩
      · skip
        have hb7f := eq_of_beq hb7
        refine GL.run (j := 15) 4 [2] [(2, .bool true)] (by kernel_rfl) rfl ?_
        refine GL.k rfl hK4 (fun _ _ h => h) ?_
        refine G.ret ?_
        intro F_ hF_ hM_
        refine hRet _ _ (bodyPost_1 rfl (RV.tmp rfl) ?_ F_ hF_ hM_)
        have e0 : (true : Bool) = decide (s = 1 ∨ s = 2 ∨ s = 4 ∨ s = 8) := by
          rw [Bool.eq_iff_iff]
          simp only [decide_eq_true_eq, Bool.true_eq_false, Bool.false_eq_true, true_iff, false_iff, beq_iff_eq]
          omega
        rw [e0]
        exact ⟨rfl, H.sub (List.nil_sublist _)⟩
    · skip
      have hb6f := eq_of_beq hb6
      refine GL.run (j := 15) 8 [2] [(2, .bool true)] (by kernel_rfl) rfl ?_
      refine GL.k rfl hK4 (fun _ _ h => h) ?_
      refine G.ret ?_
      intro F_ hF_ hM_
      refine hRet _ _ (bodyPost_1 rfl (RV.tmp rfl) ?_ F_ hF_ hM_)
      have e0 : (true : Bool) = decide (s = 1 ∨ s = 2 ∨ s = 4 ∨ s = 8) := by
        rw [Bool.eq_iff_iff]
        simp only [decide_eq_true_eq, Bool.true_eq_false, Bool.false_eq_true, true_iff, false_iff, beq_iff_eq]
        omega
      rw [e0]
      exact ⟨rfl, H.sub (List.nil_sublist _)⟩
  · skip
    have hb5f := eq_of_beq hb5
    refine GL.run (j := 15) 12 [2] [(2, .bool true)] (by kernel_rfl) rfl ?_
    refine GL.k rfl hK4 (fun _ _ h => h) ?_
    refine G.ret ?_
    intro F_ hF_ hM_
    refine hRet _ _ (bodyPost_1 rfl (RV.tmp rfl) ?_ F_ hF_ hM_)
    have e0 : (true : Bool) = decide (s = 1 ∨ s = 2 ∨ s = 4 ∨ s = 8) := by
      rw [Bool.eq_iff_iff]
      simp only [decide_eq_true_eq, Bool.true_eq_false, Bool.false_eq_true, true_iff, false_iff, beq_iff_eq]
      omega
    rw [e0]
    exact ⟨rfl, H.sub (List.nil_sublist _)⟩
theorem lives_calls (w : World) : Calls Try.prog 5 #[] w fun e w' => e = .returned (.bool true) ∧ Hp w [] [] w' := by
  refine calls_G (args := []) Try.func5 rfl Try.ntmps5 rfl ?_
  intro Q0 hRet hNor hPan
  have H := Hp.start w
  have H : Hp w [] [] w := H
  refine G.seqK fun K1 hK2 => ?_
  refine G.region ?_
  refine GL.run (j := 1) 1 [] [] (by kernel_rfl) rfl ?_
  refine GL.k rfl hK2 (fun _ _ h => h) ?_
  refine G.seqK fun K3 hK4 => ?_
  refine G.region ?_
  obtain ⟨p5, w6, r7, H8⟩ := H.alloc (P := Try.prog) 44 [.slice none 0 0] (by kernel_rfl)
  have H8 : Hp w [] [.blk p5 [.slice none 0 0] 44] w6 := H8
  refine GL.sem (j := 1) (r7) [1] [(1, pt p5 0)] (by kernel_rfl) (by kernel_rfl) rfl ?_
  refine GL.k rfl hK4 (fun _ _ h => h) ?_
  refine G.seqK fun K9 hK10 => ?_
  refine G.region ?_
  have H11 := H8.rowNil 5 1
  have H11 : Hp w [] [.blk p5 [.slice none 0 0] 44, .row none 0 0 5 1 (by8 ([] : List UInt8))] w6 := H11
  have hcA12 := cntSz_le 252
  refine GL.call (j := 1) (WCount_calls (ids [.blk p5 [.slice none 0 0] 44, .row none 0 0 5 1 (by8 ([] : List UInt8))]) p5 none 0 0 ([] : List UInt8) 252 w6 (Hp.startL (A := [.blk p5 [.slice none 0 0] 44, .row none 0 0 5 1 (by8 ([] : List UInt8))]) (B := []) H11) (by omega)) (by kernel_rfl) rfl (fun e_ w14 hR => ?_)
  obtain ⟨A12, c13, rfl, H16⟩ := hR
  have H15 : Hp w [] [.blk p5 [.slice A12 (0 + cntSz 252) c13] 44, .row A12 (0 + cntSz 252) c13 5 1 (by8 (([] : List UInt8) ++ cnt 252))] w14 := Hp.callL (A := [.blk p5 [.slice none 0 0] 44, .row none 0 0 5 1 (by8 ([] : List UInt8))]) (B := []) H11 H16
  refine ⟨_, rfl, [1], [(1, pt p5 0)], by kernel_rfl, ?_⟩
  refine GL.k rfl hK10 (fun _ _ h => h) ?_
  refine G.seqK fun K17 hK18 => ?_
  refine G.region ?_
  have hcA19 := cntSz_le 253
  refine GL.call (j := 1) (WCount_calls (ids [.blk p5 [.slice A12 (0 + cntSz 252) c13] 44, .row A12 (0 + cntSz 252) c13 5 1 (by8 (([] : List UInt8) ++ cnt 252))]) p5 A12 (0 + cntSz 252) c13 (([] : List UInt8) ++ cnt 252) 253 w14 (Hp.startL (A := [.blk p5 [.slice A12 (0 + cntSz 252) c13] 44, .row A12 (0 + cntSz 252) c13 5 1 (by8 (([] : List UInt8) ++ cnt 252))]) (B := []) H15) (by omega)) (by kernel_rfl) rfl (fun e_ w21 hR => ?_)
  obtain ⟨A19, c20, rfl, H23⟩ := hR
  have H22 : Hp w [] [.blk p5 [.slice A19 ((0 + cntSz 252) + cntSz 253) c20] 44, .row A19 ((0 + cntSz 252) + cntSz 253) c20 5 1 (by8 ((([] : List UInt8) ++ cnt 252) ++ cnt 253))] w21 := Hp.callL (A := [.blk p5 [.slice A12 (0 + cntSz 252) c13] 44, .row A12 (0 + cntSz 252) c13 5 1 (by8 (([] : List UInt8) ++ cnt 252))]) (B := []) H15 H23
  refine ⟨_, rfl, [1], [(1, pt p5 0)], by kernel_rfl, ?_⟩
  refine GL.k rfl hK18 (fun _ _ h => h) ?_
  refine G.seqK fun K24 hK25 => ?_
  refine G.region ?_
  have hcA26 := cntSz_le 65536
  refine GL.call (j := 1) (WCount_calls (ids [.blk p5 [.slice A19 ((0 + cntSz 252) + cntSz 253) c20] 44, .row A19 ((0 + cntSz 252) + cntSz 253) c20 5 1 (by8 ((([] : List UInt8) ++ cnt 252) ++ cnt 253))]) p5 A19 ((0 + cntSz 252) + cntSz 253) c20 ((([] : List UInt8) ++ cnt 252) ++ cnt 253) 65536 w21 (Hp.startL (A := [.blk p5 [.slice A19 ((0 + cntSz 252) + cntSz 253) c20] 44, .row A19 ((0 + cntSz 252) + cntSz 253) c20 5 1 (by8 ((([] : List UInt8) ++ cnt 252) ++ cnt 253))]) (B := []) H22) (by omega)) (by kernel_rfl) rfl (fun e_ w28 hR => ?_)
  obtain ⟨A26, c27, rfl, H30⟩ := hR
  have H29 : Hp w [] [.blk p5 [.slice A26 (((0 + cntSz 252) + cntSz 253) + cntSz 65536) c27] 44, .row A26 (((0 + cntSz 252) + cntSz 253) + cntSz 65536) c27 5 1 (by8 (((([] : List UInt8) ++ cnt 252) ++ cnt 253) ++ cnt 65536))] w28 := Hp.callL (A := [.blk p5 [.slice A19 ((0 + cntSz 252) + cntSz 253) c20] 44, .row A19 ((0 + cntSz 252) + cntSz 253) c20 5 1 (by8 ((([] : List UInt8) ++ cnt 252) ++ cnt 253))]) (B := []) H22 H30
  refine ⟨_, rfl, [1], [(1, pt p5 0)], by kernel_rfl, ?_⟩
  refine GL.k rfl hK25 (fun _ _ h => h) ?_
  refine G.seqK fun K31 hK32 => ?_
  refine G.region ?_
  refine GL.call (j := 1) (WBytes_calls (ids [.blk p5 [.slice A26 (((0 + cntSz 252) + cntSz 253) + cntSz 65536) c27] 44, .row A26 (((0 + cntSz 252) + cntSz 253) + cntSz 65536) c27 5 1 (by8 (((([] : List UInt8) ++ cnt 252) ++ cnt 253) ++ cnt 65536))]) p5 A26 (((0 + cntSz 252) + cntSz 253) + cntSz 65536) c27 (((([] : List UInt8) ++ cnt 252) ++ cnt 253) ++ cnt 65536) w28 (Hp.startL (A := [.blk p5 [.slice A26 (((0 + cntSz 252) + cntSz 253) + cntSz 65536) c27] 44, .row A26 (((0 + cntSz 252) + cntSz 253) + cntSz 65536) c27 5 1 (by8 (((([] : List UInt8) ++ cnt 252) ++ cnt 253) ++ cnt 65536))]) (B := []) H29) (by omega)) (by kernel_rfl) rfl (fun e_ w35 hR => ?_)
  obtain ⟨A33, c34, rfl, H37⟩ := hR
  have H36 : Hp w [] [.blk p5 [.slice A26 (((0 + cntSz 252) + cntSz 253) + cntSz 65536) c27] 44, .row A26 (((0 + cntSz 252) + cntSz 253) + cntSz 65536) c27 5 1 (by8 (((([] : List UInt8) ++ cnt 252) ++ cnt 253) ++ cnt 65536)), .row A33 (((0 + cntSz 252) + cntSz 253) + cntSz 65536) c34 5 1 (by8 (((([] : List UInt8) ++ cnt 252) ++ cnt 253) ++ cnt 65536))] w35 := Hp.callL (A := [.blk p5 [.slice A26 (((0 + cntSz 252) + cntSz 253) + cntSz 65536) c27] 44, .row A26 (((0 + cntSz 252) + cntSz 253) + cntSz 65536) c27 5 1 (by8 (((([] : List UInt8) ++ cnt 252) ++ cnt 253) ++ cnt 65536))]) (B := []) H29 H37
  refine ⟨_, rfl, [5], [(5, .slice A33 (((0 + cntSz 252) + cntSz 253) + cntSz 65536) c34)], by kernel_rfl, ?_⟩
  refine GL.sem (j := 2) (run_toStr (P := Try.prog) (src := 22) (dst := 9) (A := A33) (bs := (((([] : List UInt8) ++ cnt 252) ++ cnt 253) ++ cnt 65536)) (n := (((0 + cntSz 252) + cntSz 253) + cntSz 65536)) (c := c34) (by kernel_rfl) (by kernel_rfl) (H36.rdRow 2 rfl) (by first | rfl | omega | exact (cnt_length _).symm | (simp only [List.length_cons, List.length_nil, List.length_drop, List.length_take, List.length_append] <;> omega))) [6] [(6, .string (strOf (((([] : List UInt8) ++ cnt 252) ++ cnt 253) ++ cnt 65536)))] (by kernel_rfl) (by kernel_rfl) rfl ?_
  refine GL.sem (j := 3) (run_str_eql (P := Try.prog) (t := 9) (((([] : List UInt8) ++ cnt 252) ++ cnt 253) ++ cnt 65536) ([252, 253, 253, 0, 254, 0, 0, 1, 0] : List UInt8) _) [7] [(7, .bool ((((([] : List UInt8) ++ cnt 252) ++ cnt 253) ++ cnt 65536) == ([252, 253, 253, 0, 254, 0, 0, 1, 0] : List UInt8)))] (by kernel_rfl) (by kernel_rfl) rfl ?_
  refine GL.run (j := 4) 1 [0] [(0, .bool ((((([] : List UInt8) ++ cnt 252) ++ cnt 253) ++ cnt 65536) == ([252, 253, 253, 0, 254, 0, 0, 1, 0] : List UInt8)))] (by kernel_rfl) rfl ?_
  refine GL.k rfl hK32 (fun _ _ h => h) ?_
  refine G.ret ?_
  intro F_ hF_ hM_
  refine hRet _ _ (bodyPost_1 rfl (RV.tmp rfl) ?_ F_ hF_ hM_)
  have hb38 : ((((([] : List UInt8) ++ cnt 252) ++ cnt 253) ++ cnt 65536) == ([252, 253, 253, 0, 254, 0, 0, 1, 0] : List UInt8)) = true := by decide +kernel
  rw [hb38]
  exact ⟨rfl, H36.sub (List.nil_sublist _)⟩
theorem Get_calls (S : List Nat) (p : Nat) (A : Option Addr) (k cap : Nat) (wr : Bool) (R : Option Addr) (N C : Nat) (whole rest : List UInt8) (s : Int) (w : World) (h0 : Hp w S [.blk p [.slice A k cap, .bool wr] 54, .row R N C 5 1 (by8 whole)] w) (hcut : Cut R whole A rest) (hk : k = rest.length) (hcap : k ≤ cap) (hN : k ≤ 1000000) (hs : s = 1 ∨ s = 2 ∨ s = 4 ∨ s = 8) : Calls Try.prog 12 #[.pointer (some ⟨p, 0, none⟩), .int .i64 s] w fun e w' => ∃ B b, e = .returned (.int .u64 ((getB (rV wr rest s.toNat) : Nat) : Int)) ∧ Hp w S [.blk p [.slice B (rR wr rest s.toNat).length b, .bool (!(rOK wr rest s.toNat))] 54, .row R N C 5 1 (by8 whole)] w' ∧ Cut R whole B (rR wr rest s.toNat) ∧ (rR wr rest s.toNat).length ≤ b := by
  rcases hs with h | h | h | h <;> subst h
  · exact Get1_calls S p A k cap wr R N C whole rest w h0 hcut hk hcap hN
  · exact Get2_calls S p A k cap wr R N C whole rest w h0 hcut hk hcap hN
  · exact Get4_calls S p A k cap wr R N C whole rest w h0 hcut hk hcap hN
  · exact Get8_calls S p A k cap wr R N C whole rest w h0 hcut hk hcap hN
theorem RPutS_calls (x : Nat) (s : Int) (hx : x < K) (hs : s = 1 ∨ s = 2 ∨ s = 4 ∨ s = 8) (w : World) : Calls Try.prog 21 #[.int .u64 (x : Int), .int .i64 s] w fun e w' => ∃ A c, e = .returned (.slice A (putS x s).length c) ∧ Hp w [] [.row A (putS x s).length c 5 1 (by8 (putS x s))] w' := by
  obtain ⟨e1, e2⟩ := putS_right (x := x) hs
  rw [e2, e1]
  obtain ⟨m, hm⟩ := Int.eq_ofNat_of_zero_le (show 0 ≤ s by omega)
  subst hm
  exact RPut_calls x m hx (by omega) w
end Go.Proofs.Ytobgpfljdooopaa
