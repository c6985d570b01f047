/- The standard's sum. -/
import Derived.Test.YtgmggjnoegelgaaShaB
namespace Go.Proofs.Ytgmggjnoegelgaa
open Go.RowKit
theorem v8c_at {s : V8} {j : Nat} (h : j < 8) : (v8c s)[j]? = some (.int .u32 ((at8 s j : Nat) : Int)) := by
  obtain ⟨a, b, c, d, e, f, g, x⟩ := s
  rcases (by omega : j = 0 ∨ j = 1 ∨ j = 2 ∨ j = 3 ∨ j = 4 ∨ j = 5 ∨ j = 6 ∨ j = 7) with rfl | rfl | rfl | rfl | rfl | rfl | rfl | rfl <;> rfl
/-- The first bytes of so many, then noughts. -/
def bsP (F : Nat → UInt8) (n i : Nat) : List UInt8 := (List.range i).map F ++ List.replicate (n - i) 0
theorem bsP_length {F : Nat → UInt8} {n i : Nat} (h : i ≤ n) : (bsP F n i).length = n := by
  rw [bsP, List.length_append, List.length_map, List.length_range, List.length_replicate]
  omega
theorem bsP_set {F : Nat → UInt8} {n i : Nat} {v : UInt8} (h : i < n) (hv : v = F i) : (bsP F n i).set i v = bsP F n (i + 1) := by
  subst hv
  unfold bsP
  have hl : ((List.range i).map F).length = i := by rw [List.length_map, List.length_range]
  rw [List.set_append_right _ _ (by rw [hl]; exact Nat.le_refl _), hl, Nat.sub_self, show n - i = (n - (i + 1)) + 1 by omega, List.replicate_succ, List.set_cons_zero, List.range_succ, List.map_append, List.append_assoc]
  rfl
theorem bsP_all (F : Nat → UInt8) (n : Nat) : bsP F n n = (List.range n).map F := by rw [bsP, Nat.sub_self]; exact List.append_nil _
def outB (s : V8) (i : Nat) : UInt8 := UInt8.ofNat (at8 s (i / 4) / 2 ^ (24 - 8 * (i % 4)))
theorem outF_length (s : V8) : (outF s).length = 32 := by rw [outF, List.length_map, List.length_range]
theorem sha_length (b : List UInt8) : (sha b).length = 32 := outF_length _
theorem w_shl3 {n : Nat} (h : n * 8 < K) : IntKind.u64.wrap ((n : Int) * 2 ^ 3) = ((n * 8 : Nat) : Int) := by
  simp only [K] at h
  rw [IntKind.wrap_u64]
  omega
theorem sub_whole {cs : List Value} {m : Nat} (h : cs.length = m) : (cs.drop 0).take m = cs := by rw [List.drop_zero, List.take_of_length_le (Nat.le_of_eq h)]
theorem RdO.chunk {w : World} {S : List Nat} {A : Option Addr} {bs : List UInt8} (h : RdO w S A (by8 bs)) (l n : Nat) (hl : l < bs.length) : RdO w S (A.map (fun x => Addr.add x l)) (by8 ((bs.drop l).take n)) := by
  intro W hs hk
  have e := (h W hs hk).drop8 (cap := bs.length) l (Nat.le_refl _) rfl
  rw [if_neg (by omega)] at e
  exact e.take8 n rfl
theorem run_slice3N {P : Program} {t len cap : Nat} {A : Option Addr} {k1 k2 k3 : IntKind} {l h n : Nat} (ht : slcOf P t = some 1) (hn : h = l + n) (h0 : 0 < n) (hh : h ≤ cap) (w : World) :
    (Instr.sliceAt t (.slice A len cap) (some (.int k1 (l : Int))) (some (.int k2 (h : Int))) (some (.int k3 (h : Int)))).run P w = .ok (.slice (A.map (fun x => Addr.add x l)) n n) w := by
  have e := run_slice3 (P := P) (w := w) (t := t) (len := len) (cap := cap) (A := A) (k1 := k1) (k2 := k2) (k3 := k3) (l := l) (h := h) (m := h) ht (by omega) (Nat.le_refl _) hh
  rw [show h - l = n by omega, if_neg (by omega)] at e
  exact e
theorem Clone_some (xs : List UInt8) (A : Option Addr) (n c : Nat) (w : World) (hA : A.isNone = false) (hx : RdS w A (by8 xs)) (hn : n = xs.length) (hb : n ≤ 1099511627776) : Calls Try.prog 32 #[.slice A n c] w fun e w' => ∃ A c, e = .returned (.slice A n c) ∧ Hp w [] [.row A n c 5 1 (by8 xs)] w' := by
  refine calls_G (args := [.slice A n c]) Try.func32 rfl Try.ntmps32 rfl ?_
  intro Q0 hRet hNor hPan
  have H := Hp.start w
  have H : Hp w [] [] w := H
  refine G.seqK fun K1 hK2 => ?_
  refine G.region ?_
  refine GL.run (j := 1) 1 [0] [(0, .slice A n c)] (by kernel_rfl) rfl ?_
  refine GL.k rfl hK2 (fun _ _ h => h) ?_
  refine G.seqK fun K3 hK4 => ?_
  refine G.seqK fun K5 hK6 => ?_
  refine G.region ?_
  refine GL.run (j := 1) 1 [0, 3] [(0, .slice A n c), (3, .slice A n c)] (by kernel_rfl) rfl ?_
  refine GL.sem (j := 2) (run_sl_nil (P := Try.prog) (sz := 1) (t := 49) (n := n) (c := c) (A := A) (by kernel_rfl) _) [0, 4] [(0, .slice A n c), (4, .bool (Option.isNone A))] (by kernel_rfl) (by kernel_rfl) rfl ?_
  refine GL.k rfl hK6 (fun _ _ h => h) ?_
  have hb7 : (Option.isNone A) = false := hA
  rw [hb7]
  refine G.no rfl ?_
  refine G.skipK hK4 (fun _ _ h => h) ?_
  refine G.seqK fun K8 hK9 => ?_
  refine G.region ?_
  obtain ⟨p10, w11, r12, H13⟩ := H.madeRow (P := Try.prog) (Instr.buildSlice 49 0 #[]) (fun b_ => .slice (some ⟨b_, 0, none⟩) 0 0) [] 5 0 0 1 (by kernel_rfl) (by decide) (by decide) rfl
  have H13 : Hp w [] [.row (some ⟨p10, 0, none⟩) 0 0 5 1 (by8 ([] : List UInt8))] w11 := H13
  refine GL.sem (j := 1) (r12) [0, 5] [(0, .slice A n c), (5, .slice (some ⟨p10, 0, none⟩) 0 0)] (by kernel_rfl) (by kernel_rfl) rfl ?_
  refine GL.run (j := 2) 1 [5, 6] [(5, .slice (some ⟨p10, 0, none⟩) 0 0), (6, .slice A n c)] (by kernel_rfl) rfl ?_
  obtain ⟨A14, c15, w16, r17, H18⟩ := H13.append (P := Try.prog) (e := 5) (sz := 1) (by_ := 1) (n := 0) (c := 0) (m := n) (d := c) (t := 49) (ty := 49) (xs := by8 ([] : List UInt8)) (news := by8 xs) 0 rfl (by kernel_rfl) (hx.hp H13) (by first | (simp [by8_length]; done) | (rw [by8_length]; omega) | (rw [by8_length, putB_length])) (by8_one _) (by omega) (by simp only [maxLen]; omega)
  rw [Nat.zero_add] at r17 H18
  have H18 : Hp w [] [.row A14 n c15 5 1 (by8 xs)] w16 := H18
  refine GL.sem (j := 3) (r17) [7] [(7, .slice A14 n c15)] (by kernel_rfl) (by kernel_rfl) rfl ?_
  refine GL.run (j := 4) 1 [2] [(2, .slice A14 n c15)] (by kernel_rfl) rfl ?_
  refine GL.k rfl hK9 (fun _ _ h => h) ?_
  refine G.ret ?_
  intro F_ hF_ hM_
  refine hRet _ _ (bodyPost_1 rfl (RV.tmp rfl) ?_ F_ hF_ hM_)
  exact ⟨_, _, rfl, H18.sub (by simp)⟩
theorem Clone_nil (xs : List UInt8) (n c : Nat) (w : World) (hx : RdS w none (by8 [])) (hn : n = 0) (hb : n ≤ 1099511627776) : Calls Try.prog 32 #[.slice none n c] w fun e w' => ∃ A c, e = .returned (.slice A n c) ∧ Hp w [] [.row A n c 5 1 (by8 [])] w' := by
  refine calls_G (args := [.slice none n c]) Try.func32 rfl Try.ntmps32 rfl ?_
  intro Q0 hRet hNor hPan
  have H := Hp.start w
  have H : Hp w [] [] w := H
  refine G.seqK fun K1 hK2 => ?_
  refine G.region ?_
  refine GL.run (j := 1) 1 [0] [(0, .slice none n c)] (by kernel_rfl) rfl ?_
  refine GL.k rfl hK2 (fun _ _ h => h) ?_
  refine G.seqK fun K3 hK4 => ?_
  refine G.seqK fun K5 hK6 => ?_
  refine G.region ?_
  refine GL.run (j := 1) 1 [0, 3] [(0, .slice none n c), (3, .slice none n c)] (by kernel_rfl) rfl ?_
  refine GL.sem (j := 2) (run_sl_nil (P := Try.prog) (sz := 1) (t := 49) (n := n) (c := c) (A := none) (by kernel_rfl) _) [0, 4] [(0, .slice none n c), (4, .bool true)] (by kernel_rfl) (by kernel_rfl) rfl ?_
  refine GL.k rfl hK6 (fun _ _ h => h) ?_
  refine G.yes rfl ?_
  refine G.seqK fun K7 hK8 => ?_
  refine G.region ?_
  refine GL.run (j := 1) 1 [2] [(2, .slice none 0 0)] (by kernel_rfl) rfl ?_
  refine GL.k rfl hK8 (fun _ _ h => h) ?_
  refine G.ret ?_
  intro F_ hF_ hM_
  refine hRet _ _ (bodyPost_1 rfl (RV.tmp rfl) ?_ F_ hF_ hM_)
  obtain rfl : n = 0 := by omega
  exact ⟨none, 0, rfl, H.rowNil 5 1⟩
theorem Clone_calls (xs : List UInt8) (A : Option Addr) (n c : Nat) (w : World) (hx : RdS w A (by8 xs)) (hn : n = xs.length) (hb : n ≤ 1099511627776) : Calls Try.prog 32 #[.slice A n c] w fun e w' => ∃ A c, e = .returned (.slice A n c) ∧ Hp w [] [.row A n c 5 1 (by8 xs)] w' := by
  cases A with
  | some a => exact Clone_some xs (some a) n c w rfl hx hn hb
  | none =>
    have hxs : xs = [] := by
      rcases hx with h | ⟨a, h, _⟩
      · simpa [by8] using h
      · cases h
    subst hxs
    exact Clone_nil [] n c w hx hn hb
theorem Chunk_calls (A : Option Addr) (n c : Nat) (w : World) : Calls Try.prog 33 #[.slice A n c, .int .i64 64] w fun e w' => ∃ B D, e = .returned (.func (.func 40) #[] #[.pointer (some ⟨B, 0, none⟩), .pointer (some ⟨D, 0, none⟩)]) ∧ Hp w [] [.blk B [.slice A n c] 49, .blk D [.int .i64 64] 3] w' := by
  refine calls_G (args := [.slice A n c, .int .i64 64]) Try.func33 rfl Try.ntmps33 rfl ?_
  intro Q0 hRet hNor hPan
  have H := Hp.start w
  have H : Hp w [] [] w := H
  refine G.seqK fun K1 hK2 => ?_
  refine G.region ?_
  obtain ⟨p3, w4, r5, H6⟩ := H.box (P := Try.prog) 49 [.slice A n c] (.slice A n c) rfl
  have H6 : Hp w [] [.blk p3 [.slice A n c] 49] w4 := H6
  refine GL.sem (j := 1) (r5) [1, 2] [(1, .int .i64 64), (2, pt p3 0)] (by kernel_rfl) (by kernel_rfl) rfl ?_
  obtain ⟨p7, w8, r9, H10⟩ := H6.box (P := Try.prog) 3 [.int .i64 64] (.int .i64 64) rfl
  have H10 : Hp w [] [.blk p3 [.slice A n c] 49, .blk p7 [.int .i64 64] 3] w8 := H10
  refine GL.sem (j := 2) (r9) [2, 3] [(2, pt p3 0), (3, pt p7 0)] (by kernel_rfl) (by kernel_rfl) rfl ?_
  refine GL.run (j := 3) 1 [2, 3] [(2, pt p3 0), (3, pt p7 0)] (by kernel_rfl) rfl ?_
  refine GL.k rfl hK2 (fun _ _ h => h) ?_
  refine G.seqK fun K11 hK12 => ?_
  refine G.seqK fun K13 hK14 => ?_
  refine G.region ?_
  refine GL.sem (j := 1) (H10.ld (o := 0) (ty := 3) (v := .int .i64 64) 1 rfl (by kernel_rfl) rfl) [2, 3, 5] [(2, pt p3 0), (3, pt p7 0), (5, .int .i64 64)] (by kernel_rfl) (by kernel_rfl) rfl ?_
  refine GL.run (j := 2) 1 [2, 3, 6] [(2, pt p3 0), (3, pt p7 0), (6, .bool false)] (by kernel_rfl) rfl ?_
  refine GL.k rfl hK14 (fun _ _ h => h) ?_
  refine G.no rfl ?_
  refine G.skipK hK12 (fun _ _ h => h) ?_
  refine G.seqK fun K15 hK16 => ?_
  refine G.region ?_
  refine GL.run (j := 2) 2 [4] [(4, .func (.func 40) #[] #[pt p3 0, pt p7 0])] (by kernel_rfl) rfl ?_
  refine GL.k rfl hK16 (fun _ _ h => h) ?_
  refine G.ret ?_
  intro F_ hF_ hM_
  refine hRet _ _ (bodyPost_1 rfl (RV.tmp rfl) ?_ F_ hF_ hM_)
  exact ⟨_, _, rfl, H10⟩
theorem Chunk_iter (M n : Nat) (hn : n = 64 * M) (hM : M ≤ 1000000) (A : Option Addr) (c : Nat) (hc : n ≤ c) (B D : Nat) : Iter Try.prog 40 #[pt B 0, pt D 0] M (fun k => #[.slice (Option.map (fun x => Addr.add x (64 * k)) A) 64 64]) (fun W => W.cell? ⟨B, 0, none⟩ = some (.slice A n c) ∧ W.cell? ⟨D, 0, none⟩ = some (.int .i64 64)) := by
  intro l J Jx hRd hst hy w h0
  rw [show (#[Value.func (.yield l) #[] #[]] ++ #[pt B 0, pt D 0] : Array Value) = #[.func (.yield l) #[] #[], pt B 0, pt D 0] by simp]
  refine calls_R (args := [.func (.yield l) #[] #[], pt B 0, pt D 0]) Try.func40 rfl Try.ntmps40 rfl ?_
  intro Q0 hRet hNor
  have H := Hp.start w
  have H : Hp w [] [] w := H
  refine RG.seqK fun K1 hK2 => ?_
  refine RG.region (by kernel_rfl) ?_
  refine RL.run (j := 1) 1 [0, 1, 2, 4] [(0, .func (.yield l) #[] #[]), (1, pt B 0), (2, pt D 0), (4, .int .i64 0)] (by kernel_rfl) rfl ?_
  refine RL.k rfl hK2 (fun _ _ h => h) ?_
  refine RG.block ?_
  refine RG.fit [0, 1, 2, 4] (M' := [(0, .func (.yield l) #[] #[]), (1, pt B 0), (2, pt D 0), (4, .int .i64 0)]) (by kernel_rfl) ?_
  refine RG.eq (M' := [(0, .func (.yield l) #[] #[]), (1, pt B 0), (2, pt D 0), (4, .int .i64 (((64 * 0) : Nat) : Int))]) (by rfl) ?_
  refine RG.loop (X := Nat) (fun k => [(0, .func (.yield l) #[] #[]), (1, pt B 0), (2, pt D 0), (4, .int .i64 (((64 * k) : Nat) : Int))]) (fun k w_ => k ≤ M ∧ J k w_) (fun k => M - k) 0 [0, 1, 2, 4] (by kernel_rfl) ⟨Nat.zero_le _, h0⟩ ?_
  rintro k wk ⟨hkN, hJk⟩
  have H3 := Hp.start wk
  refine RG.eq (M' := [(0, .func (.yield l) #[] #[]), (1, pt B 0), (2, pt D 0), (4, .int .i64 (((64 * k) : Nat) : Int))]) rfl ?_
  refine RG.seqK fun K4 hK5 => ?_
  refine RG.seqK fun K6 hK7 => ?_
  refine RG.region (by kernel_rfl) ?_
  refine RL.run (j := 1) 1 [0, 1, 2, 4, 6] [(0, .func (.yield l) #[] #[]), (1, pt B 0), (2, pt D 0), (4, .int .i64 (((64 * k) : Nat) : Int)), (6, .int .i64 (((64 * k) : Nat) : Int))] (by kernel_rfl) rfl ?_
  refine RL.sem (j := 2) (run_ld1 (P := Try.prog) (ty := 49) (a := ⟨B, 0, none⟩) (v := .slice A n c) (by kernel_rfl) (H3.oldCell (hRd _ _ hJk).1)) [0, 1, 2, 4, 6, 7] [(0, .func (.yield l) #[] #[]), (1, pt B 0), (2, pt D 0), (4, .int .i64 (((64 * k) : Nat) : Int)), (6, .int .i64 (((64 * k) : Nat) : Int)), (7, .slice A n c)] (by kernel_rfl) (by kernel_rfl) rfl ?_
  refine RL.run (j := 4) 2 [0, 1, 2, 4, 9] [(0, .func (.yield l) #[] #[]), (1, pt B 0), (2, pt D 0), (4, .int .i64 (((64 * k) : Nat) : Int)), (9, .bool (decide ((((64 * k) : Nat) : Int) < (n : Int))))] (by kernel_rfl) rfl ?_
  refine RL.k rfl hK7 (fun _ _ h => h) ?_
  cases hb8 : (decide ((((64 * k) : Nat) : Int) < (n : Int)))
  · skip
    have hb8f := of_decide_eq_false hb8
    refine RG.no rfl ?_
    -- exit to the end
    refine fun F_ hF_ hM_ => wpIn_exit ?_
    refine hNor _ _ (postM_0 rfl  ?_ F_ hF_ hM_)
    exact ⟨⟨_, rfl⟩, .inl (by first | exact hJk | (have hkk : k = M := by omega); rw [← hkk]; exact hJk)⟩
  · skip
    have hb8f := of_decide_eq_true hb8
    refine RG.yes rfl ?_
    refine RG.skipK hK5 (fun _ _ h => h) ?_
    refine RG.seqK fun K9 hK10 => ?_
    refine RG.block ?_
    refine RG.seqK fun K11 hK12 => ?_
    refine RG.draw H3 (by kernel_rfl) (by kernel_rfl) ?_
    refine GQ.sem (j := 1) (fun w_ H_ => run_ld1 (P := Try.prog) (ty := 3) (a := ⟨D, 0, none⟩) (v := .int .i64 64) (by kernel_rfl) (H_.oldCell (hRd _ _ hJk).2)) [0, 1, 2, 4, 13] [(0, .func (.yield l) #[] #[]), (1, pt B 0), (2, pt D 0), (4, .int .i64 (((64 * k) : Nat) : Int)), (13, .int .i64 64)] (by kernel_rfl) (by kernel_rfl) rfl ?_
    refine GQ.sem (j := 2) (fun w_ H_ => run_ld1 (P := Try.prog) (ty := 49) (a := ⟨B, 0, none⟩) (v := .slice A n c) (by kernel_rfl) (H_.oldCell (hRd _ _ hJk).1)) [0, 1, 2, 4, 13, 14] [(0, .func (.yield l) #[] #[]), (1, pt B 0), (2, pt D 0), (4, .int .i64 (((64 * k) : Nat) : Int)), (13, .int .i64 64), (14, .slice A n c)] (by kernel_rfl) (by kernel_rfl) rfl ?_
    refine GQ.run (j := 3) 1 [0, 1, 2, 4, 13, 14, 15] [(0, .func (.yield l) #[] #[]), (1, pt B 0), (2, pt D 0), (4, .int .i64 (((64 * k) : Nat) : Int)), (13, .int .i64 64), (14, .slice A n c), (15, .int .i64 (((64 * k) : Nat) : Int))] (by kernel_rfl) rfl ?_
    refine GQ.sem (j := 4) (fun w_ H_ => run_sliceSl (P := Try.prog) (lo := some (.int .i64 (((64 * k) : Nat) : Int))) (hi := none) (t := 49) (len := n) (cap := c) (A := A) (l := (64 * k)) (h := n) (by kernel_rfl) (Or.inr ⟨_, _, rfl, rfl⟩) (Or.inl ⟨rfl, rfl⟩) (by omega) (by omega)) [0, 1, 2, 4, 13, 16] [(0, .func (.yield l) #[] #[]), (1, pt B 0), (2, pt D 0), (4, .int .i64 (((64 * k) : Nat) : Int)), (13, .int .i64 64), (16, .slice (if c = (64 * k) then A else Option.map (fun x => Addr.add x (64 * k)) A) (n - (64 * k)) (c - (64 * k)))] (by kernel_rfl) (by kernel_rfl) rfl ?_
    refine GQ.run (j := 7) 3 [0, 1, 2, 4, 5] [(0, .func (.yield l) #[] #[]), (1, pt B 0), (2, pt D 0), (4, .int .i64 (((64 * k) : Nat) : Int)), (5, .int .i64 (if (((n - (64 * k)) : Nat) : Int) < (64 : Int) then (((n - (64 * k)) : Nat) : Int) else (64 : Int)))] (by kernel_rfl) rfl ?_
    have e13 : (if (((n - (64 * k)) : Nat) : Int) < (64 : Int) then (((n - (64 * k)) : Nat) : Int) else (64 : Int)) = 64 := by rw [if_neg (by omega)]
    refine GQ.eq (M' := [(0, .func (.yield l) #[] #[]), (1, pt B 0), (2, pt D 0), (4, .int .i64 (((64 * k) : Nat) : Int)), (5, .int .i64 64)]) (by rw [e13]) ?_
    clear e13
    refine GQ.kR rfl hK12 (fun _ _ h => h) (fun w14 H15 => ?_)
    refine RG.seqK fun K16 hK17 => ?_
    refine RG.region (by kernel_rfl) ?_
    refine RL.run (j := 1) 1 [0, 1, 2, 4, 5, 19] [(0, .func (.yield l) #[] #[]), (1, pt B 0), (2, pt D 0), (4, .int .i64 (((64 * k) : Nat) : Int)), (5, .int .i64 64), (19, .func (.yield l) #[] #[])] (by kernel_rfl) rfl ?_
    refine RL.sem (j := 2) (run_ld1 (P := Try.prog) (ty := 49) (a := ⟨B, 0, none⟩) (v := .slice A n c) (by kernel_rfl) (H15.oldCell (hRd _ _ hJk).1)) [0, 1, 2, 4, 5, 19, 20] [(0, .func (.yield l) #[] #[]), (1, pt B 0), (2, pt D 0), (4, .int .i64 (((64 * k) : Nat) : Int)), (5, .int .i64 64), (19, .func (.yield l) #[] #[]), (20, .slice A n c)] (by kernel_rfl) (by kernel_rfl) rfl ?_
    refine RL.run (j := 9) 7 [0, 1, 2, 4, 19, 20, 21, 24, 27] [(0, .func (.yield l) #[] #[]), (1, pt B 0), (2, pt D 0), (4, .int .i64 (((64 * k) : Nat) : Int)), (19, .func (.yield l) #[] #[]), (20, .slice A n c), (21, .int .i64 (((64 * k) : Nat) : Int)), (24, .int .i64 (IntKind.i64.wrap ((((64 * k) : Nat) : Int) + 64))), (27, .int .i64 (IntKind.i64.wrap ((((64 * k) : Nat) : Int) + 64)))] (by kernel_rfl) rfl ?_
    have e18 : (IntKind.i64.wrap ((((64 * k) : Nat) : Int) + 64)) = (((64 * k) + 64 : Nat) : Int) := by rw [in_i64 (by omega)]; omega
    refine RL.eq (M' := [(0, .func (.yield l) #[] #[]), (1, pt B 0), (2, pt D 0), (4, .int .i64 (((64 * k) : Nat) : Int)), (19, .func (.yield l) #[] #[]), (20, .slice A n c), (21, .int .i64 (((64 * k) : Nat) : Int)), (24, .int .i64 (((64 * k) + 64 : Nat) : Int)), (27, .int .i64 (((64 * k) + 64 : Nat) : Int))]) (by rw [e18]) ?_
    clear e18
    refine RL.sem (j := 10) (run_slice3N (P := Try.prog) (t := 49) (len := n) (cap := c) (A := A) (k1 := .i64) (k2 := .i64) (k3 := .i64) (l := 64 * k) (h := (64 * k) + 64) (n := 64) (by kernel_rfl) (by omega) (by decide) (by omega) _) [0, 1, 2, 4, 19, 28] [(0, .func (.yield l) #[] #[]), (1, pt B 0), (2, pt D 0), (4, .int .i64 (((64 * k) : Nat) : Int)), (19, .func (.yield l) #[] #[]), (28, .slice (Option.map (fun x => Addr.add x (64 * k)) A) 64 64)] (by kernel_rfl) (by kernel_rfl) rfl ?_
    refine RL.yield (j := 11) (hy k _ (by omega) (hst k _ _ hJk H15.below)) (by kernel_rfl) rfl (fun e_ w19 hR23 => ?_)
    obtain ⟨b20, rfl, hyt21, hyf22⟩ := yield_cases hR23
    have H24 := Hp.start w19
    refine ⟨_, rfl, [0, 1, 2, 4, 29], [(0, .func (.yield l) #[] #[]), (1, pt B 0), (2, pt D 0), (4, .int .i64 (((64 * k) : Nat) : Int)), (29, .bool b20)], by kernel_rfl, ?_⟩
    refine RL.run (j := 12) 1 [0, 1, 2, 4, 30] [(0, .func (.yield l) #[] #[]), (1, pt B 0), (2, pt D 0), (4, .int .i64 (((64 * k) : Nat) : Int)), (30, .bool (!b20))] (by kernel_rfl) rfl ?_
    refine RL.k rfl hK17 (fun _ _ h => h) ?_
    rcases (Bool.eq_false_or_eq_true b20).symm with hb25 | hb25
    · skip
      refine RG.eq (M' := [(0, .func (.yield l) #[] #[]), (1, pt B 0), (2, pt D 0), (4, .int .i64 (((64 * k) : Nat) : Int)), (30, .bool true)]) (by first | (rw [hb25]; done) | (rw [hb25]; rfl)) ?_
      have hJ26 := hyf22 hb25
      refine RG.yes rfl ?_
      refine RG.ret ?_
      intro F_ hF_ hM_
      refine hRet _ _ (postM_0 rfl  ?_ F_ hF_ hM_)
      exact ⟨⟨_, rfl⟩, .inr hJ26⟩
    · skip
      refine RG.eq (M' := [(0, .func (.yield l) #[] #[]), (1, pt B 0), (2, pt D 0), (4, .int .i64 (((64 * k) : Nat) : Int)), (30, .bool false)]) (by first | (rw [hb25]; done) | (rw [hb25]; rfl)) ?_
      have hJ27 := hyt21 hb25
      refine RG.no rfl ?_
      refine RG.skipK hK10 (fun _ _ h => h) ?_
      refine RG.region (by kernel_rfl) ?_
      refine RL.run (j := 1) 1 [0, 1, 2, 10] [(0, .func (.yield l) #[] #[]), (1, pt B 0), (2, pt D 0), (10, .int .i64 (((64 * k) : Nat) : Int))] (by kernel_rfl) rfl ?_
      refine RL.sem (j := 2) (run_ld1 (P := Try.prog) (ty := 3) (a := ⟨D, 0, none⟩) (v := .int .i64 64) (by kernel_rfl) (H24.oldCell (hRd _ _ hJ27).2)) [0, 1, 2, 10, 11] [(0, .func (.yield l) #[] #[]), (1, pt B 0), (2, pt D 0), (10, .int .i64 (((64 * k) : Nat) : Int)), (11, .int .i64 64)] (by kernel_rfl) (by kernel_rfl) rfl ?_
      refine RL.run (j := 4) 2 [0, 1, 2, 4] [(0, .func (.yield l) #[] #[]), (1, pt B 0), (2, pt D 0), (4, .int .i64 (IntKind.i64.wrap ((((64 * k) : Nat) : Int) + 64)))] (by kernel_rfl) rfl ?_
      have e28 : (IntKind.i64.wrap ((((64 * k) : Nat) : Int) + 64)) = (((64 * k) + 64 : Nat) : Int) := by rw [in_i64 (by omega)]; omega
      refine RL.eq (M' := [(0, .func (.yield l) #[] #[]), (1, pt B 0), (2, pt D 0), (4, .int .i64 (((64 * k) + 64 : Nat) : Int))]) (by rw [e28]) ?_
      clear e28
      refine RL.fit (ts := [0, 1, 2, 4]) (M' := [(0, .func (.yield l) #[] #[]), (1, pt B 0), (2, pt D 0), (4, .int .i64 (((64 * k) + 64 : Nat) : Int))]) (by kernel_rfl) ?_
      refine RL.eq (M' := [(0, .func (.yield l) #[] #[]), (1, pt B 0), (2, pt D 0), (4, .int .i64 (((64 * (k + 1)) : Nat) : Int))]) (by rw [show 64 * k + 64 = 64 * (k + 1) by omega]) ?_
      exact RL.again (k + 1) [0, 1, 2, 4] rfl (by kernel_rfl) (by show M - (k + 1) < M - k; omega) ⟨by omega, hJ27⟩
theorem Sum_calls (A : Option Addr) (n c : Nat) (b : List UInt8) (w : World) (hx : RdS w A (by8 b)) (hn : n = b.length) (hb : b.length ≤ 1000000) : Calls Try.prog 28 #[.slice A n c] w fun e w' => e = .returned (.agg (by8 (sha b)).toArray) ∧ Hp w [] [] w' := by
  subst hn
  refine calls_R (args := [.slice A b.length c]) Try.func28 rfl Try.ntmps28 rfl ?_
  intro Q0 hRet hNor
  have H := Hp.start w
  have H : Hp w [] [] w := H
  refine RG.seqK fun K1 hK2 => ?_
  refine RG.region (by kernel_rfl) ?_
  obtain ⟨p3, w4, r5, H6⟩ := H.alloc (P := Try.prog) 25 (by8 (bsP (outB (blocks (padM b) ((padM b).length / 64))) 32 0)) (by kernel_rfl)
  have H6 : Hp w [] [.blk p3 (by8 (bsP (outB (blocks (padM b) ((padM b).length / 64))) 32 0)) 25] w4 := H6
  refine RL.sem (j := 1) (r5) [0, 2] [(0, .slice A b.length c), (2, pt p3 0)] (by kernel_rfl) (by kernel_rfl) rfl ?_
  refine RL.k rfl hK2 (fun _ _ h => h) ?_
  refine RG.seqK fun K7 hK8 => ?_
  refine RG.region (by kernel_rfl) ?_
  refine RL.run (j := 1) 1 [0, 2, 9] [(0, .slice A b.length c), (2, pt p3 0), (9, .agg #[.int .u32 1779033703, .int .u32 3144134277, .int .u32 1013904242, .int .u32 2773480762, .int .u32 1359893119, .int .u32 2600822924, .int .u32 528734635, .int .u32 1541459225])] (by kernel_rfl) rfl ?_
  obtain ⟨p9, w10, r11, H12⟩ := H6.alloc (P := Try.prog) 62 [.int .u32 0, .int .u32 0, .int .u32 0, .int .u32 0, .int .u32 0, .int .u32 0, .int .u32 0, .int .u32 0] (by kernel_rfl)
  have H12 : Hp w [] [.blk p3 (by8 (bsP (outB (blocks (padM b) ((padM b).length / 64))) 32 0)) 25, .blk p9 [.int .u32 0, .int .u32 0, .int .u32 0, .int .u32 0, .int .u32 0, .int .u32 0, .int .u32 0, .int .u32 0] 62] w10 := H12
  refine RL.sem (j := 2) (r11) [0, 2, 3, 9] [(0, .slice A b.length c), (2, pt p3 0), (3, pt p9 0), (9, .agg #[.int .u32 1779033703, .int .u32 3144134277, .int .u32 1013904242, .int .u32 2773480762, .int .u32 1359893119, .int .u32 2600822924, .int .u32 528734635, .int .u32 1541459225])] (by kernel_rfl) (by kernel_rfl) rfl ?_
  obtain ⟨w13, r14, H15⟩ := H12.stA (P := Try.prog) (o := 0) (vs := [.int .u32 1779033703, .int .u32 3144134277, .int .u32 1013904242, .int .u32 2773480762, .int .u32 1359893119, .int .u32 2600822924, .int .u32 528734635, .int .u32 1541459225]) (ty := 62) (m := 8) 1 rfl (by kernel_rfl) rfl (by simp) (by simp [Value.oneCell'])
  have H15 : Hp w [] [.blk p3 (by8 (bsP (outB (blocks (padM b) ((padM b).length / 64))) 32 0)) 25, .blk p9 [.int .u32 1779033703, .int .u32 3144134277, .int .u32 1013904242, .int .u32 2773480762, .int .u32 1359893119, .int .u32 2600822924, .int .u32 528734635, .int .u32 1541459225] 62] w13 := H15
  refine RL.semU (j := 3) r14 [0, 2, 3] [(0, .slice A b.length c), (2, pt p3 0), (3, pt p9 0)] (by kernel_rfl) rfl rfl rfl ?_
  refine RL.k rfl hK8 (fun _ _ h => h) ?_
  refine RG.seqK fun K16 hK17 => ?_
  refine RG.region (by kernel_rfl) ?_
  refine RL.run (j := 1) 1 [0, 2, 3, 10] [(0, .slice A b.length c), (2, pt p3 0), (3, pt p9 0), (10, .slice A b.length c)] (by kernel_rfl) rfl ?_
  refine RL.call (j := 2) (Clone_calls b A b.length c w13 (hx.hp H15) (rfl) (by omega)) (by kernel_rfl) rfl (fun e_ w22 hR => ?_)
  obtain ⟨A18, c19, rfl, H21⟩ := hR
  have H20 : Hp w [] [.blk p3 (by8 (bsP (outB (blocks (padM b) ((padM b).length / 64))) 32 0)) 25, .blk p9 [.int .u32 1779033703, .int .u32 3144134277, .int .u32 1013904242, .int .u32 2773480762, .int .u32 1359893119, .int .u32 2600822924, .int .u32 528734635, .int .u32 1541459225] 62, .row A18 b.length c19 5 1 (by8 b)] w22 := H15.callNew H21
  refine ⟨_, rfl, [0, 2, 3, 11], [(0, .slice A b.length c), (2, pt p3 0), (3, pt p9 0), (11, .slice A18 b.length c19)], by kernel_rfl, ?_⟩
  obtain ⟨p23, w24, r25, H26⟩ := H20.madeRow (P := Try.prog) (Instr.buildSlice 49 1 #[(0, .int .u8 128)]) (fun b_ => .slice (some ⟨b_, 0, none⟩) 1 1) [.int .u8 128] 5 1 1 1 (by kernel_rfl) (by decide) (by decide) rfl
  have H26 : Hp w [] [.blk p3 (by8 (bsP (outB (blocks (padM b) ((padM b).length / 64))) 32 0)) 25, .blk p9 [.int .u32 1779033703, .int .u32 3144134277, .int .u32 1013904242, .int .u32 2773480762, .int .u32 1359893119, .int .u32 2600822924, .int .u32 528734635, .int .u32 1541459225] 62, .row A18 b.length c19 5 1 (by8 b), .row (some ⟨p23, 0, none⟩) 1 1 5 1 (by8 ([128] : List UInt8))] w24 := H26
  refine RL.sem (j := 3) (r25) [0, 2, 3, 11, 12] [(0, .slice A b.length c), (2, pt p3 0), (3, pt p9 0), (11, .slice A18 b.length c19), (12, .slice (some ⟨p23, 0, none⟩) 1 1)] (by kernel_rfl) (by kernel_rfl) rfl ?_
  obtain ⟨A27, c28, w29, r30, H31⟩ := H26.append (P := Try.prog) (e := 5) (sz := 1) (by_ := 1) (n := b.length) (c := c19) (m := 1) (d := 1) (t := 49) (ty := 49) (xs := by8 b) (news := by8 ([128] : List UInt8)) 2 rfl (by kernel_rfl) (H26.rdRow 3 rfl) (by first | (simp [by8_length]; done) | (rw [by8_length]; omega) | (rw [by8_length, putB_length])) (by8_one _) (by omega) (by simp only [maxLen]; omega)
  rw [← by8_append] at H31
  have H31 : Hp w [] [.blk p3 (by8 (bsP (outB (blocks (padM b) ((padM b).length / 64))) 32 0)) 25, .blk p9 [.int .u32 1779033703, .int .u32 3144134277, .int .u32 1013904242, .int .u32 2773480762, .int .u32 1359893119, .int .u32 2600822924, .int .u32 528734635, .int .u32 1541459225] 62, .row A27 (b.length + 1) c28 5 1 (by8 (b ++ ([128] : List UInt8))), .row (some ⟨p23, 0, none⟩) 1 1 5 1 (by8 ([128] : List UInt8))] w29 := H31
  refine RL.sem (j := 4) (r30) [0, 2, 3, 13] [(0, .slice A b.length c), (2, pt p3 0), (3, pt p9 0), (13, .slice A27 (b.length + 1) c28)] (by kernel_rfl) (by kernel_rfl) rfl ?_
  refine RL.run (j := 5) 1 [0, 2, 3, 4] [(0, .slice A b.length c), (2, pt p3 0), (3, pt p9 0), (4, .slice A27 (b.length + 1) c28)] (by kernel_rfl) rfl ?_
  refine RL.k rfl hK17 (fun _ _ h => h) ?_
  refine RG.seqK fun K32 hK33 => ?_
  refine RG.block ?_
  have H34 : Hp w [] [.blk p3 (by8 (bsP (outB (blocks (padM b) ((padM b).length / 64))) 32 0)) 25, .blk p9 [.int .u32 1779033703, .int .u32 3144134277, .int .u32 1013904242, .int .u32 2773480762, .int .u32 1359893119, .int .u32 2600822924, .int .u32 528734635, .int .u32 1541459225] 62, .row A27 (b.length + 1 + 0) c28 5 1 (by8 (b ++ [128] ++ List.replicate 0 0)), .row (some ⟨p23, 0, none⟩) 1 1 5 1 (by8 ([128] : List UInt8))] w29 := by rw [show List.replicate 0 (0 : UInt8) = [] from rfl, List.append_nil]; exact H31
  refine RG.fit [0, 2, 3, 4] (M' := [(0, .slice A b.length c), (2, pt p3 0), (3, pt p9 0), (4, .slice A27 (b.length + 1 + 0) c28)]) (by kernel_rfl) ?_
  refine RG.loop (X := Nat × Option Addr × Nat) (fun ⟨j, B_, C_⟩ => [(0, .slice A b.length c), (2, pt p3 0), (3, pt p9 0), (4, .slice B_ (b.length + 1 + j) C_)]) (fun ⟨j, B_, C_⟩ w_ => (j ≤ padZ b.length) ∧ Hp w [] [.blk p3 (by8 (bsP (outB (blocks (padM b) ((padM b).length / 64))) 32 0)) 25, .blk p9 [.int .u32 1779033703, .int .u32 3144134277, .int .u32 1013904242, .int .u32 2773480762, .int .u32 1359893119, .int .u32 2600822924, .int .u32 528734635, .int .u32 1541459225] 62, .row B_ (b.length + 1 + j) C_ 5 1 (by8 (b ++ [128] ++ List.replicate j 0)), .row (some ⟨p23, 0, none⟩) 1 1 5 1 (by8 ([128] : List UInt8))] w_) (fun ⟨j, B_, C_⟩ => padZ b.length - j) ⟨0, A27, c28⟩ [0, 2, 3, 4] (by kernel_rfl) ⟨by omega, H34⟩ ?_
  rintro ⟨j, B_, C_⟩ w35 ⟨hi36, H37⟩
  refine RG.eq (M' := [(0, .slice A b.length c), (2, pt p3 0), (3, pt p9 0), (4, .slice B_ (b.length + 1 + j) C_)]) rfl ?_
  have H37 : Hp w [] [.blk p3 (by8 (bsP (outB (blocks (padM b) ((padM b).length / 64))) 32 0)) 25, .blk p9 [.int .u32 1779033703, .int .u32 3144134277, .int .u32 1013904242, .int .u32 2773480762, .int .u32 1359893119, .int .u32 2600822924, .int .u32 528734635, .int .u32 1541459225] 62, .row B_ (b.length + 1 + j) C_ 5 1 (by8 (b ++ [128] ++ List.replicate j 0)), .row (some ⟨p23, 0, none⟩) 1 1 5 1 (by8 ([128] : List UInt8))] w35 := H37
  have hj := hi36
  have hz : padZ b.length = (119 - b.length % 64) % 64 := rfl
  refine RG.seqK fun K38 hK39 => ?_
  refine RG.seqK fun K40 hK41 => ?_
  refine RG.region (by kernel_rfl) ?_
  refine RL.run (j := 4) 4 [0, 2, 3, 4, 17] [(0, .slice A b.length c), (2, pt p3 0), (3, pt p9 0), (4, .slice B_ (b.length + 1 + j) C_), (17, .bool ((Int.tmod (((b.length + 1 + j) : Nat) : Int) 64) != 56))] (by kernel_rfl) rfl ?_
  have e42 : (Int.tmod (((b.length + 1 + j) : Nat) : Int) 64) = (((b.length + 1 + j) % 64 : Nat) : Int) := n_rem _ 64
  refine RL.eq (M' := [(0, .slice A b.length c), (2, pt p3 0), (3, pt p9 0), (4, .slice B_ (b.length + 1 + j) C_), (17, .bool ((((b.length + 1 + j) % 64 : Nat) : Int) != 56))]) (by rw [e42]) ?_
  clear e42
  refine RL.k rfl hK41 (fun _ _ h => h) ?_
  cases hb43 : ((((b.length + 1 + j) % 64 : Nat) : Int) != 56)
  · skip
    have hb43f : (((b.length + 1 + j) % 64 : Nat) : Int) = 56 := bne_eq_false_iff_eq.1 hb43
    refine RG.no rfl ?_
    refine RG.exitK hK33 (fun _ _ h => h) ?_
    refine RG.seqK fun K44 hK45 => ?_
    refine RG.seqK fun K46 hK47 => ?_
    refine RG.region (by kernel_rfl) ?_
    refine RL.run (j := 1) 1 [0, 2, 3, 4, 5] [(0, .slice A b.length c), (2, pt p3 0), (3, pt p9 0), (4, .slice B_ (b.length + 1 + j) C_), (5, .int .i64 56)] (by kernel_rfl) rfl ?_
    refine RL.k rfl hK47 (fun _ _ h => h) ?_
    refine RG.block ?_
    obtain rfl : j = padZ b.length := by omega
    have H48 : Hp w [] [.blk p3 (by8 (bsP (outB (blocks (padM b) ((padM b).length / 64))) 32 0)) 25, .blk p9 [.int .u32 1779033703, .int .u32 3144134277, .int .u32 1013904242, .int .u32 2773480762, .int .u32 1359893119, .int .u32 2600822924, .int .u32 528734635, .int .u32 1541459225] 62, .row B_ (b.length + 1 + padZ b.length + 0) C_ 5 1 (by8 ((b ++ [128] ++ List.replicate (padZ b.length) 0) ++ lenB b.length 0)), .row (some ⟨p23, 0, none⟩) 1 1 5 1 (by8 ([128] : List UInt8))] w35 := by rw [show lenB b.length 0 = [] from rfl, List.append_nil]; exact H37
    refine RG.fit [0, 2, 3, 4, 5] (M' := [(0, .slice A b.length c), (2, pt p3 0), (3, pt p9 0), (4, .slice B_ (b.length + 1 + padZ b.length + 0) C_), (5, .int .i64 56)]) (by kernel_rfl) ?_
    refine RG.eq (M' := [(0, .slice A b.length c), (2, pt p3 0), (3, pt p9 0), (4, .slice B_ (b.length + 1 + padZ b.length + 0) C_), (5, .int .i64 (56 - 8 * ((0 : Nat) : Int)))]) (by rfl) ?_
    refine RG.loop (X := Nat × Option Addr × Nat) (fun ⟨k, B_, C_⟩ => [(0, .slice A b.length c), (2, pt p3 0), (3, pt p9 0), (4, .slice B_ (b.length + 1 + padZ b.length + k) C_), (5, .int .i64 (56 - 8 * (k : Int)))]) (fun ⟨k, B_, C_⟩ w_ => (k ≤ 8) ∧ Hp w [] [.blk p3 (by8 (bsP (outB (blocks (padM b) ((padM b).length / 64))) 32 0)) 25, .blk p9 [.int .u32 1779033703, .int .u32 3144134277, .int .u32 1013904242, .int .u32 2773480762, .int .u32 1359893119, .int .u32 2600822924, .int .u32 528734635, .int .u32 1541459225] 62, .row B_ (b.length + 1 + padZ b.length + k) C_ 5 1 (by8 ((b ++ [128] ++ List.replicate (padZ b.length) 0) ++ lenB b.length k)), .row (some ⟨p23, 0, none⟩) 1 1 5 1 (by8 ([128] : List UInt8))] w_) (fun ⟨k, B_, C_⟩ => 8 - k) ⟨0, B_, C_⟩ [0, 2, 3, 4, 5] (by kernel_rfl) ⟨by omega, H48⟩ ?_
    rintro ⟨k, B_, C_⟩ w49 ⟨hi50, H51⟩
    refine RG.eq (M' := [(0, .slice A b.length c), (2, pt p3 0), (3, pt p9 0), (4, .slice B_ (b.length + 1 + padZ b.length + k) C_), (5, .int .i64 (56 - 8 * (k : Int)))]) rfl ?_
    have H51 : Hp w [] [.blk p3 (by8 (bsP (outB (blocks (padM b) ((padM b).length / 64))) 32 0)) 25, .blk p9 [.int .u32 1779033703, .int .u32 3144134277, .int .u32 1013904242, .int .u32 2773480762, .int .u32 1359893119, .int .u32 2600822924, .int .u32 528734635, .int .u32 1541459225] 62, .row B_ (b.length + 1 + padZ b.length + k) C_ 5 1 (by8 ((b ++ [128] ++ List.replicate (padZ b.length) 0) ++ lenB b.length k)), .row (some ⟨p23, 0, none⟩) 1 1 5 1 (by8 ([128] : List UInt8))] w49 := H51
    have hk8 := hi50
    refine RG.seqK fun K52 hK53 => ?_
    refine RG.seqK fun K54 hK55 => ?_
    refine RG.region (by kernel_rfl) ?_
    refine RL.run (j := 2) 2 [0, 2, 3, 4, 5, 22] [(0, .slice A b.length c), (2, pt p3 0), (3, pt p9 0), (4, .slice B_ (b.length + 1 + padZ b.length + k) C_), (5, .int .i64 (56 - 8 * (k : Int))), (22, .bool (decide (0 ≤ (56 - 8 * (k : Int)))))] (by kernel_rfl) rfl ?_
    refine RL.k rfl hK55 (fun _ _ h => h) ?_
    cases hb56 : (decide (0 ≤ (56 - 8 * (k : Int))))
    · skip
      have hb56f := of_decide_eq_false hb56
      refine RG.no rfl ?_
      refine RG.exitK hK45 (fun _ _ h => h) ?_
      refine RG.seqK fun K57 hK58 => ?_
      refine RG.seqK fun K59 hK60 => ?_
      refine RG.region (by kernel_rfl) ?_
      refine RL.run (j := 1) 1 [2, 3, 35] [(2, pt p3 0), (3, pt p9 0), (35, .slice B_ (b.length + 1 + padZ b.length + k) C_)] (by kernel_rfl) rfl ?_
      refine RL.call (j := 2) (Chunk_calls B_ (b.length + 1 + padZ b.length + k) C_ w49) (by kernel_rfl) rfl (fun e_ w65 hR => ?_)
      obtain ⟨B61, D62, rfl, H64⟩ := hR
      have H63 : Hp w [] [.blk p3 (by8 (bsP (outB (blocks (padM b) ((padM b).length / 64))) 32 0)) 25, .blk p9 [.int .u32 1779033703, .int .u32 3144134277, .int .u32 1013904242, .int .u32 2773480762, .int .u32 1359893119, .int .u32 2600822924, .int .u32 528734635, .int .u32 1541459225] 62, .row B_ (b.length + 1 + padZ b.length + k) C_ 5 1 (by8 ((b ++ [128] ++ List.replicate (padZ b.length) 0) ++ lenB b.length k)), .row (some ⟨p23, 0, none⟩) 1 1 5 1 (by8 ([128] : List UInt8)), .blk B61 [.slice B_ (b.length + 1 + padZ b.length + k) C_] 49, .blk D62 [.int .i64 64] 3] w65 := H51.callNew H64
      refine ⟨_, rfl, [2, 3, 36], [(2, pt p3 0), (3, pt p9 0), (36, .func (.func 40) #[] #[pt B61 0, pt D62 0])], by kernel_rfl, ?_⟩
      refine RL.k rfl hK60 (fun _ _ h => h) ?_
      refine RG.block ?_
      obtain rfl : k = 8 := by omega
      have H66 : Hp w [] [.blk p3 (by8 (bsP (outB (blocks (padM b) ((padM b).length / 64))) 32 0)) 25, .blk p9 (v8c (blocks (padM b) 0)) 62, .row B_ (b.length + 1 + padZ b.length + 8) C_ 5 1 (by8 (padM b)), .row (some ⟨p23, 0, none⟩) 1 1 5 1 (by8 ([128] : List UInt8)), .blk B61 [.slice B_ (b.length + 1 + padZ b.length + 8) C_] 49, .blk D62 [.int .i64 64] 3] w65 := H63
      have hMp : (padM b).length = b.length + 1 + padZ b.length + 8 := by unfold padM; simp only [List.length_append, List.length_replicate, lenB_length, List.length_cons, List.length_nil]
      have hML : b.length + 1 + padZ b.length + 8 = 64 * ((padM b).length / 64) := by have e1 := padM_length b; omega
      have hMc := (H66.rowLe 2 rfl).1
      have hz2 : padZ b.length < 64 := Nat.mod_lt _ (by decide)
      refine RG.fit [2, 3, 36] (M' := [(2, pt p3 0), (3, pt p9 0), (36, .func (.func 40) #[] #[pt B61 0, pt D62 0])]) (by kernel_rfl) ?_
      refine RG.range H66 (gf := 40) (lb := #[pt B61 0, pt D62 0]) rfl (enters_of Try.func40 (by kernel_rfl) rfl) (Xt := Unit) (fun k u_ => True) (fun k u_ => [.blk p3 (by8 (bsP (outB (blocks (padM b) ((padM b).length / 64))) 32 0)) 25, .blk p9 (v8c (blocks (padM b) k)) 62, .row B_ (b.length + 1 + padZ b.length + 8) C_ 5 1 (by8 (padM b)), .row (some ⟨p23, 0, none⟩) 1 1 5 1 (by8 ([128] : List UInt8)), .blk B61 [.slice B_ (b.length + 1 + padZ b.length + 8) C_] 49, .blk D62 [.int .i64 64] 3]) (fun u_ => False) (fun u_ => []) (N := ((padM b).length / 64)) (enc := fun k => #[.slice (Option.map (fun x => Addr.add x (64 * k)) B_) 64 64]) (Chunk_iter ((padM b).length / 64) (b.length + 1 + padZ b.length + 8) hML (by omega) B_ C_ hMc B61 D62) (fun _ => rfl) () trivial rfl (fun k u E W hx HW => ⟨(HW.blkAt 4 rfl).cell 0, (HW.blkAt 5 rfl).cell 0⟩) (fun k => [(37, .slice (Option.map (fun x => Addr.add x (64 * k)) B_) 64 64), (2, pt p3 0), (3, pt p9 0), (36, .func (.func 40) #[] #[pt B61 0, pt D62 0])]) (fun _ => rfl) ?_ ?_ ?_
      · skip
        rintro D70 l71 oR72 oB73 k u_ w67 K74 hk75 hx68 H69 hK76
        have H69 : Hp w [] [.blk p3 (by8 (bsP (outB (blocks (padM b) ((padM b).length / 64))) 32 0)) 25, .blk p9 (v8c (blocks (padM b) k)) 62, .row B_ (b.length + 1 + padZ b.length + 8) C_ 5 1 (by8 (padM b)), .row (some ⟨p23, 0, none⟩) 1 1 5 1 (by8 ([128] : List UInt8)), .blk B61 [.slice B_ (b.length + 1 + padZ b.length + 8) C_] 49, .blk D62 [.int .i64 64] 3, .obj D70 DF, .obj l71 oR72] w67 := H69
        have hk9 := hk75
        refine RG.region (by kernel_rfl) ?_
        refine RL.run (j := 1) 1 [3, 6] [(3, pt p9 0), (6, .slice (Option.map (fun x => Addr.add x (64 * k)) B_) 64 64)] (by kernel_rfl) rfl ?_
        refine RL.done rfl (fun F_ hF_ hM_ => hK76 F_ _ [.blk p3 (by8 (bsP (outB (blocks (padM b) ((padM b).length / 64))) 32 0)) 25, .blk p9 (v8c (blocks (padM b) k)) 62, .row B_ (b.length + 1 + padZ b.length + 8) C_ 5 1 (by8 (padM b)), .row (some ⟨p23, 0, none⟩) 1 1 5 1 (by8 ([128] : List UInt8)), .blk B61 [.slice B_ (b.length + 1 + padZ b.length + 8) C_] 49, .blk D62 [.int .i64 64] 3] _ hF_ hM_ H69 ?_)
        intro w77 H78
        have H78 : Hp w [] [.blk p3 (by8 (bsP (outB (blocks (padM b) ((padM b).length / 64))) 32 0)) 25, .blk p9 (v8c (blocks (padM b) k)) 62, .row B_ (b.length + 1 + padZ b.length + 8) C_ 5 1 (by8 (padM b)), .row (some ⟨p23, 0, none⟩) 1 1 5 1 (by8 ([128] : List UInt8)), .blk B61 [.slice B_ (b.length + 1 + padZ b.length + 8) C_] 49, .blk D62 [.int .i64 64] 3, .obj D70 DF, .obj l71 oB73] w77 := H78
        refine RG.block ?_
        refine RG.region (by kernel_rfl) ?_
        refine RL.run (j := 1) 1 [3, 38] [(3, pt p9 0), (38, .slice (Option.map (fun x => Addr.add x (64 * k)) B_) 64 64)] (by kernel_rfl) rfl ?_
        have H79 := (Hp.reorder (L' := [.blk p9 (v8c (blocks (padM b) k)) 62, .blk p3 (by8 (bsP (outB (blocks (padM b) ((padM b).length / 64))) 32 0)) 25, .row B_ (b.length + 1 + padZ b.length + 8) C_ 5 1 (by8 (padM b)), .row (some ⟨p23, 0, none⟩) 1 1 5 1 (by8 ([128] : List UInt8)), .blk B61 [.slice B_ (b.length + 1 + padZ b.length + 8) C_] 49, .blk D62 [.int .i64 64] 3, .obj D70 DF, .obj l71 oB73]) H78 (List.Perm.trans (List.Perm.swap _ _ _) (List.Perm.refl _)))
        refine RL.call (j := 2) (Block_calls (ids [.blk p9 (v8c (blocks (padM b) k)) 62]) p9 (Option.map (fun x => Addr.add x (64 * k)) B_) 64 ((List.drop (64 * k) (padM b)).take 64) (blocks (padM b) k) w77 (Hp.startL (A := [.blk p9 (v8c (blocks (padM b) k)) 62]) (B := [.blk p3 (by8 (bsP (outB (blocks (padM b) ((padM b).length / 64))) 32 0)) 25, .row B_ (b.length + 1 + padZ b.length + 8) C_ 5 1 (by8 (padM b)), .row (some ⟨p23, 0, none⟩) 1 1 5 1 (by8 ([128] : List UInt8)), .blk B61 [.slice B_ (b.length + 1 + padZ b.length + 8) C_] 49, .blk D62 [.int .i64 64] 3, .obj D70 DF, .obj l71 oB73]) H79) (ok8_blocks _ _) (RdO.chunk (RdO.row (A' := [.blk p9 (v8c (blocks (padM b) k)) 62]) (B' := [.blk p3 (by8 (bsP (outB (blocks (padM b) ((padM b).length / 64))) 32 0)) 25, .row B_ (b.length + 1 + padZ b.length + 8) C_ 5 1 (by8 (padM b)), .row (some ⟨p23, 0, none⟩) 1 1 5 1 (by8 ([128] : List UInt8)), .blk B61 [.slice B_ (b.length + 1 + padZ b.length + 8) C_] 49, .blk D62 [.int .i64 64] 3, .obj D70 DF, .obj l71 oB73]) H79 1 rfl) (64 * k) 64 (by omega)) (by rw [List.length_take, List.length_drop]; omega) (Nat.le_refl _)) (by kernel_rfl) rfl (fun e_ w80 hR => ?_)
        obtain ⟨rfl, H82⟩ := hR
        have H81 : Hp w [] [.blk p9 (v8c (blocks (padM b) (k + 1))) 62, .blk p3 (by8 (bsP (outB (blocks (padM b) ((padM b).length / 64))) 32 0)) 25, .row B_ (b.length + 1 + padZ b.length + 8) C_ 5 1 (by8 (padM b)), .row (some ⟨p23, 0, none⟩) 1 1 5 1 (by8 ([128] : List UInt8)), .blk B61 [.slice B_ (b.length + 1 + padZ b.length + 8) C_] 49, .blk D62 [.int .i64 64] 3, .obj D70 DF, .obj l71 oB73] w80 := Hp.callL (A := [.blk p9 (v8c (blocks (padM b) k)) 62]) (B := [.blk p3 (by8 (bsP (outB (blocks (padM b) ((padM b).length / 64))) 32 0)) 25, .row B_ (b.length + 1 + padZ b.length + 8) C_ 5 1 (by8 (padM b)), .row (some ⟨p23, 0, none⟩) 1 1 5 1 (by8 ([128] : List UInt8)), .blk B61 [.slice B_ (b.length + 1 + padZ b.length + 8) C_] 49, .blk D62 [.int .i64 64] 3, .obj D70 DF, .obj l71 oB73]) H79 H82
        refine ⟨_, rfl, [], [], by kernel_rfl, ?_⟩
        have H83 := (Hp.reorder (L' := [.blk p3 (by8 (bsP (outB (blocks (padM b) ((padM b).length / 64))) 32 0)) 25, .blk p9 (v8c (blocks (padM b) (k + 1))) 62, .row B_ (b.length + 1 + padZ b.length + 8) C_ 5 1 (by8 (padM b)), .row (some ⟨p23, 0, none⟩) 1 1 5 1 (by8 ([128] : List UInt8)), .blk B61 [.slice B_ (b.length + 1 + padZ b.length + 8) C_] 49, .blk D62 [.int .i64 64] 3, .obj D70 DF, .obj l71 oB73]) H81 (List.Perm.trans (List.Perm.swap _ _ _) (List.Perm.refl _)))
        exact RL.done rfl (fun F_ hF_ hM_ => ⟨(), trivial, H83⟩)
      · skip
        rintro D87 u_ w84 hx85 H86
        refine RG.kk hK58 (fun _ _ h => h) ?_
        have H86 : Hp w [] [.blk p3 (by8 (bsP (outB (blocks (padM b) ((padM b).length / 64))) 32 0)) 25, .blk p9 (v8c (blocks (padM b) ((padM b).length / 64))) 62, .row B_ (b.length + 1 + padZ b.length + 8) C_ 5 1 (by8 (padM b)), .row (some ⟨p23, 0, none⟩) 1 1 5 1 (by8 ([128] : List UInt8)), .blk B61 [.slice B_ (b.length + 1 + padZ b.length + 8) C_] 49, .blk D62 [.int .i64 64] 3, .obj D87 DF] w84 := H86
        refine RG.seqK fun K88 hK89 => ?_
        refine RG.region (by kernel_rfl) ?_
        obtain ⟨p90, w91, r92, H93⟩ := H86.alloc (P := Try.prog) 25 (by8 (bsP (outB (blocks (padM b) ((padM b).length / 64))) 32 0)) (by kernel_rfl)
        have H93 : Hp w [] [.blk p3 (by8 (bsP (outB (blocks (padM b) ((padM b).length / 64))) 32 0)) 25, .blk p9 (v8c (blocks (padM b) ((padM b).length / 64))) 62, .row B_ (b.length + 1 + padZ b.length + 8) C_ 5 1 (by8 (padM b)), .row (some ⟨p23, 0, none⟩) 1 1 5 1 (by8 ([128] : List UInt8)), .blk B61 [.slice B_ (b.length + 1 + padZ b.length + 8) C_] 49, .blk D62 [.int .i64 64] 3, .obj D87 DF, .blk p90 (by8 (bsP (outB (blocks (padM b) ((padM b).length / 64))) 32 0)) 25] w91 := H93
        refine RL.sem (j := 1) (r92) [2, 3, 7] [(2, pt p3 0), (3, pt p9 0), (7, pt p90 0)] (by kernel_rfl) (by kernel_rfl) rfl ?_
        refine RL.k rfl hK89 (fun _ _ h => h) ?_
        refine RG.seqK fun K94 hK95 => ?_
        refine RG.seqK fun K96 hK97 => ?_
        refine RG.region (by kernel_rfl) ?_
        refine RL.run (j := 1) 1 [2, 3, 7, 40] [(2, pt p3 0), (3, pt p9 0), (7, pt p90 0), (40, .int .i64 0)] (by kernel_rfl) rfl ?_
        refine RL.k rfl hK97 (fun _ _ h => h) ?_
        refine RG.block ?_
        refine RG.fit [2, 3, 7, 40] (M' := [(2, pt p3 0), (3, pt p9 0), (7, pt p90 0), (40, .int .i64 0)]) (by kernel_rfl) ?_
        refine RG.loop (X := Nat) (fun i => [(2, pt p3 0), (3, pt p9 0), (7, pt p90 0), (40, .int .i64 (i : Int))]) (fun i w_ => (i ≤ 32) ∧ Hp w [] [.blk p3 (by8 (bsP (outB (blocks (padM b) ((padM b).length / 64))) 32 0)) 25, .blk p9 (v8c (blocks (padM b) ((padM b).length / 64))) 62, .row B_ (b.length + 1 + padZ b.length + 8) C_ 5 1 (by8 (padM b)), .row (some ⟨p23, 0, none⟩) 1 1 5 1 (by8 ([128] : List UInt8)), .blk B61 [.slice B_ (b.length + 1 + padZ b.length + 8) C_] 49, .blk D62 [.int .i64 64] 3, .obj D87 DF, .blk p90 (by8 (bsP (outB (blocks (padM b) ((padM b).length / 64))) 32 i)) 25] w_) (fun i => 32 - i) 0 [2, 3, 7, 40] (by kernel_rfl) ⟨by omega, H93⟩ ?_
        rintro i w98 ⟨hi99, H100⟩
        refine RG.eq (M' := [(2, pt p3 0), (3, pt p9 0), (7, pt p90 0), (40, .int .i64 (i : Int))]) rfl ?_
        have H100 : Hp w [] [.blk p3 (by8 (bsP (outB (blocks (padM b) ((padM b).length / 64))) 32 0)) 25, .blk p9 (v8c (blocks (padM b) ((padM b).length / 64))) 62, .row B_ (b.length + 1 + padZ b.length + 8) C_ 5 1 (by8 (padM b)), .row (some ⟨p23, 0, none⟩) 1 1 5 1 (by8 ([128] : List UInt8)), .blk B61 [.slice B_ (b.length + 1 + padZ b.length + 8) C_] 49, .blk D62 [.int .i64 64] 3, .obj D87 DF, .blk p90 (by8 (bsP (outB (blocks (padM b) ((padM b).length / 64))) 32 i)) 25] w98 := H100
        have hi32 := hi99
        refine RG.seqK fun K101 hK102 => ?_
        refine RG.region (by kernel_rfl) ?_
        refine RL.run (j := 1) 1 [2, 3, 7, 40, 41] [(2, pt p3 0), (3, pt p9 0), (7, pt p90 0), (40, .int .i64 (i : Int)), (41, .bool (decide ((i : Int) < 32)))] (by kernel_rfl) rfl ?_
        refine RL.k rfl hK102 (fun _ _ h => h) ?_
        refine RG.seqK fun K103 hK104 => ?_
        cases hb105 : (decide ((i : Int) < 32))
        · skip
          have hb105f := of_decide_eq_false hb105
          refine RG.no rfl ?_
          refine RG.exitK hK95 (fun _ _ h => h) ?_
          refine RG.seqK fun K106 hK107 => ?_
          refine RG.region (by kernel_rfl) ?_
          refine RL.sem (j := 1) (H100.ldA (o := 0) (ty := 25) (m := 32) (sub := by8 (bsP (outB (blocks (padM b) ((padM b).length / 64))) 32 i)) 7 rfl (by kernel_rfl) (sub_whole (by rw [by8_length, bsP_length (by omega)])) (by rw [by8_length, bsP_length (by omega)])) [2, 56] [(2, pt p3 0), (56, .agg (by8 (bsP (outB (blocks (padM b) ((padM b).length / 64))) 32 i)).toArray)] (by kernel_rfl) (by kernel_rfl) rfl ?_
          obtain ⟨w108, r109, H110⟩ := H100.stA (P := Try.prog) (o := 0) (vs := by8 (bsP (outB (blocks (padM b) ((padM b).length / 64))) 32 i)) (ty := 25) (m := 32) 0 rfl (by kernel_rfl) (by rw [by8_length, bsP_length (by omega)]) (Nat.le_of_eq (by rw [Nat.zero_add]; exact ((show (by8 (bsP (outB (blocks (padM b) ((padM b).length / 64))) 32 0)).length = 32 from by rw [by8_length, bsP_length (by omega)])).symm)) (by8_one _)
          rw [st_whole (by rw [by8_length, bsP_length (by omega)])] at H110
          have H110 : Hp w [] [.blk p3 (by8 (bsP (outB (blocks (padM b) ((padM b).length / 64))) 32 i)) 25, .blk p9 (v8c (blocks (padM b) ((padM b).length / 64))) 62, .row B_ (b.length + 1 + padZ b.length + 8) C_ 5 1 (by8 (padM b)), .row (some ⟨p23, 0, none⟩) 1 1 5 1 (by8 ([128] : List UInt8)), .blk B61 [.slice B_ (b.length + 1 + padZ b.length + 8) C_] 49, .blk D62 [.int .i64 64] 3, .obj D87 DF, .blk p90 (by8 (bsP (outB (blocks (padM b) ((padM b).length / 64))) 32 i)) 25] w108 := H110
          refine RL.semU (j := 2) r109 [2] [(2, pt p3 0)] (by kernel_rfl) rfl rfl rfl ?_
          refine RL.k rfl hK107 (fun _ _ h => h) ?_
          refine RG.ret ?_
          have hD111 := H110.objAt 6 rfl
          have H112 : Hp w [] [.blk p3 (by8 (bsP (outB (blocks (padM b) ((padM b).length / 64))) 32 i)) 25, .blk p9 (v8c (blocks (padM b) ((padM b).length / 64))) 62, .row B_ (b.length + 1 + padZ b.length + 8) C_ 5 1 (by8 (padM b)), .row (some ⟨p23, 0, none⟩) 1 1 5 1 (by8 ([128] : List UInt8)), .blk B61 [.slice B_ (b.length + 1 + padZ b.length + 8) C_] 49, .blk D62 [.int .i64 64] 3, .obj D87 (.deferred none), .blk p90 (by8 (bsP (outB (blocks (padM b) ((padM b).length / 64))) 32 i)) 25] (World.putObj w108 D87 (.deferred none)) := H110.putObj 6 (.deferred none) rfl
          intro F_ hF_ hM_
          refine hRet _ _ (postK_1 hD111 rfl (RV.cell rfl (H112.ldA (o := 0) (ty := 25) (m := 32) (sub := by8 (bsP (outB (blocks (padM b) ((padM b).length / 64))) 32 i)) 0 rfl (by kernel_rfl) (sub_whole (by rw [by8_length, bsP_length (by omega)])) (by rw [by8_length, bsP_length (by omega)]))) ?_ F_ hF_ hM_)
          rw [show i = 32 by omega, bsP_all]
          exact ⟨rfl, H112.sub (List.nil_sublist _)⟩
        · skip
          have hb105f := of_decide_eq_true hb105
          refine RG.yes rfl ?_
          refine RG.skipK hK104 (fun _ _ h => h) ?_
          refine RG.seqK fun K113 hK114 => ?_
          refine RG.block ?_
          refine RG.seqK fun K115 hK116 => ?_
          refine RG.region (by kernel_rfl) ?_
          refine RL.run (j := 2) 2 [2, 3, 7, 8, 40] [(2, pt p3 0), (3, pt p9 0), (7, pt p90 0), (8, .int .i64 (i : Int)), (40, .int .i64 (i : Int))] (by kernel_rfl) rfl ?_
          refine RL.k rfl hK116 (fun _ _ h => h) ?_
          refine RG.region (by kernel_rfl) ?_
          refine RL.run (j := 3) 3 [2, 3, 7, 8, 40, 43, 45] [(2, pt p3 0), (3, pt p9 0), (7, pt p90 0), (8, .int .i64 (i : Int)), (40, .int .i64 (i : Int)), (43, .int .i64 (i : Int)), (45, .int .i64 (IntKind.i64.wrap (Int.tdiv (i : Int) 4)))] (by kernel_rfl) rfl ?_
          have e117 : (IntKind.i64.wrap (Int.tdiv (i : Int) 4)) = ((i / 4 : Nat) : Int) := i_quo 4 (by omega)
          refine RL.eq (M' := [(2, pt p3 0), (3, pt p9 0), (7, pt p90 0), (8, .int .i64 (i : Int)), (40, .int .i64 (i : Int)), (43, .int .i64 (i : Int)), (45, .int .i64 ((i / 4 : Nat) : Int))]) (by rw [e117]) ?_
          clear e117
          refine RL.sem (j := 4) (run_idxArr (P := Try.prog) (k := .i64) (t := 62) (len := 8) (sz := 1) (b := p9) (o := 0) (j := i / 4) (by kernel_rfl) rfl (by omega)) [2, 3, 7, 8, 40, 43, 46] [(2, pt p3 0), (3, pt p9 0), (7, pt p90 0), (8, .int .i64 (i : Int)), (40, .int .i64 (i : Int)), (43, .int .i64 (i : Int)), (46, pt p9 (0 + (i / 4) * 1))] (by kernel_rfl) (by kernel_rfl) rfl ?_
          refine RL.sem (j := 5) (H100.ld (o := (0 + (i / 4) * 1)) (ty := 60) (v := .int .u32 (((at8 (blocks (padM b) ((padM b).length / 64)) (i / 4)) : Nat) : Int)) 1 rfl (by kernel_rfl) (by rw [show (0 + (i / 4) * 1) = (i / 4) by omega]; exact v8c_at (by omega))) [2, 3, 7, 8, 40, 43, 47] [(2, pt p3 0), (3, pt p9 0), (7, pt p90 0), (8, .int .i64 (i : Int)), (40, .int .i64 (i : Int)), (43, .int .i64 (i : Int)), (47, .int .u32 (((at8 (blocks (padM b) ((padM b).length / 64)) (i / 4)) : Nat) : Int))] (by kernel_rfl) (by kernel_rfl) rfl ?_
          refine RL.run (j := 9) 4 [2, 3, 7, 40, 43, 47, 51] [(2, pt p3 0), (3, pt p9 0), (7, pt p90 0), (40, .int .i64 (i : Int)), (43, .int .i64 (i : Int)), (47, .int .u32 (((at8 (blocks (padM b) ((padM b).length / 64)) (i / 4)) : Nat) : Int)), (51, .int .i64 (IntKind.i64.wrap (24 - (IntKind.i64.wrap (8 * (Int.tmod (i : Int) 4))))))] (by kernel_rfl) rfl ?_
          have e118 : (Int.tmod (i : Int) 4) = ((i % 4 : Nat) : Int) := n_rem _ 4
          have e119 : (IntKind.i64.wrap (8 * ((i % 4 : Nat) : Int))) = ((8 * (i % 4) : Nat) : Int) := by rw [in_i64 (by omega)]; omega
          have e120 : (IntKind.i64.wrap (24 - ((8 * (i % 4) : Nat) : Int))) = (((24 - 8 * (i % 4)) : Nat) : Int) := by rw [in_i64 (by omega)]; omega
          refine RL.eq (M' := [(2, pt p3 0), (3, pt p9 0), (7, pt p90 0), (40, .int .i64 (i : Int)), (43, .int .i64 (i : Int)), (47, .int .u32 (((at8 (blocks (padM b) ((padM b).length / 64)) (i / 4)) : Nat) : Int)), (51, .int .i64 (((24 - 8 * (i % 4)) : Nat) : Int))]) (by rw [e118, e119, e120]) ?_
          clear e118 e119 e120
          refine RL.sem (j := 10) (run_shr32 (P := Try.prog) (k' := .i64) (t := 60) (a := (at8 (blocks (padM b) ((padM b).length / 64)) (i / 4))) (r := (24 - 8 * (i % 4))) (by omega) _) [2, 3, 7, 40, 43, 52] [(2, pt p3 0), (3, pt p9 0), (7, pt p90 0), (40, .int .i64 (i : Int)), (43, .int .i64 (i : Int)), (52, .int .u32 ((((at8 (blocks (padM b) ((padM b).length / 64)) (i / 4)) / 2 ^ (24 - 8 * (i % 4))) : Nat) : Int))] (by kernel_rfl) (by kernel_rfl) rfl ?_
          refine RL.run (j := 11) 1 [2, 3, 7, 40, 43, 53] [(2, pt p3 0), (3, pt p9 0), (7, pt p90 0), (40, .int .i64 (i : Int)), (43, .int .i64 (i : Int)), (53, .int .u8 (IntKind.u8.wrap ((((at8 (blocks (padM b) ((padM b).length / 64)) (i / 4)) / 2 ^ (24 - 8 * (i % 4))) : Nat) : Int)))] (by kernel_rfl) rfl ?_
          have e121 : (IntKind.u8.wrap ((((at8 (blocks (padM b) ((padM b).length / 64)) (i / 4)) / 2 ^ (24 - 8 * (i % 4))) : Nat) : Int)) = (((UInt8.ofNat ((at8 (blocks (padM b) ((padM b).length / 64)) (i / 4)) / 2 ^ (24 - 8 * (i % 4)))).toNat : Nat) : Int) := n_byte _
          refine RL.eq (M' := [(2, pt p3 0), (3, pt p9 0), (7, pt p90 0), (40, .int .i64 (i : Int)), (43, .int .i64 (i : Int)), (53, .int .u8 (((UInt8.ofNat ((at8 (blocks (padM b) ((padM b).length / 64)) (i / 4)) / 2 ^ (24 - 8 * (i % 4)))).toNat : Nat) : Int))]) (by rw [e121]) ?_
          clear e121
          refine RL.sem (j := 12) (run_idxArr (P := Try.prog) (k := .i64) (t := 25) (len := 32) (sz := 1) (b := p90) (o := 0) (j := i) (by kernel_rfl) rfl (by omega)) [2, 3, 7, 40, 53, 54] [(2, pt p3 0), (3, pt p9 0), (7, pt p90 0), (40, .int .i64 (i : Int)), (53, .int .u8 (((UInt8.ofNat ((at8 (blocks (padM b) ((padM b).length / 64)) (i / 4)) / 2 ^ (24 - 8 * (i % 4)))).toNat : Nat) : Int)), (54, pt p90 (0 + i * 1))] (by kernel_rfl) (by kernel_rfl) rfl ?_
          obtain ⟨w122, r123, H124⟩ := H100.st (P := Try.prog) (o := (0 + i * 1)) (ty := 5) (v := .int .u8 (((UInt8.ofNat ((at8 (blocks (padM b) ((padM b).length / 64)) (i / 4)) / 2 ^ (24 - 8 * (i % 4)))).toNat : Nat) : Int)) 7 rfl (by kernel_rfl) (by rw [by8_length, bsP_length (by omega)]; omega) rfl
          rw [show (0 + i * 1) = i by omega, by8_set] at H124
          have H124 : Hp w [] [.blk p3 (by8 (bsP (outB (blocks (padM b) ((padM b).length / 64))) 32 0)) 25, .blk p9 (v8c (blocks (padM b) ((padM b).length / 64))) 62, .row B_ (b.length + 1 + padZ b.length + 8) C_ 5 1 (by8 (padM b)), .row (some ⟨p23, 0, none⟩) 1 1 5 1 (by8 ([128] : List UInt8)), .blk B61 [.slice B_ (b.length + 1 + padZ b.length + 8) C_] 49, .blk D62 [.int .i64 64] 3, .obj D87 DF, .blk p90 (by8 (List.set (bsP (outB (blocks (padM b) ((padM b).length / 64))) 32 i) i (UInt8.ofNat ((at8 (blocks (padM b) ((padM b).length / 64)) (i / 4)) / 2 ^ (24 - 8 * (i % 4)))))) 25] w122 := H124
          refine RL.semU (j := 13) r123 [2, 3, 7, 40] [(2, pt p3 0), (3, pt p9 0), (7, pt p90 0), (40, .int .i64 (i : Int))] (by kernel_rfl) rfl rfl rfl ?_
          refine RL.k rfl hK114 (fun _ _ h => h) ?_
          refine RG.region (by kernel_rfl) ?_
          refine RL.run (j := 2) 2 [2, 3, 7, 40] [(2, pt p3 0), (3, pt p9 0), (7, pt p90 0), (40, .int .i64 (IntKind.i64.wrap ((i : Int) + 1)))] (by kernel_rfl) rfl ?_
          have e125 : (IntKind.i64.wrap ((i : Int) + 1)) = ((i + 1 : Nat) : Int) := by rw [in_i64 (by omega)]; omega
          refine RL.eq (M' := [(2, pt p3 0), (3, pt p9 0), (7, pt p90 0), (40, .int .i64 ((i + 1 : Nat) : Int))]) (by rw [e125]) ?_
          clear e125
          have H126 : Hp w [] [.blk p3 (by8 (bsP (outB (blocks (padM b) ((padM b).length / 64))) 32 0)) 25, .blk p9 (v8c (blocks (padM b) ((padM b).length / 64))) 62, .row B_ (b.length + 1 + padZ b.length + 8) C_ 5 1 (by8 (padM b)), .row (some ⟨p23, 0, none⟩) 1 1 5 1 (by8 ([128] : List UInt8)), .blk B61 [.slice B_ (b.length + 1 + padZ b.length + 8) C_] 49, .blk D62 [.int .i64 64] 3, .obj D87 DF, .blk p90 (by8 (bsP (outB (blocks (padM b) ((padM b).length / 64))) 32 (i + 1))) 25] w122 := by rw [← bsP_set (F := outB (blocks (padM b) ((padM b).length / 64))) (n := 32) (i := i) (v := (UInt8.ofNat ((at8 (blocks (padM b) ((padM b).length / 64)) (i / 4)) / 2 ^ (24 - 8 * (i % 4))))) (by omega) rfl]; exact H124
          refine RL.fit (ts := [2, 3, 7, 40]) (M' := [(2, pt p3 0), (3, pt p9 0), (7, pt p90 0), (40, .int .i64 ((i + 1 : Nat) : Int))]) (by kernel_rfl) ?_
          refine RL.eq (M' := [(2, pt p3 0), (3, pt p9 0), (7, pt p90 0), (40, .int .i64 (((i + 1) : Nat) : Int))]) (by rfl) ?_
          exact RL.again (i + 1) [2, 3, 7, 40] rfl (by kernel_rfl) (by show 32 - (i + 1) < 32 - i; omega) ⟨by omega, H126⟩
      · skip
        rintro D130 u_ w127 hx128 H129
        exact hx128.elim
    · skip
      have hb56f := of_decide_eq_true hb56
      have ei : (56 - 8 * (k : Int)) = ((56 - 8 * k : Nat) : Int) := by omega
      refine RG.eq (M' := [(0, .slice A b.length c), (2, pt p3 0), (3, pt p9 0), (4, .slice B_ (b.length + 1 + padZ b.length + k) C_), (5, .int .i64 (((56 - 8 * k) : Nat) : Int)), (22, .bool true)]) (by rw [ei]) ?_
      refine RG.yes rfl ?_
      refine RG.skipK hK53 (fun _ _ h => h) ?_
      refine RG.seqK fun K131 hK132 => ?_
      refine RG.block ?_
      refine RG.region (by kernel_rfl) ?_
      refine RL.run (j := 6) 6 [0, 2, 3, 5, 25, 29, 30] [(0, .slice A b.length c), (2, pt p3 0), (3, pt p9 0), (5, .int .i64 (((56 - 8 * k) : Nat) : Int)), (25, .slice B_ (b.length + 1 + padZ b.length + k) C_), (29, .int .u64 (IntKind.u64.wrap ((IntKind.u64.wrap (b.length : Int)) * 2 ^ 3))), (30, .int .i64 (((56 - 8 * k) : Nat) : Int))] (by kernel_rfl) rfl ?_
      have e133 : (IntKind.u64.wrap (b.length : Int)) = ((b.length : Nat) : Int) := in_u64 (by omega)
      have e134 : (IntKind.u64.wrap (((b.length : Nat) : Int) * 2 ^ 3)) = (((b.length * 8) : Nat) : Int) := w_shl3 (by simp only [K]; omega)
      refine RL.eq (M' := [(0, .slice A b.length c), (2, pt p3 0), (3, pt p9 0), (5, .int .i64 (((56 - 8 * k) : Nat) : Int)), (25, .slice B_ (b.length + 1 + padZ b.length + k) C_), (29, .int .u64 (((b.length * 8) : Nat) : Int)), (30, .int .i64 (((56 - 8 * k) : Nat) : Int))]) (by rw [e133, e134]) ?_
      clear e133 e134
      refine RL.sem (j := 7) (run_shr64 (P := Try.prog) (k' := .i64) (t := 64) (a := (b.length * 8)) (r := (56 - 8 * k)) (by omega) _) [0, 2, 3, 5, 25, 31] [(0, .slice A b.length c), (2, pt p3 0), (3, pt p9 0), (5, .int .i64 (((56 - 8 * k) : Nat) : Int)), (25, .slice B_ (b.length + 1 + padZ b.length + k) C_), (31, .int .u64 ((((b.length * 8) / 2 ^ (56 - 8 * k)) : Nat) : Int))] (by kernel_rfl) (by kernel_rfl) rfl ?_
      refine RL.run (j := 8) 1 [0, 2, 3, 5, 25, 32] [(0, .slice A b.length c), (2, pt p3 0), (3, pt p9 0), (5, .int .i64 (((56 - 8 * k) : Nat) : Int)), (25, .slice B_ (b.length + 1 + padZ b.length + k) C_), (32, .int .u8 (IntKind.u8.wrap ((((b.length * 8) / 2 ^ (56 - 8 * k)) : Nat) : Int)))] (by kernel_rfl) rfl ?_
      have e135 : (IntKind.u8.wrap ((((b.length * 8) / 2 ^ (56 - 8 * k)) : Nat) : Int)) = (((UInt8.ofNat ((b.length * 8) / 2 ^ (56 - 8 * k))).toNat : Nat) : Int) := n_byte _
      refine RL.eq (M' := [(0, .slice A b.length c), (2, pt p3 0), (3, pt p9 0), (5, .int .i64 (((56 - 8 * k) : Nat) : Int)), (25, .slice B_ (b.length + 1 + padZ b.length + k) C_), (32, .int .u8 (((UInt8.ofNat ((b.length * 8) / 2 ^ (56 - 8 * k))).toNat : Nat) : Int))]) (by rw [e135]) ?_
      clear e135
      obtain ⟨p136, w137, r138, H139⟩ := H51.madeRow (P := Try.prog) (Instr.buildSlice 49 1 #[(0, .int .u8 (((UInt8.ofNat ((b.length * 8) / 2 ^ (56 - 8 * k))).toNat : Nat) : Int))]) (fun b_ => .slice (some ⟨b_, 0, none⟩) 1 1) [.int .u8 (((UInt8.ofNat ((b.length * 8) / 2 ^ (56 - 8 * k))).toNat : Nat) : Int)] 5 1 1 1 (by kernel_rfl) (by decide) (by decide) rfl
      have H139 : Hp w [] [.blk p3 (by8 (bsP (outB (blocks (padM b) ((padM b).length / 64))) 32 0)) 25, .blk p9 [.int .u32 1779033703, .int .u32 3144134277, .int .u32 1013904242, .int .u32 2773480762, .int .u32 1359893119, .int .u32 2600822924, .int .u32 528734635, .int .u32 1541459225] 62, .row B_ (b.length + 1 + padZ b.length + k) C_ 5 1 (by8 ((b ++ [128] ++ List.replicate (padZ b.length) 0) ++ lenB b.length k)), .row (some ⟨p23, 0, none⟩) 1 1 5 1 (by8 ([128] : List UInt8)), .row (some ⟨p136, 0, none⟩) 1 1 5 1 (by8 ([(UInt8.ofNat ((b.length * 8) / 2 ^ (56 - 8 * k)))] : List UInt8))] w137 := H139
      refine RL.sem (j := 9) (r138) [0, 2, 3, 5, 25, 33] [(0, .slice A b.length c), (2, pt p3 0), (3, pt p9 0), (5, .int .i64 (((56 - 8 * k) : Nat) : Int)), (25, .slice B_ (b.length + 1 + padZ b.length + k) C_), (33, .slice (some ⟨p136, 0, none⟩) 1 1)] (by kernel_rfl) (by kernel_rfl) rfl ?_
      obtain ⟨A140, c141, w142, r143, H144⟩ := H139.append (P := Try.prog) (e := 5) (sz := 1) (by_ := 1) (n := (b.length + 1 + padZ b.length + k)) (c := C_) (m := 1) (d := 1) (t := 49) (ty := 49) (xs := by8 ((b ++ [128] ++ List.replicate (padZ b.length) 0) ++ lenB b.length k)) (news := by8 ([(UInt8.ofNat ((b.length * 8) / 2 ^ (56 - 8 * k)))] : List UInt8)) 2 rfl (by kernel_rfl) (H139.rdRow 4 rfl) (by first | (simp [by8_length]; done) | (rw [by8_length]; omega) | (rw [by8_length, putB_length])) (by8_one _) (by omega) (by simp only [maxLen]; omega)
      rw [← by8_append] at H144
      have H144 : Hp w [] [.blk p3 (by8 (bsP (outB (blocks (padM b) ((padM b).length / 64))) 32 0)) 25, .blk p9 [.int .u32 1779033703, .int .u32 3144134277, .int .u32 1013904242, .int .u32 2773480762, .int .u32 1359893119, .int .u32 2600822924, .int .u32 528734635, .int .u32 1541459225] 62, .row A140 ((b.length + 1 + padZ b.length + k) + 1) c141 5 1 (by8 (((b ++ [128] ++ List.replicate (padZ b.length) 0) ++ lenB b.length k) ++ ([(UInt8.ofNat ((b.length * 8) / 2 ^ (56 - 8 * k)))] : List UInt8))), .row (some ⟨p23, 0, none⟩) 1 1 5 1 (by8 ([128] : List UInt8)), .row (some ⟨p136, 0, none⟩) 1 1 5 1 (by8 ([(UInt8.ofNat ((b.length * 8) / 2 ^ (56 - 8 * k)))] : List UInt8))] w142 := H144
      refine RL.sem (j := 10) (r143) [0, 2, 3, 5, 34] [(0, .slice A b.length c), (2, pt p3 0), (3, pt p9 0), (5, .int .i64 (((56 - 8 * k) : Nat) : Int)), (34, .slice A140 ((b.length + 1 + padZ b.length + k) + 1) c141)] (by kernel_rfl) (by kernel_rfl) rfl ?_
      refine RL.run (j := 11) 1 [0, 2, 3, 4, 5] [(0, .slice A b.length c), (2, pt p3 0), (3, pt p9 0), (4, .slice A140 ((b.length + 1 + padZ b.length + k) + 1) c141), (5, .int .i64 (((56 - 8 * k) : Nat) : Int))] (by kernel_rfl) rfl ?_
      refine RL.k rfl hK132 (fun _ _ h => h) ?_
      refine RG.region (by kernel_rfl) ?_
      refine RL.run (j := 3) 3 [0, 2, 3, 4, 5] [(0, .slice A b.length c), (2, pt p3 0), (3, pt p9 0), (4, .slice A140 ((b.length + 1 + padZ b.length + k) + 1) c141), (5, .int .i64 (IntKind.i64.wrap ((((56 - 8 * k) : Nat) : Int) - 8)))] (by kernel_rfl) rfl ?_
      have e145 : (IntKind.i64.wrap ((((56 - 8 * k) : Nat) : Int) - 8)) = (48 - 8 * (k : Int)) := by rw [in_i64 (by omega)]; omega
      refine RL.eq (M' := [(0, .slice A b.length c), (2, pt p3 0), (3, pt p9 0), (4, .slice A140 ((b.length + 1 + padZ b.length + k) + 1) c141), (5, .int .i64 (48 - 8 * (k : Int)))]) (by rw [e145]) ?_
      clear e145
      have H146 : Hp w [] [.blk p3 (by8 (bsP (outB (blocks (padM b) ((padM b).length / 64))) 32 0)) 25, .blk p9 [.int .u32 1779033703, .int .u32 3144134277, .int .u32 1013904242, .int .u32 2773480762, .int .u32 1359893119, .int .u32 2600822924, .int .u32 528734635, .int .u32 1541459225] 62, .row A140 ((b.length + 1 + padZ b.length + k) + 1) c141 5 1 (by8 (((b ++ [128] ++ List.replicate (padZ b.length) 0) ++ lenB b.length k) ++ ([(UInt8.ofNat ((b.length * 8) / 2 ^ (56 - 8 * k)))] : List UInt8))), .row (some ⟨p23, 0, none⟩) 1 1 5 1 (by8 ([128] : List UInt8))] w142 := H144.sub (List.Sublist.cons_cons _ (List.Sublist.cons_cons _ (List.Sublist.cons_cons _ (List.Sublist.cons_cons _ (List.Sublist.cons _ (List.Sublist.slnil))))))
      have H147 : Hp w [] [.blk p3 (by8 (bsP (outB (blocks (padM b) ((padM b).length / 64))) 32 0)) 25, .blk p9 [.int .u32 1779033703, .int .u32 3144134277, .int .u32 1013904242, .int .u32 2773480762, .int .u32 1359893119, .int .u32 2600822924, .int .u32 528734635, .int .u32 1541459225] 62, .row A140 (b.length + 1 + padZ b.length + (k + 1)) c141 5 1 (by8 ((b ++ [128] ++ List.replicate (padZ b.length) 0) ++ lenB b.length (k + 1))), .row (some ⟨p23, 0, none⟩) 1 1 5 1 (by8 ([128] : List UInt8))] w142 := by rw [lenB, ← List.append_assoc]; exact H146
      refine RL.fit (ts := [0, 2, 3, 4, 5]) (M' := [(0, .slice A b.length c), (2, pt p3 0), (3, pt p9 0), (4, .slice A140 ((b.length + 1 + padZ b.length + k) + 1) c141), (5, .int .i64 (48 - 8 * (k : Int)))]) (by kernel_rfl) ?_
      refine RL.eq (M' := [(0, .slice A b.length c), (2, pt p3 0), (3, pt p9 0), (4, .slice A140 (b.length + 1 + padZ b.length + (k + 1)) c141), (5, .int .i64 (56 - 8 * (((k + 1) : Nat) : Int)))]) (by first | (rw [show (48 - 8 * (k : Int)) = 56 - 8 * ((k + 1 : Nat) : Int) by omega]; done) | (rw [show (48 - 8 * (k : Int)) = 56 - 8 * ((k + 1 : Nat) : Int) by omega]; rfl)) ?_
      exact RL.again ⟨(k + 1), A140, c141⟩ [0, 2, 3, 4, 5] rfl (by kernel_rfl) (by show 8 - (k + 1) < 8 - k; omega) ⟨by omega, H147⟩
  · skip
    have hb43f : (((b.length + 1 + j) % 64 : Nat) : Int) ≠ 56 := bne_iff_ne.1 hb43
    refine RG.yes rfl ?_
    refine RG.skipK hK39 (fun _ _ h => h) ?_
    refine RG.block ?_
    refine RG.region (by kernel_rfl) ?_
    refine RL.run (j := 1) 1 [0, 2, 3, 18] [(0, .slice A b.length c), (2, pt p3 0), (3, pt p9 0), (18, .slice B_ (b.length + 1 + j) C_)] (by kernel_rfl) rfl ?_
    obtain ⟨p148, w149, r150, H151⟩ := H37.madeRow (P := Try.prog) (Instr.buildSlice 49 1 #[(0, .int .u8 0)]) (fun b_ => .slice (some ⟨b_, 0, none⟩) 1 1) [.int .u8 0] 5 1 1 1 (by kernel_rfl) (by decide) (by decide) rfl
    have H151 : Hp w [] [.blk p3 (by8 (bsP (outB (blocks (padM b) ((padM b).length / 64))) 32 0)) 25, .blk p9 [.int .u32 1779033703, .int .u32 3144134277, .int .u32 1013904242, .int .u32 2773480762, .int .u32 1359893119, .int .u32 2600822924, .int .u32 528734635, .int .u32 1541459225] 62, .row B_ (b.length + 1 + j) C_ 5 1 (by8 (b ++ [128] ++ List.replicate j 0)), .row (some ⟨p23, 0, none⟩) 1 1 5 1 (by8 ([128] : List UInt8)), .row (some ⟨p148, 0, none⟩) 1 1 5 1 (by8 ([0] : List UInt8))] w149 := H151
    refine RL.sem (j := 2) (r150) [0, 2, 3, 18, 19] [(0, .slice A b.length c), (2, pt p3 0), (3, pt p9 0), (18, .slice B_ (b.length + 1 + j) C_), (19, .slice (some ⟨p148, 0, none⟩) 1 1)] (by kernel_rfl) (by kernel_rfl) rfl ?_
    obtain ⟨A152, c153, w154, r155, H156⟩ := H151.append (P := Try.prog) (e := 5) (sz := 1) (by_ := 1) (n := (b.length + 1 + j)) (c := C_) (m := 1) (d := 1) (t := 49) (ty := 49) (xs := by8 (b ++ [128] ++ List.replicate j 0)) (news := by8 ([0] : List UInt8)) 2 rfl (by kernel_rfl) (H151.rdRow 4 rfl) (by first | (simp [by8_length]; done) | (rw [by8_length]; omega) | (rw [by8_length, putB_length])) (by8_one _) (by omega) (by simp only [maxLen]; omega)
    rw [← by8_append] at H156
    have H156 : Hp w [] [.blk p3 (by8 (bsP (outB (blocks (padM b) ((padM b).length / 64))) 32 0)) 25, .blk p9 [.int .u32 1779033703, .int .u32 3144134277, .int .u32 1013904242, .int .u32 2773480762, .int .u32 1359893119, .int .u32 2600822924, .int .u32 528734635, .int .u32 1541459225] 62, .row A152 ((b.length + 1 + j) + 1) c153 5 1 (by8 ((b ++ [128] ++ List.replicate j 0) ++ ([0] : List UInt8))), .row (some ⟨p23, 0, none⟩) 1 1 5 1 (by8 ([128] : List UInt8)), .row (some ⟨p148, 0, none⟩) 1 1 5 1 (by8 ([0] : List UInt8))] w154 := H156
    refine RL.sem (j := 3) (r155) [0, 2, 3, 20] [(0, .slice A b.length c), (2, pt p3 0), (3, pt p9 0), (20, .slice A152 ((b.length + 1 + j) + 1) c153)] (by kernel_rfl) (by kernel_rfl) rfl ?_
    refine RL.run (j := 4) 1 [0, 2, 3, 4] [(0, .slice A b.length c), (2, pt p3 0), (3, pt p9 0), (4, .slice A152 ((b.length + 1 + j) + 1) c153)] (by kernel_rfl) rfl ?_
    have H157 : Hp w [] [.blk p3 (by8 (bsP (outB (blocks (padM b) ((padM b).length / 64))) 32 0)) 25, .blk p9 [.int .u32 1779033703, .int .u32 3144134277, .int .u32 1013904242, .int .u32 2773480762, .int .u32 1359893119, .int .u32 2600822924, .int .u32 528734635, .int .u32 1541459225] 62, .row A152 ((b.length + 1 + j) + 1) c153 5 1 (by8 ((b ++ [128] ++ List.replicate j 0) ++ ([0] : List UInt8))), .row (some ⟨p23, 0, none⟩) 1 1 5 1 (by8 ([128] : List UInt8))] w154 := H156.sub (List.Sublist.cons_cons _ (List.Sublist.cons_cons _ (List.Sublist.cons_cons _ (List.Sublist.cons_cons _ (List.Sublist.cons _ (List.Sublist.slnil))))))
    have H158 : Hp w [] [.blk p3 (by8 (bsP (outB (blocks (padM b) ((padM b).length / 64))) 32 0)) 25, .blk p9 [.int .u32 1779033703, .int .u32 3144134277, .int .u32 1013904242, .int .u32 2773480762, .int .u32 1359893119, .int .u32 2600822924, .int .u32 528734635, .int .u32 1541459225] 62, .row A152 (b.length + 1 + (j + 1)) c153 5 1 (by8 (b ++ [128] ++ List.replicate (j + 1) 0)), .row (some ⟨p23, 0, none⟩) 1 1 5 1 (by8 ([128] : List UInt8))] w154 := by rw [List.replicate_succ', ← List.append_assoc]; exact H157
    refine RL.fit (ts := [0, 2, 3, 4]) (M' := [(0, .slice A b.length c), (2, pt p3 0), (3, pt p9 0), (4, .slice A152 ((b.length + 1 + j) + 1) c153)]) (by kernel_rfl) ?_
    refine RL.eq (M' := [(0, .slice A b.length c), (2, pt p3 0), (3, pt p9 0), (4, .slice A152 (b.length + 1 + (j + 1)) c153)]) (by rfl) ?_
    exact RL.againB ⟨(j + 1), A152, c153⟩ [0, 2, 3, 4] rfl (by kernel_rfl) (by show padZ b.length - (j + 1) < padZ b.length - j; omega) ⟨by omega, H158⟩
end Go.Proofs.Ytgmggjnoegelgaa
