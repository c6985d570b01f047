/- The standard's sum: its parts. -/
import Derived.Test.YtgmggjnoegelgaaRows
import Derived.Test.YtgmggjnoegelgaaSa
namespace Go.Proofs.Ytgmggjnoegelgaa
open Go.RowKit
theorem getD8 {bs : List UInt8} {k : Nat} (h : k < bs.length) : bs[k]? = some (bs.getD k 0) := by rw [List.getD_eq_getElem?_getD, List.getElem?_eq_getElem h]; rfl
theorem st_whole {cs vs : List Value} {m : Nat} (h : cs.length = m) : cs.take 0 ++ vs ++ cs.drop (0 + m) = vs := by
  rw [List.take_zero, List.nil_append, Nat.zero_add, List.drop_of_length_le (Nat.le_of_eq h), List.append_nil]
theorem run_sliceN {P : Program} {t len cap : Nat} {A : Option Addr} {k1 k2 : IntKind} {l h n : Nat} (ht : slcOf P t = some 1) (hn : h = l + n) (hh : h ≤ cap) (w : World) :
    (Instr.sliceAt t (.slice A len cap) (some (.int k1 (l : Int))) (some (.int k2 (h : Int))) none).run P w = .ok (.slice (if cap = l then A else A.map (·.add l)) n (cap - l)) w := by
  have e := run_sliceSl (P := P) (w := w) (t := t) (len := len) (cap := cap) (A := A) (lo := some (.int k1 (l : Int))) (hi := some (.int k2 (h : Int))) (l := l) (h := h) ht (Or.inr ⟨_, _, rfl, rfl⟩) (Or.inr ⟨_, _, rfl, rfl⟩) (by omega) hh
  rw [show h - l = n by omega] at e
  exact e
theorem Rot2_calls (x : Nat) (hx : x < W32) (w : World) : Calls Try.prog 45 #[.int .u32 (x : Int), .int .i64 (-2)] w fun e w' => e = .returned (.int .u32 ((rt x 2 : Nat) : Int)) ∧ Hp w [] [] w' := by
  refine calls_G (args := [.int .u32 (x : Int), .int .i64 (-2)]) Try.func45 rfl Try.ntmps45 rfl ?_
  intro Q0 hRet hNor hPan
  have H := Hp.start w
  have H : Hp w [] [] w := H
  refine G.seqK fun K1 hK2 => ?_
  refine G.region ?_
  refine GL.run (j := 1) 1 [0, 1] [(0, .int .u32 (x : Int)), (1, .int .i64 (-2))] (by kernel_rfl) rfl ?_
  refine GL.k rfl hK2 (fun _ _ h => h) ?_
  refine G.seqK fun K3 hK4 => ?_
  refine G.region ?_
  refine GL.run (j := 4) 4 [0, 5] [(0, .int .u32 (x : Int)), (5, .int .u64 30)] (by kernel_rfl) rfl ?_
  refine GL.k rfl hK4 (fun _ _ h => h) ?_
  refine G.seqK fun K5 hK6 => ?_
  refine G.region ?_
  refine GL.run (j := 9) 9 [4] [(4, .int .u32 (Go.bits .or .u32 (IntKind.u32.wrap ((x : Int) * 2 ^ 30)) (Int.fdiv (x : Int) (2 ^ 2))))] (by kernel_rfl) rfl ?_
  have e7 : (IntKind.u32.wrap ((x : Int) * 2 ^ 30)) = ((x * 2 ^ 30 % W32 : Nat) : Int) := w_shl x 30
  have e8 : (Int.fdiv (x : Int) (2 ^ 2)) = ((x / 2 ^ 2 : Nat) : Int) := n_shr x 2
  have e9 : (Go.bits .or .u32 ((x * 2 ^ 30 % W32 : Nat) : Int) ((x / 2 ^ 2 : Nat) : Int)) = ((rt x 2 : Nat) : Int) := w_or (Nat.mod_lt _ (by decide)) (Nat.lt_of_le_of_lt (Nat.div_le_self _ _) hx)
  refine GL.eq (M' := [(4, .int .u32 ((rt x 2 : Nat) : Int))]) (by rw [e7, e8, e9]) ?_
  clear e7 e8 e9
  refine GL.k rfl hK6 (fun _ _ h => h) ?_
  refine G.ret ?_
  intro F_ hF_ hM_
  refine hRet _ _ (bodyPost_1 rfl (RV.tmp rfl) ?_ F_ hF_ hM_)
  exact ⟨rfl, H⟩
theorem Turn2_calls (x : Nat) (hx : x < W32) (w : World) : Calls Try.prog 41 #[.int .u32 (x : Int), .int .i64 2] w fun e w' => e = .returned (.int .u32 ((rt x 2 : Nat) : Int)) ∧ Hp w [] [] w' := by
  refine calls_G (args := [.int .u32 (x : Int), .int .i64 2]) Try.func41 rfl Try.ntmps41 rfl ?_
  intro Q0 hRet hNor hPan
  have H := Hp.start w
  have H : Hp w [] [] w := H
  refine G.seqK fun K1 hK2 => ?_
  refine G.region ?_
  refine GL.run (j := 1) 1 [0, 1] [(0, .int .u32 (x : Int)), (1, .int .i64 2)] (by kernel_rfl) rfl ?_
  refine GL.k rfl hK2 (fun _ _ h => h) ?_
  refine G.seqK fun K3 hK4 => ?_
  refine G.region ?_
  refine GL.run (j := 3) 3 [5, 7] [(5, .int .u32 (x : Int)), (7, .int .i64 (-2))] (by kernel_rfl) rfl ?_
  refine GL.call (j := 4) (Rot2_calls x hx w) (by kernel_rfl) rfl (fun e_ w5 hR => ?_)
  obtain ⟨rfl, H7⟩ := hR
  have H6 : Hp w [] [] w5 := H.callNil H7
  refine ⟨_, rfl, [8], [(8, .int .u32 (((rt x 2) : Nat) : Int))], by kernel_rfl, ?_⟩
  refine GL.run (j := 5) 1 [4] [(4, .int .u32 (((rt x 2) : Nat) : Int))] (by kernel_rfl) rfl ?_
  refine GL.k rfl hK4 (fun _ _ h => h) ?_
  refine G.ret ?_
  intro F_ hF_ hM_
  refine hRet _ _ (bodyPost_1 rfl (RV.tmp rfl) ?_ F_ hF_ hM_)
  exact ⟨rfl, H6⟩
theorem Rot6_calls (x : Nat) (hx : x < W32) (w : World) : Calls Try.prog 45 #[.int .u32 (x : Int), .int .i64 (-6)] w fun e w' => e = .returned (.int .u32 ((rt x 6 : Nat) : Int)) ∧ Hp w [] [] w' := by
  refine calls_G (args := [.int .u32 (x : Int), .int .i64 (-6)]) Try.func45 rfl Try.ntmps45 rfl ?_
  intro Q0 hRet hNor hPan
  have H := Hp.start w
  have H : Hp w [] [] w := H
  refine G.seqK fun K1 hK2 => ?_
  refine G.region ?_
  refine GL.run (j := 1) 1 [0, 1] [(0, .int .u32 (x : Int)), (1, .int .i64 (-6))] (by kernel_rfl) rfl ?_
  refine GL.k rfl hK2 (fun _ _ h => h) ?_
  refine G.seqK fun K3 hK4 => ?_
  refine G.region ?_
  refine GL.run (j := 4) 4 [0, 5] [(0, .int .u32 (x : Int)), (5, .int .u64 26)] (by kernel_rfl) rfl ?_
  refine GL.k rfl hK4 (fun _ _ h => h) ?_
  refine G.seqK fun K5 hK6 => ?_
  refine G.region ?_
  refine GL.run (j := 9) 9 [4] [(4, .int .u32 (Go.bits .or .u32 (IntKind.u32.wrap ((x : Int) * 2 ^ 26)) (Int.fdiv (x : Int) (2 ^ 6))))] (by kernel_rfl) rfl ?_
  have e7 : (IntKind.u32.wrap ((x : Int) * 2 ^ 26)) = ((x * 2 ^ 26 % W32 : Nat) : Int) := w_shl x 26
  have e8 : (Int.fdiv (x : Int) (2 ^ 6)) = ((x / 2 ^ 6 : Nat) : Int) := n_shr x 6
  have e9 : (Go.bits .or .u32 ((x * 2 ^ 26 % W32 : Nat) : Int) ((x / 2 ^ 6 : Nat) : Int)) = ((rt x 6 : Nat) : Int) := w_or (Nat.mod_lt _ (by decide)) (Nat.lt_of_le_of_lt (Nat.div_le_self _ _) hx)
  refine GL.eq (M' := [(4, .int .u32 ((rt x 6 : Nat) : Int))]) (by rw [e7, e8, e9]) ?_
  clear e7 e8 e9
  refine GL.k rfl hK6 (fun _ _ h => h) ?_
  refine G.ret ?_
  intro F_ hF_ hM_
  refine hRet _ _ (bodyPost_1 rfl (RV.tmp rfl) ?_ F_ hF_ hM_)
  exact ⟨rfl, H⟩
theorem Turn6_calls (x : Nat) (hx : x < W32) (w : World) : Calls Try.prog 41 #[.int .u32 (x : Int), .int .i64 6] w fun e w' => e = .returned (.int .u32 ((rt x 6 : Nat) : Int)) ∧ Hp w [] [] w' := by
  refine calls_G (args := [.int .u32 (x : Int), .int .i64 6]) Try.func41 rfl Try.ntmps41 rfl ?_
  intro Q0 hRet hNor hPan
  have H := Hp.start w
  have H : Hp w [] [] w := H
  refine G.seqK fun K1 hK2 => ?_
  refine G.region ?_
  refine GL.run (j := 1) 1 [0, 1] [(0, .int .u32 (x : Int)), (1, .int .i64 6)] (by kernel_rfl) rfl ?_
  refine GL.k rfl hK2 (fun _ _ h => h) ?_
  refine G.seqK fun K3 hK4 => ?_
  refine G.region ?_
  refine GL.run (j := 3) 3 [5, 7] [(5, .int .u32 (x : Int)), (7, .int .i64 (-6))] (by kernel_rfl) rfl ?_
  refine GL.call (j := 4) (Rot6_calls x hx w) (by kernel_rfl) rfl (fun e_ w5 hR => ?_)
  obtain ⟨rfl, H7⟩ := hR
  have H6 : Hp w [] [] w5 := H.callNil H7
  refine ⟨_, rfl, [8], [(8, .int .u32 (((rt x 6) : Nat) : Int))], by kernel_rfl, ?_⟩
  refine GL.run (j := 5) 1 [4] [(4, .int .u32 (((rt x 6) : Nat) : Int))] (by kernel_rfl) rfl ?_
  refine GL.k rfl hK4 (fun _ _ h => h) ?_
  refine G.ret ?_
  intro F_ hF_ hM_
  refine hRet _ _ (bodyPost_1 rfl (RV.tmp rfl) ?_ F_ hF_ hM_)
  exact ⟨rfl, H6⟩
theorem Rot7_calls (x : Nat) (hx : x < W32) (w : World) : Calls Try.prog 45 #[.int .u32 (x : Int), .int .i64 (-7)] w fun e w' => e = .returned (.int .u32 ((rt x 7 : Nat) : Int)) ∧ Hp w [] [] w' := by
  refine calls_G (args := [.int .u32 (x : Int), .int .i64 (-7)]) Try.func45 rfl Try.ntmps45 rfl ?_
  intro Q0 hRet hNor hPan
  have H := Hp.start w
  have H : Hp w [] [] w := H
  refine G.seqK fun K1 hK2 => ?_
  refine G.region ?_
  refine GL.run (j := 1) 1 [0, 1] [(0, .int .u32 (x : Int)), (1, .int .i64 (-7))] (by kernel_rfl) rfl ?_
  refine GL.k rfl hK2 (fun _ _ h => h) ?_
  refine G.seqK fun K3 hK4 => ?_
  refine G.region ?_
  refine GL.run (j := 4) 4 [0, 5] [(0, .int .u32 (x : Int)), (5, .int .u64 25)] (by kernel_rfl) rfl ?_
  refine GL.k rfl hK4 (fun _ _ h => h) ?_
  refine G.seqK fun K5 hK6 => ?_
  refine G.region ?_
  refine GL.run (j := 9) 9 [4] [(4, .int .u32 (Go.bits .or .u32 (IntKind.u32.wrap ((x : Int) * 2 ^ 25)) (Int.fdiv (x : Int) (2 ^ 7))))] (by kernel_rfl) rfl ?_
  have e7 : (IntKind.u32.wrap ((x : Int) * 2 ^ 25)) = ((x * 2 ^ 25 % W32 : Nat) : Int) := w_shl x 25
  have e8 : (Int.fdiv (x : Int) (2 ^ 7)) = ((x / 2 ^ 7 : Nat) : Int) := n_shr x 7
  have e9 : (Go.bits .or .u32 ((x * 2 ^ 25 % W32 : Nat) : Int) ((x / 2 ^ 7 : Nat) : Int)) = ((rt x 7 : Nat) : Int) := w_or (Nat.mod_lt _ (by decide)) (Nat.lt_of_le_of_lt (Nat.div_le_self _ _) hx)
  refine GL.eq (M' := [(4, .int .u32 ((rt x 7 : Nat) : Int))]) (by rw [e7, e8, e9]) ?_
  clear e7 e8 e9
  refine GL.k rfl hK6 (fun _ _ h => h) ?_
  refine G.ret ?_
  intro F_ hF_ hM_
  refine hRet _ _ (bodyPost_1 rfl (RV.tmp rfl) ?_ F_ hF_ hM_)
  exact ⟨rfl, H⟩
theorem Turn7_calls (x : Nat) (hx : x < W32) (w : World) : Calls Try.prog 41 #[.int .u32 (x : Int), .int .i64 7] w fun e w' => e = .returned (.int .u32 ((rt x 7 : Nat) : Int)) ∧ Hp w [] [] w' := by
  refine calls_G (args := [.int .u32 (x : Int), .int .i64 7]) Try.func41 rfl Try.ntmps41 rfl ?_
  intro Q0 hRet hNor hPan
  have H := Hp.start w
  have H : Hp w [] [] w := H
  refine G.seqK fun K1 hK2 => ?_
  refine G.region ?_
  refine GL.run (j := 1) 1 [0, 1] [(0, .int .u32 (x : Int)), (1, .int .i64 7)] (by kernel_rfl) rfl ?_
  refine GL.k rfl hK2 (fun _ _ h => h) ?_
  refine G.seqK fun K3 hK4 => ?_
  refine G.region ?_
  refine GL.run (j := 3) 3 [5, 7] [(5, .int .u32 (x : Int)), (7, .int .i64 (-7))] (by kernel_rfl) rfl ?_
  refine GL.call (j := 4) (Rot7_calls x hx w) (by kernel_rfl) rfl (fun e_ w5 hR => ?_)
  obtain ⟨rfl, H7⟩ := hR
  have H6 : Hp w [] [] w5 := H.callNil H7
  refine ⟨_, rfl, [8], [(8, .int .u32 (((rt x 7) : Nat) : Int))], by kernel_rfl, ?_⟩
  refine GL.run (j := 5) 1 [4] [(4, .int .u32 (((rt x 7) : Nat) : Int))] (by kernel_rfl) rfl ?_
  refine GL.k rfl hK4 (fun _ _ h => h) ?_
  refine G.ret ?_
  intro F_ hF_ hM_
  refine hRet _ _ (bodyPost_1 rfl (RV.tmp rfl) ?_ F_ hF_ hM_)
  exact ⟨rfl, H6⟩
theorem Rot11_calls (x : Nat) (hx : x < W32) (w : World) : Calls Try.prog 45 #[.int .u32 (x : Int), .int .i64 (-11)] w fun e w' => e = .returned (.int .u32 ((rt x 11 : Nat) : Int)) ∧ Hp w [] [] w' := by
  refine calls_G (args := [.int .u32 (x : Int), .int .i64 (-11)]) Try.func45 rfl Try.ntmps45 rfl ?_
  intro Q0 hRet hNor hPan
  have H := Hp.start w
  have H : Hp w [] [] w := H
  refine G.seqK fun K1 hK2 => ?_
  refine G.region ?_
  refine GL.run (j := 1) 1 [0, 1] [(0, .int .u32 (x : Int)), (1, .int .i64 (-11))] (by kernel_rfl) rfl ?_
  refine GL.k rfl hK2 (fun _ _ h => h) ?_
  refine G.seqK fun K3 hK4 => ?_
  refine G.region ?_
  refine GL.run (j := 4) 4 [0, 5] [(0, .int .u32 (x : Int)), (5, .int .u64 21)] (by kernel_rfl) rfl ?_
  refine GL.k rfl hK4 (fun _ _ h => h) ?_
  refine G.seqK fun K5 hK6 => ?_
  refine G.region ?_
  refine GL.run (j := 9) 9 [4] [(4, .int .u32 (Go.bits .or .u32 (IntKind.u32.wrap ((x : Int) * 2 ^ 21)) (Int.fdiv (x : Int) (2 ^ 11))))] (by kernel_rfl) rfl ?_
  have e7 : (IntKind.u32.wrap ((x : Int) * 2 ^ 21)) = ((x * 2 ^ 21 % W32 : Nat) : Int) := w_shl x 21
  have e8 : (Int.fdiv (x : Int) (2 ^ 11)) = ((x / 2 ^ 11 : Nat) : Int) := n_shr x 11
  have e9 : (Go.bits .or .u32 ((x * 2 ^ 21 % W32 : Nat) : Int) ((x / 2 ^ 11 : Nat) : Int)) = ((rt x 11 : Nat) : Int) := w_or (Nat.mod_lt _ (by decide)) (Nat.lt_of_le_of_lt (Nat.div_le_self _ _) hx)
  refine GL.eq (M' := [(4, .int .u32 ((rt x 11 : Nat) : Int))]) (by rw [e7, e8, e9]) ?_
  clear e7 e8 e9
  refine GL.k rfl hK6 (fun _ _ h => h) ?_
  refine G.ret ?_
  intro F_ hF_ hM_
  refine hRet _ _ (bodyPost_1 rfl (RV.tmp rfl) ?_ F_ hF_ hM_)
  exact ⟨rfl, H⟩
theorem Turn11_calls (x : Nat) (hx : x < W32) (w : World) : Calls Try.prog 41 #[.int .u32 (x : Int), .int .i64 11] w fun e w' => e = .returned (.int .u32 ((rt x 11 : Nat) : Int)) ∧ Hp w [] [] w' := by
  refine calls_G (args := [.int .u32 (x : Int), .int .i64 11]) Try.func41 rfl Try.ntmps41 rfl ?_
  intro Q0 hRet hNor hPan
  have H := Hp.start w
  have H : Hp w [] [] w := H
  refine G.seqK fun K1 hK2 => ?_
  refine G.region ?_
  refine GL.run (j := 1) 1 [0, 1] [(0, .int .u32 (x : Int)), (1, .int .i64 11)] (by kernel_rfl) rfl ?_
  refine GL.k rfl hK2 (fun _ _ h => h) ?_
  refine G.seqK fun K3 hK4 => ?_
  refine G.region ?_
  refine GL.run (j := 3) 3 [5, 7] [(5, .int .u32 (x : Int)), (7, .int .i64 (-11))] (by kernel_rfl) rfl ?_
  refine GL.call (j := 4) (Rot11_calls x hx w) (by kernel_rfl) rfl (fun e_ w5 hR => ?_)
  obtain ⟨rfl, H7⟩ := hR
  have H6 : Hp w [] [] w5 := H.callNil H7
  refine ⟨_, rfl, [8], [(8, .int .u32 (((rt x 11) : Nat) : Int))], by kernel_rfl, ?_⟩
  refine GL.run (j := 5) 1 [4] [(4, .int .u32 (((rt x 11) : Nat) : Int))] (by kernel_rfl) rfl ?_
  refine GL.k rfl hK4 (fun _ _ h => h) ?_
  refine G.ret ?_
  intro F_ hF_ hM_
  refine hRet _ _ (bodyPost_1 rfl (RV.tmp rfl) ?_ F_ hF_ hM_)
  exact ⟨rfl, H6⟩
theorem Rot13_calls (x : Nat) (hx : x < W32) (w : World) : Calls Try.prog 45 #[.int .u32 (x : Int), .int .i64 (-13)] w fun e w' => e = .returned (.int .u32 ((rt x 13 : Nat) : Int)) ∧ Hp w [] [] w' := by
  refine calls_G (args := [.int .u32 (x : Int), .int .i64 (-13)]) Try.func45 rfl Try.ntmps45 rfl ?_
  intro Q0 hRet hNor hPan
  have H := Hp.start w
  have H : Hp w [] [] w := H
  refine G.seqK fun K1 hK2 => ?_
  refine G.region ?_
  refine GL.run (j := 1) 1 [0, 1] [(0, .int .u32 (x : Int)), (1, .int .i64 (-13))] (by kernel_rfl) rfl ?_
  refine GL.k rfl hK2 (fun _ _ h => h) ?_
  refine G.seqK fun K3 hK4 => ?_
  refine G.region ?_
  refine GL.run (j := 4) 4 [0, 5] [(0, .int .u32 (x : Int)), (5, .int .u64 19)] (by kernel_rfl) rfl ?_
  refine GL.k rfl hK4 (fun _ _ h => h) ?_
  refine G.seqK fun K5 hK6 => ?_
  refine G.region ?_
  refine GL.run (j := 9) 9 [4] [(4, .int .u32 (Go.bits .or .u32 (IntKind.u32.wrap ((x : Int) * 2 ^ 19)) (Int.fdiv (x : Int) (2 ^ 13))))] (by kernel_rfl) rfl ?_
  have e7 : (IntKind.u32.wrap ((x : Int) * 2 ^ 19)) = ((x * 2 ^ 19 % W32 : Nat) : Int) := w_shl x 19
  have e8 : (Int.fdiv (x : Int) (2 ^ 13)) = ((x / 2 ^ 13 : Nat) : Int) := n_shr x 13
  have e9 : (Go.bits .or .u32 ((x * 2 ^ 19 % W32 : Nat) : Int) ((x / 2 ^ 13 : Nat) : Int)) = ((rt x 13 : Nat) : Int) := w_or (Nat.mod_lt _ (by decide)) (Nat.lt_of_le_of_lt (Nat.div_le_self _ _) hx)
  refine GL.eq (M' := [(4, .int .u32 ((rt x 13 : Nat) : Int))]) (by rw [e7, e8, e9]) ?_
  clear e7 e8 e9
  refine GL.k rfl hK6 (fun _ _ h => h) ?_
  refine G.ret ?_
  intro F_ hF_ hM_
  refine hRet _ _ (bodyPost_1 rfl (RV.tmp rfl) ?_ F_ hF_ hM_)
  exact ⟨rfl, H⟩
theorem Turn13_calls (x : Nat) (hx : x < W32) (w : World) : Calls Try.prog 41 #[.int .u32 (x : Int), .int .i64 13] w fun e w' => e = .returned (.int .u32 ((rt x 13 : Nat) : Int)) ∧ Hp w [] [] w' := by
  refine calls_G (args := [.int .u32 (x : Int), .int .i64 13]) Try.func41 rfl Try.ntmps41 rfl ?_
  intro Q0 hRet hNor hPan
  have H := Hp.start w
  have H : Hp w [] [] w := H
  refine G.seqK fun K1 hK2 => ?_
  refine G.region ?_
  refine GL.run (j := 1) 1 [0, 1] [(0, .int .u32 (x : Int)), (1, .int .i64 13)] (by kernel_rfl) rfl ?_
  refine GL.k rfl hK2 (fun _ _ h => h) ?_
  refine G.seqK fun K3 hK4 => ?_
  refine G.region ?_
  refine GL.run (j := 3) 3 [5, 7] [(5, .int .u32 (x : Int)), (7, .int .i64 (-13))] (by kernel_rfl) rfl ?_
  refine GL.call (j := 4) (Rot13_calls x hx w) (by kernel_rfl) rfl (fun e_ w5 hR => ?_)
  obtain ⟨rfl, H7⟩ := hR
  have H6 : Hp w [] [] w5 := H.callNil H7
  refine ⟨_, rfl, [8], [(8, .int .u32 (((rt x 13) : Nat) : Int))], by kernel_rfl, ?_⟩
  refine GL.run (j := 5) 1 [4] [(4, .int .u32 (((rt x 13) : Nat) : Int))] (by kernel_rfl) rfl ?_
  refine GL.k rfl hK4 (fun _ _ h => h) ?_
  refine G.ret ?_
  intro F_ hF_ hM_
  refine hRet _ _ (bodyPost_1 rfl (RV.tmp rfl) ?_ F_ hF_ hM_)
  exact ⟨rfl, H6⟩
theorem Rot17_calls (x : Nat) (hx : x < W32) (w : World) : Calls Try.prog 45 #[.int .u32 (x : Int), .int .i64 (-17)] w fun e w' => e = .returned (.int .u32 ((rt x 17 : Nat) : Int)) ∧ Hp w [] [] w' := by
  refine calls_G (args := [.int .u32 (x : Int), .int .i64 (-17)]) Try.func45 rfl Try.ntmps45 rfl ?_
  intro Q0 hRet hNor hPan
  have H := Hp.start w
  have H : Hp w [] [] w := H
  refine G.seqK fun K1 hK2 => ?_
  refine G.region ?_
  refine GL.run (j := 1) 1 [0, 1] [(0, .int .u32 (x : Int)), (1, .int .i64 (-17))] (by kernel_rfl) rfl ?_
  refine GL.k rfl hK2 (fun _ _ h => h) ?_
  refine G.seqK fun K3 hK4 => ?_
  refine G.region ?_
  refine GL.run (j := 4) 4 [0, 5] [(0, .int .u32 (x : Int)), (5, .int .u64 15)] (by kernel_rfl) rfl ?_
  refine GL.k rfl hK4 (fun _ _ h => h) ?_
  refine G.seqK fun K5 hK6 => ?_
  refine G.region ?_
  refine GL.run (j := 9) 9 [4] [(4, .int .u32 (Go.bits .or .u32 (IntKind.u32.wrap ((x : Int) * 2 ^ 15)) (Int.fdiv (x : Int) (2 ^ 17))))] (by kernel_rfl) rfl ?_
  have e7 : (IntKind.u32.wrap ((x : Int) * 2 ^ 15)) = ((x * 2 ^ 15 % W32 : Nat) : Int) := w_shl x 15
  have e8 : (Int.fdiv (x : Int) (2 ^ 17)) = ((x / 2 ^ 17 : Nat) : Int) := n_shr x 17
  have e9 : (Go.bits .or .u32 ((x * 2 ^ 15 % W32 : Nat) : Int) ((x / 2 ^ 17 : Nat) : Int)) = ((rt x 17 : Nat) : Int) := w_or (Nat.mod_lt _ (by decide)) (Nat.lt_of_le_of_lt (Nat.div_le_self _ _) hx)
  refine GL.eq (M' := [(4, .int .u32 ((rt x 17 : Nat) : Int))]) (by rw [e7, e8, e9]) ?_
  clear e7 e8 e9
  refine GL.k rfl hK6 (fun _ _ h => h) ?_
  refine G.ret ?_
  intro F_ hF_ hM_
  refine hRet _ _ (bodyPost_1 rfl (RV.tmp rfl) ?_ F_ hF_ hM_)
  exact ⟨rfl, H⟩
theorem Turn17_calls (x : Nat) (hx : x < W32) (w : World) : Calls Try.prog 41 #[.int .u32 (x : Int), .int .i64 17] w fun e w' => e = .returned (.int .u32 ((rt x 17 : Nat) : Int)) ∧ Hp w [] [] w' := by
  refine calls_G (args := [.int .u32 (x : Int), .int .i64 17]) Try.func41 rfl Try.ntmps41 rfl ?_
  intro Q0 hRet hNor hPan
  have H := Hp.start w
  have H : Hp w [] [] w := H
  refine G.seqK fun K1 hK2 => ?_
  refine G.region ?_
  refine GL.run (j := 1) 1 [0, 1] [(0, .int .u32 (x : Int)), (1, .int .i64 17)] (by kernel_rfl) rfl ?_
  refine GL.k rfl hK2 (fun _ _ h => h) ?_
  refine G.seqK fun K3 hK4 => ?_
  refine G.region ?_
  refine GL.run (j := 3) 3 [5, 7] [(5, .int .u32 (x : Int)), (7, .int .i64 (-17))] (by kernel_rfl) rfl ?_
  refine GL.call (j := 4) (Rot17_calls x hx w) (by kernel_rfl) rfl (fun e_ w5 hR => ?_)
  obtain ⟨rfl, H7⟩ := hR
  have H6 : Hp w [] [] w5 := H.callNil H7
  refine ⟨_, rfl, [8], [(8, .int .u32 (((rt x 17) : Nat) : Int))], by kernel_rfl, ?_⟩
  refine GL.run (j := 5) 1 [4] [(4, .int .u32 (((rt x 17) : Nat) : Int))] (by kernel_rfl) rfl ?_
  refine GL.k rfl hK4 (fun _ _ h => h) ?_
  refine G.ret ?_
  intro F_ hF_ hM_
  refine hRet _ _ (bodyPost_1 rfl (RV.tmp rfl) ?_ F_ hF_ hM_)
  exact ⟨rfl, H6⟩
theorem Rot18_calls (x : Nat) (hx : x < W32) (w : World) : Calls Try.prog 45 #[.int .u32 (x : Int), .int .i64 (-18)] w fun e w' => e = .returned (.int .u32 ((rt x 18 : Nat) : Int)) ∧ Hp w [] [] w' := by
  refine calls_G (args := [.int .u32 (x : Int), .int .i64 (-18)]) Try.func45 rfl Try.ntmps45 rfl ?_
  intro Q0 hRet hNor hPan
  have H := Hp.start w
  have H : Hp w [] [] w := H
  refine G.seqK fun K1 hK2 => ?_
  refine G.region ?_
  refine GL.run (j := 1) 1 [0, 1] [(0, .int .u32 (x : Int)), (1, .int .i64 (-18))] (by kernel_rfl) rfl ?_
  refine GL.k rfl hK2 (fun _ _ h => h) ?_
  refine G.seqK fun K3 hK4 => ?_
  refine G.region ?_
  refine GL.run (j := 4) 4 [0, 5] [(0, .int .u32 (x : Int)), (5, .int .u64 14)] (by kernel_rfl) rfl ?_
  refine GL.k rfl hK4 (fun _ _ h => h) ?_
  refine G.seqK fun K5 hK6 => ?_
  refine G.region ?_
  refine GL.run (j := 9) 9 [4] [(4, .int .u32 (Go.bits .or .u32 (IntKind.u32.wrap ((x : Int) * 2 ^ 14)) (Int.fdiv (x : Int) (2 ^ 18))))] (by kernel_rfl) rfl ?_
  have e7 : (IntKind.u32.wrap ((x : Int) * 2 ^ 14)) = ((x * 2 ^ 14 % W32 : Nat) : Int) := w_shl x 14
  have e8 : (Int.fdiv (x : Int) (2 ^ 18)) = ((x / 2 ^ 18 : Nat) : Int) := n_shr x 18
  have e9 : (Go.bits .or .u32 ((x * 2 ^ 14 % W32 : Nat) : Int) ((x / 2 ^ 18 : Nat) : Int)) = ((rt x 18 : Nat) : Int) := w_or (Nat.mod_lt _ (by decide)) (Nat.lt_of_le_of_lt (Nat.div_le_self _ _) hx)
  refine GL.eq (M' := [(4, .int .u32 ((rt x 18 : Nat) : Int))]) (by rw [e7, e8, e9]) ?_
  clear e7 e8 e9
  refine GL.k rfl hK6 (fun _ _ h => h) ?_
  refine G.ret ?_
  intro F_ hF_ hM_
  refine hRet _ _ (bodyPost_1 rfl (RV.tmp rfl) ?_ F_ hF_ hM_)
  exact ⟨rfl, H⟩
theorem Turn18_calls (x : Nat) (hx : x < W32) (w : World) : Calls Try.prog 41 #[.int .u32 (x : Int), .int .i64 18] w fun e w' => e = .returned (.int .u32 ((rt x 18 : Nat) : Int)) ∧ Hp w [] [] w' := by
  refine calls_G (args := [.int .u32 (x : Int), .int .i64 18]) Try.func41 rfl Try.ntmps41 rfl ?_
  intro Q0 hRet hNor hPan
  have H := Hp.start w
  have H : Hp w [] [] w := H
  refine G.seqK fun K1 hK2 => ?_
  refine G.region ?_
  refine GL.run (j := 1) 1 [0, 1] [(0, .int .u32 (x : Int)), (1, .int .i64 18)] (by kernel_rfl) rfl ?_
  refine GL.k rfl hK2 (fun _ _ h => h) ?_
  refine G.seqK fun K3 hK4 => ?_
  refine G.region ?_
  refine GL.run (j := 3) 3 [5, 7] [(5, .int .u32 (x : Int)), (7, .int .i64 (-18))] (by kernel_rfl) rfl ?_
  refine GL.call (j := 4) (Rot18_calls x hx w) (by kernel_rfl) rfl (fun e_ w5 hR => ?_)
  obtain ⟨rfl, H7⟩ := hR
  have H6 : Hp w [] [] w5 := H.callNil H7
  refine ⟨_, rfl, [8], [(8, .int .u32 (((rt x 18) : Nat) : Int))], by kernel_rfl, ?_⟩
  refine GL.run (j := 5) 1 [4] [(4, .int .u32 (((rt x 18) : Nat) : Int))] (by kernel_rfl) rfl ?_
  refine GL.k rfl hK4 (fun _ _ h => h) ?_
  refine G.ret ?_
  intro F_ hF_ hM_
  refine hRet _ _ (bodyPost_1 rfl (RV.tmp rfl) ?_ F_ hF_ hM_)
  exact ⟨rfl, H6⟩
theorem Rot19_calls (x : Nat) (hx : x < W32) (w : World) : Calls Try.prog 45 #[.int .u32 (x : Int), .int .i64 (-19)] w fun e w' => e = .returned (.int .u32 ((rt x 19 : Nat) : Int)) ∧ Hp w [] [] w' := by
  refine calls_G (args := [.int .u32 (x : Int), .int .i64 (-19)]) Try.func45 rfl Try.ntmps45 rfl ?_
  intro Q0 hRet hNor hPan
  have H := Hp.start w
  have H : Hp w [] [] w := H
  refine G.seqK fun K1 hK2 => ?_
  refine G.region ?_
  refine GL.run (j := 1) 1 [0, 1] [(0, .int .u32 (x : Int)), (1, .int .i64 (-19))] (by kernel_rfl) rfl ?_
  refine GL.k rfl hK2 (fun _ _ h => h) ?_
  refine G.seqK fun K3 hK4 => ?_
  refine G.region ?_
  refine GL.run (j := 4) 4 [0, 5] [(0, .int .u32 (x : Int)), (5, .int .u64 13)] (by kernel_rfl) rfl ?_
  refine GL.k rfl hK4 (fun _ _ h => h) ?_
  refine G.seqK fun K5 hK6 => ?_
  refine G.region ?_
  refine GL.run (j := 9) 9 [4] [(4, .int .u32 (Go.bits .or .u32 (IntKind.u32.wrap ((x : Int) * 2 ^ 13)) (Int.fdiv (x : Int) (2 ^ 19))))] (by kernel_rfl) rfl ?_
  have e7 : (IntKind.u32.wrap ((x : Int) * 2 ^ 13)) = ((x * 2 ^ 13 % W32 : Nat) : Int) := w_shl x 13
  have e8 : (Int.fdiv (x : Int) (2 ^ 19)) = ((x / 2 ^ 19 : Nat) : Int) := n_shr x 19
  have e9 : (Go.bits .or .u32 ((x * 2 ^ 13 % W32 : Nat) : Int) ((x / 2 ^ 19 : Nat) : Int)) = ((rt x 19 : Nat) : Int) := w_or (Nat.mod_lt _ (by decide)) (Nat.lt_of_le_of_lt (Nat.div_le_self _ _) hx)
  refine GL.eq (M' := [(4, .int .u32 ((rt x 19 : Nat) : Int))]) (by rw [e7, e8, e9]) ?_
  clear e7 e8 e9
  refine GL.k rfl hK6 (fun _ _ h => h) ?_
  refine G.ret ?_
  intro F_ hF_ hM_
  refine hRet _ _ (bodyPost_1 rfl (RV.tmp rfl) ?_ F_ hF_ hM_)
  exact ⟨rfl, H⟩
theorem Turn19_calls (x : Nat) (hx : x < W32) (w : World) : Calls Try.prog 41 #[.int .u32 (x : Int), .int .i64 19] w fun e w' => e = .returned (.int .u32 ((rt x 19 : Nat) : Int)) ∧ Hp w [] [] w' := by
  refine calls_G (args := [.int .u32 (x : Int), .int .i64 19]) Try.func41 rfl Try.ntmps41 rfl ?_
  intro Q0 hRet hNor hPan
  have H := Hp.start w
  have H : Hp w [] [] w := H
  refine G.seqK fun K1 hK2 => ?_
  refine G.region ?_
  refine GL.run (j := 1) 1 [0, 1] [(0, .int .u32 (x : Int)), (1, .int .i64 19)] (by kernel_rfl) rfl ?_
  refine GL.k rfl hK2 (fun _ _ h => h) ?_
  refine G.seqK fun K3 hK4 => ?_
  refine G.region ?_
  refine GL.run (j := 3) 3 [5, 7] [(5, .int .u32 (x : Int)), (7, .int .i64 (-19))] (by kernel_rfl) rfl ?_
  refine GL.call (j := 4) (Rot19_calls x hx w) (by kernel_rfl) rfl (fun e_ w5 hR => ?_)
  obtain ⟨rfl, H7⟩ := hR
  have H6 : Hp w [] [] w5 := H.callNil H7
  refine ⟨_, rfl, [8], [(8, .int .u32 (((rt x 19) : Nat) : Int))], by kernel_rfl, ?_⟩
  refine GL.run (j := 5) 1 [4] [(4, .int .u32 (((rt x 19) : Nat) : Int))] (by kernel_rfl) rfl ?_
  refine GL.k rfl hK4 (fun _ _ h => h) ?_
  refine G.ret ?_
  intro F_ hF_ hM_
  refine hRet _ _ (bodyPost_1 rfl (RV.tmp rfl) ?_ F_ hF_ hM_)
  exact ⟨rfl, H6⟩
theorem Rot22_calls (x : Nat) (hx : x < W32) (w : World) : Calls Try.prog 45 #[.int .u32 (x : Int), .int .i64 (-22)] w fun e w' => e = .returned (.int .u32 ((rt x 22 : Nat) : Int)) ∧ Hp w [] [] w' := by
  refine calls_G (args := [.int .u32 (x : Int), .int .i64 (-22)]) Try.func45 rfl Try.ntmps45 rfl ?_
  intro Q0 hRet hNor hPan
  have H := Hp.start w
  have H : Hp w [] [] w := H
  refine G.seqK fun K1 hK2 => ?_
  refine G.region ?_
  refine GL.run (j := 1) 1 [0, 1] [(0, .int .u32 (x : Int)), (1, .int .i64 (-22))] (by kernel_rfl) rfl ?_
  refine GL.k rfl hK2 (fun _ _ h => h) ?_
  refine G.seqK fun K3 hK4 => ?_
  refine G.region ?_
  refine GL.run (j := 4) 4 [0, 5] [(0, .int .u32 (x : Int)), (5, .int .u64 10)] (by kernel_rfl) rfl ?_
  refine GL.k rfl hK4 (fun _ _ h => h) ?_
  refine G.seqK fun K5 hK6 => ?_
  refine G.region ?_
  refine GL.run (j := 9) 9 [4] [(4, .int .u32 (Go.bits .or .u32 (IntKind.u32.wrap ((x : Int) * 2 ^ 10)) (Int.fdiv (x : Int) (2 ^ 22))))] (by kernel_rfl) rfl ?_
  have e7 : (IntKind.u32.wrap ((x : Int) * 2 ^ 10)) = ((x * 2 ^ 10 % W32 : Nat) : Int) := w_shl x 10
  have e8 : (Int.fdiv (x : Int) (2 ^ 22)) = ((x / 2 ^ 22 : Nat) : Int) := n_shr x 22
  have e9 : (Go.bits .or .u32 ((x * 2 ^ 10 % W32 : Nat) : Int) ((x / 2 ^ 22 : Nat) : Int)) = ((rt x 22 : Nat) : Int) := w_or (Nat.mod_lt _ (by decide)) (Nat.lt_of_le_of_lt (Nat.div_le_self _ _) hx)
  refine GL.eq (M' := [(4, .int .u32 ((rt x 22 : Nat) : Int))]) (by rw [e7, e8, e9]) ?_
  clear e7 e8 e9
  refine GL.k rfl hK6 (fun _ _ h => h) ?_
  refine G.ret ?_
  intro F_ hF_ hM_
  refine hRet _ _ (bodyPost_1 rfl (RV.tmp rfl) ?_ F_ hF_ hM_)
  exact ⟨rfl, H⟩
theorem Turn22_calls (x : Nat) (hx : x < W32) (w : World) : Calls Try.prog 41 #[.int .u32 (x : Int), .int .i64 22] w fun e w' => e = .returned (.int .u32 ((rt x 22 : Nat) : Int)) ∧ Hp w [] [] w' := by
  refine calls_G (args := [.int .u32 (x : Int), .int .i64 22]) Try.func41 rfl Try.ntmps41 rfl ?_
  intro Q0 hRet hNor hPan
  have H := Hp.start w
  have H : Hp w [] [] w := H
  refine G.seqK fun K1 hK2 => ?_
  refine G.region ?_
  refine GL.run (j := 1) 1 [0, 1] [(0, .int .u32 (x : Int)), (1, .int .i64 22)] (by kernel_rfl) rfl ?_
  refine GL.k rfl hK2 (fun _ _ h => h) ?_
  refine G.seqK fun K3 hK4 => ?_
  refine G.region ?_
  refine GL.run (j := 3) 3 [5, 7] [(5, .int .u32 (x : Int)), (7, .int .i64 (-22))] (by kernel_rfl) rfl ?_
  refine GL.call (j := 4) (Rot22_calls x hx w) (by kernel_rfl) rfl (fun e_ w5 hR => ?_)
  obtain ⟨rfl, H7⟩ := hR
  have H6 : Hp w [] [] w5 := H.callNil H7
  refine ⟨_, rfl, [8], [(8, .int .u32 (((rt x 22) : Nat) : Int))], by kernel_rfl, ?_⟩
  refine GL.run (j := 5) 1 [4] [(4, .int .u32 (((rt x 22) : Nat) : Int))] (by kernel_rfl) rfl ?_
  refine GL.k rfl hK4 (fun _ _ h => h) ?_
  refine G.ret ?_
  intro F_ hF_ hM_
  refine hRet _ _ (bodyPost_1 rfl (RV.tmp rfl) ?_ F_ hF_ hM_)
  exact ⟨rfl, H6⟩
theorem Rot25_calls (x : Nat) (hx : x < W32) (w : World) : Calls Try.prog 45 #[.int .u32 (x : Int), .int .i64 (-25)] w fun e w' => e = .returned (.int .u32 ((rt x 25 : Nat) : Int)) ∧ Hp w [] [] w' := by
  refine calls_G (args := [.int .u32 (x : Int), .int .i64 (-25)]) Try.func45 rfl Try.ntmps45 rfl ?_
  intro Q0 hRet hNor hPan
  have H := Hp.start w
  have H : Hp w [] [] w := H
  refine G.seqK fun K1 hK2 => ?_
  refine G.region ?_
  refine GL.run (j := 1) 1 [0, 1] [(0, .int .u32 (x : Int)), (1, .int .i64 (-25))] (by kernel_rfl) rfl ?_
  refine GL.k rfl hK2 (fun _ _ h => h) ?_
  refine G.seqK fun K3 hK4 => ?_
  refine G.region ?_
  refine GL.run (j := 4) 4 [0, 5] [(0, .int .u32 (x : Int)), (5, .int .u64 7)] (by kernel_rfl) rfl ?_
  refine GL.k rfl hK4 (fun _ _ h => h) ?_
  refine G.seqK fun K5 hK6 => ?_
  refine G.region ?_
  refine GL.run (j := 9) 9 [4] [(4, .int .u32 (Go.bits .or .u32 (IntKind.u32.wrap ((x : Int) * 2 ^ 7)) (Int.fdiv (x : Int) (2 ^ 25))))] (by kernel_rfl) rfl ?_
  have e7 : (IntKind.u32.wrap ((x : Int) * 2 ^ 7)) = ((x * 2 ^ 7 % W32 : Nat) : Int) := w_shl x 7
  have e8 : (Int.fdiv (x : Int) (2 ^ 25)) = ((x / 2 ^ 25 : Nat) : Int) := n_shr x 25
  have e9 : (Go.bits .or .u32 ((x * 2 ^ 7 % W32 : Nat) : Int) ((x / 2 ^ 25 : Nat) : Int)) = ((rt x 25 : Nat) : Int) := w_or (Nat.mod_lt _ (by decide)) (Nat.lt_of_le_of_lt (Nat.div_le_self _ _) hx)
  refine GL.eq (M' := [(4, .int .u32 ((rt x 25 : Nat) : Int))]) (by rw [e7, e8, e9]) ?_
  clear e7 e8 e9
  refine GL.k rfl hK6 (fun _ _ h => h) ?_
  refine G.ret ?_
  intro F_ hF_ hM_
  refine hRet _ _ (bodyPost_1 rfl (RV.tmp rfl) ?_ F_ hF_ hM_)
  exact ⟨rfl, H⟩
theorem Turn25_calls (x : Nat) (hx : x < W32) (w : World) : Calls Try.prog 41 #[.int .u32 (x : Int), .int .i64 25] w fun e w' => e = .returned (.int .u32 ((rt x 25 : Nat) : Int)) ∧ Hp w [] [] w' := by
  refine calls_G (args := [.int .u32 (x : Int), .int .i64 25]) Try.func41 rfl Try.ntmps41 rfl ?_
  intro Q0 hRet hNor hPan
  have H := Hp.start w
  have H : Hp w [] [] w := H
  refine G.seqK fun K1 hK2 => ?_
  refine G.region ?_
  refine GL.run (j := 1) 1 [0, 1] [(0, .int .u32 (x : Int)), (1, .int .i64 25)] (by kernel_rfl) rfl ?_
  refine GL.k rfl hK2 (fun _ _ h => h) ?_
  refine G.seqK fun K3 hK4 => ?_
  refine G.region ?_
  refine GL.run (j := 3) 3 [5, 7] [(5, .int .u32 (x : Int)), (7, .int .i64 (-25))] (by kernel_rfl) rfl ?_
  refine GL.call (j := 4) (Rot25_calls x hx w) (by kernel_rfl) rfl (fun e_ w5 hR => ?_)
  obtain ⟨rfl, H7⟩ := hR
  have H6 : Hp w [] [] w5 := H.callNil H7
  refine ⟨_, rfl, [8], [(8, .int .u32 (((rt x 25) : Nat) : Int))], by kernel_rfl, ?_⟩
  refine GL.run (j := 5) 1 [4] [(4, .int .u32 (((rt x 25) : Nat) : Int))] (by kernel_rfl) rfl ?_
  refine GL.k rfl hK4 (fun _ _ h => h) ?_
  refine G.ret ?_
  intro F_ hF_ hM_
  refine hRet _ _ (bodyPost_1 rfl (RV.tmp rfl) ?_ F_ hF_ hM_)
  exact ⟨rfl, H6⟩
theorem Constants_calls (w : World) : Calls Try.prog 42 #[] w fun e w' => e = .returned (.agg (u32s KT).toArray) ∧ Hp w [] [] w' := by
  refine calls_G (args := []) Try.func42 rfl Try.ntmps42 rfl ?_
  intro Q0 hRet hNor hPan
  have H := Hp.start w
  have H : Hp w [] [] w := H
  refine G.seqK fun K1 hK2 => ?_
  refine G.region ?_
  obtain ⟨p3, w4, r5, H6⟩ := H.alloc (P := Try.prog) 71 [.int .u32 0, .int .u32 0, .int .u32 0, .int .u32 0, .int .u32 0, .int .u32 0, .int .u32 0, .int .u32 0, .int .u32 0, .int .u32 0, .int .u32 0, .int .u32 0, .int .u32 0, .int .u32 0, .int .u32 0, .int .u32 0, .int .u32 0, .int .u32 0, .int .u32 0, .int .u32 0, .int .u32 0, .int .u32 0, .int .u32 0, .int .u32 0, .int .u32 0, .int .u32 0, .int .u32 0, .int .u32 0, .int .u32 0, .int .u32 0, .int .u32 0, .int .u32 0, .int .u32 0, .int .u32 0, .int .u32 0, .int .u32 0, .int .u32 0, .int .u32 0, .int .u32 0, .int .u32 0, .int .u32 0, .int .u32 0, .int .u32 0, .int .u32 0, .int .u32 0, .int .u32 0, .int .u32 0, .int .u32 0, .int .u32 0, .int .u32 0, .int .u32 0, .int .u32 0, .int .u32 0, .int .u32 0, .int .u32 0, .int .u32 0, .int .u32 0, .int .u32 0, .int .u32 0, .int .u32 0, .int .u32 0, .int .u32 0, .int .u32 0, .int .u32 0] (by kernel_rfl)
  have H6 : Hp w [] [.blk p3 [.int .u32 0, .int .u32 0, .int .u32 0, .int .u32 0, .int .u32 0, .int .u32 0, .int .u32 0, .int .u32 0, .int .u32 0, .int .u32 0, .int .u32 0, .int .u32 0, .int .u32 0, .int .u32 0, .int .u32 0, .int .u32 0, .int .u32 0, .int .u32 0, .int .u32 0, .int .u32 0, .int .u32 0, .int .u32 0, .int .u32 0, .int .u32 0, .int .u32 0, .int .u32 0, .int .u32 0, .int .u32 0, .int .u32 0, .int .u32 0, .int .u32 0, .int .u32 0, .int .u32 0, .int .u32 0, .int .u32 0, .int .u32 0, .int .u32 0, .int .u32 0, .int .u32 0, .int .u32 0, .int .u32 0, .int .u32 0, .int .u32 0, .int .u32 0, .int .u32 0, .int .u32 0, .int .u32 0, .int .u32 0, .int .u32 0, .int .u32 0, .int .u32 0, .int .u32 0, .int .u32 0, .int .u32 0, .int .u32 0, .int .u32 0, .int .u32 0, .int .u32 0, .int .u32 0, .int .u32 0, .int .u32 0, .int .u32 0, .int .u32 0, .int .u32 0] 71] w4 := H6
  refine GL.sem (j := 1) (r5) [0] [(0, pt p3 0)] (by kernel_rfl) (by kernel_rfl) rfl ?_
  refine GL.k rfl hK2 (fun _ _ h => h) ?_
  refine G.seqK fun K7 hK8 => ?_
  refine G.region ?_
  refine GL.run (j := 1) 1 [0, 1] [(0, pt p3 0), (1, .agg #[.int .u32 1116352408, .int .u32 1899447441, .int .u32 3049323471, .int .u32 3921009573, .int .u32 961987163, .int .u32 1508970993, .int .u32 2453635748, .int .u32 2870763221, .int .u32 3624381080, .int .u32 310598401, .int .u32 607225278, .int .u32 1426881987, .int .u32 1925078388, .int .u32 2162078206, .int .u32 2614888103, .int .u32 3248222580, .int .u32 3835390401, .int .u32 4022224774, .int .u32 264347078, .int .u32 604807628, .int .u32 770255983, .int .u32 1249150122, .int .u32 1555081692, .int .u32 1996064986, .int .u32 2554220882, .int .u32 2821834349, .int .u32 2952996808, .int .u32 3210313671, .int .u32 3336571891, .int .u32 3584528711, .int .u32 113926993, .int .u32 338241895, .int .u32 666307205, .int .u32 773529912, .int .u32 1294757372, .int .u32 1396182291, .int .u32 1695183700, .int .u32 1986661051, .int .u32 2177026350, .int .u32 2456956037, .int .u32 2730485921, .int .u32 2820302411, .int .u32 3259730800, .int .u32 3345764771, .int .u32 3516065817, .int .u32 3600352804, .int .u32 4094571909, .int .u32 275423344, .int .u32 430227734, .int .u32 506948616, .int .u32 659060556, .int .u32 883997877, .int .u32 958139571, .int .u32 1322822218, .int .u32 1537002063, .int .u32 1747873779, .int .u32 1955562222, .int .u32 2024104815, .int .u32 2227730452, .int .u32 2361852424, .int .u32 2428436474, .int .u32 2756734187, .int .u32 3204031479, .int .u32 3329325298])] (by kernel_rfl) rfl ?_
  obtain ⟨w9, r10, H11⟩ := H6.stA (P := Try.prog) (o := 0) (vs := [.int .u32 1116352408, .int .u32 1899447441, .int .u32 3049323471, .int .u32 3921009573, .int .u32 961987163, .int .u32 1508970993, .int .u32 2453635748, .int .u32 2870763221, .int .u32 3624381080, .int .u32 310598401, .int .u32 607225278, .int .u32 1426881987, .int .u32 1925078388, .int .u32 2162078206, .int .u32 2614888103, .int .u32 3248222580, .int .u32 3835390401, .int .u32 4022224774, .int .u32 264347078, .int .u32 604807628, .int .u32 770255983, .int .u32 1249150122, .int .u32 1555081692, .int .u32 1996064986, .int .u32 2554220882, .int .u32 2821834349, .int .u32 2952996808, .int .u32 3210313671, .int .u32 3336571891, .int .u32 3584528711, .int .u32 113926993, .int .u32 338241895, .int .u32 666307205, .int .u32 773529912, .int .u32 1294757372, .int .u32 1396182291, .int .u32 1695183700, .int .u32 1986661051, .int .u32 2177026350, .int .u32 2456956037, .int .u32 2730485921, .int .u32 2820302411, .int .u32 3259730800, .int .u32 3345764771, .int .u32 3516065817, .int .u32 3600352804, .int .u32 4094571909, .int .u32 275423344, .int .u32 430227734, .int .u32 506948616, .int .u32 659060556, .int .u32 883997877, .int .u32 958139571, .int .u32 1322822218, .int .u32 1537002063, .int .u32 1747873779, .int .u32 1955562222, .int .u32 2024104815, .int .u32 2227730452, .int .u32 2361852424, .int .u32 2428436474, .int .u32 2756734187, .int .u32 3204031479, .int .u32 3329325298]) (ty := 71) (m := 64) 0 rfl (by kernel_rfl) rfl (by simp) (by simp [Value.oneCell'])
  have H11 : Hp w [] [.blk p3 [.int .u32 1116352408, .int .u32 1899447441, .int .u32 3049323471, .int .u32 3921009573, .int .u32 961987163, .int .u32 1508970993, .int .u32 2453635748, .int .u32 2870763221, .int .u32 3624381080, .int .u32 310598401, .int .u32 607225278, .int .u32 1426881987, .int .u32 1925078388, .int .u32 2162078206, .int .u32 2614888103, .int .u32 3248222580, .int .u32 3835390401, .int .u32 4022224774, .int .u32 264347078, .int .u32 604807628, .int .u32 770255983, .int .u32 1249150122, .int .u32 1555081692, .int .u32 1996064986, .int .u32 2554220882, .int .u32 2821834349, .int .u32 2952996808, .int .u32 3210313671, .int .u32 3336571891, .int .u32 3584528711, .int .u32 113926993, .int .u32 338241895, .int .u32 666307205, .int .u32 773529912, .int .u32 1294757372, .int .u32 1396182291, .int .u32 1695183700, .int .u32 1986661051, .int .u32 2177026350, .int .u32 2456956037, .int .u32 2730485921, .int .u32 2820302411, .int .u32 3259730800, .int .u32 3345764771, .int .u32 3516065817, .int .u32 3600352804, .int .u32 4094571909, .int .u32 275423344, .int .u32 430227734, .int .u32 506948616, .int .u32 659060556, .int .u32 883997877, .int .u32 958139571, .int .u32 1322822218, .int .u32 1537002063, .int .u32 1747873779, .int .u32 1955562222, .int .u32 2024104815, .int .u32 2227730452, .int .u32 2361852424, .int .u32 2428436474, .int .u32 2756734187, .int .u32 3204031479, .int .u32 3329325298] 71] w9 := H11
  refine GL.semU (j := 2) r10 [0] [(0, pt p3 0)] (by kernel_rfl) rfl rfl rfl ?_
  refine GL.k rfl hK8 (fun _ _ h => h) ?_
  refine G.ret ?_
  intro F_ hF_ hM_
  refine hRet _ _ (bodyPost_1 rfl (RV.cell rfl (H11.ldA (o := 0) (ty := 71) (m := 64) (sub := [.int .u32 1116352408, .int .u32 1899447441, .int .u32 3049323471, .int .u32 3921009573, .int .u32 961987163, .int .u32 1508970993, .int .u32 2453635748, .int .u32 2870763221, .int .u32 3624381080, .int .u32 310598401, .int .u32 607225278, .int .u32 1426881987, .int .u32 1925078388, .int .u32 2162078206, .int .u32 2614888103, .int .u32 3248222580, .int .u32 3835390401, .int .u32 4022224774, .int .u32 264347078, .int .u32 604807628, .int .u32 770255983, .int .u32 1249150122, .int .u32 1555081692, .int .u32 1996064986, .int .u32 2554220882, .int .u32 2821834349, .int .u32 2952996808, .int .u32 3210313671, .int .u32 3336571891, .int .u32 3584528711, .int .u32 113926993, .int .u32 338241895, .int .u32 666307205, .int .u32 773529912, .int .u32 1294757372, .int .u32 1396182291, .int .u32 1695183700, .int .u32 1986661051, .int .u32 2177026350, .int .u32 2456956037, .int .u32 2730485921, .int .u32 2820302411, .int .u32 3259730800, .int .u32 3345764771, .int .u32 3516065817, .int .u32 3600352804, .int .u32 4094571909, .int .u32 275423344, .int .u32 430227734, .int .u32 506948616, .int .u32 659060556, .int .u32 883997877, .int .u32 958139571, .int .u32 1322822218, .int .u32 1537002063, .int .u32 1747873779, .int .u32 1955562222, .int .u32 2024104815, .int .u32 2227730452, .int .u32 2361852424, .int .u32 2428436474, .int .u32 2756734187, .int .u32 3204031479, .int .u32 3329325298]) 0 rfl (by kernel_rfl) rfl rfl)) ?_ F_ hF_ hM_)
  exact ⟨rfl, H11.sub (List.nil_sublist _)⟩
theorem Block_calls (S : List Nat) (q : Nat) (A : Option Addr) (C : Nat) (p : List UInt8) (s : V8) (w : World) (h0 : Hp w S [.blk q (v8c s) 62] w) (hs : ok8 s) (hx : RdO w S A (by8 p)) (hp : p.length = 64) (hC : 64 ≤ C) : Calls Try.prog 34 #[pt q 0, .slice A 64 C] w fun e w' => e = .returned (.tuple #[]) ∧ Hp w S [.blk q (v8c (blockF s p)) 62] w' := by
  obtain ⟨s0, s1, s2, s3, s4, s5, s6, s7⟩ := s
  have ⟨h1, h2, h3, h4, h5, h6, h7, h8⟩ := hs
  refine calls_G (args := [pt q 0, .slice A 64 C]) Try.func34 rfl Try.ntmps34 rfl ?_
  intro Q0 hRet hNor hPan
  have H := h0
  have H : Hp w S [.blk q (c8 s0 s1 s2 s3 s4 s5 s6 s7) 62] w := H
  refine G.seqK fun K1 hK2 => ?_
  refine G.region ?_
  obtain ⟨p3, w4, r5, H6⟩ := H.alloc (P := Try.prog) 71 (u32s (wsP p 0)) (by kernel_rfl)
  have H6 : Hp w S [.blk q (c8 s0 s1 s2 s3 s4 s5 s6 s7) 62, .blk p3 (u32s (wsP p 0)) 71] w4 := H6
  refine GL.sem (j := 1) (r5) [0, 1, 4] [(0, pt q 0), (1, .slice A 64 C), (4, pt p3 0)] (by kernel_rfl) (by kernel_rfl) rfl ?_
  refine GL.k rfl hK2 (fun _ _ h => h) ?_
  refine G.seqK fun K7 hK8 => ?_
  refine G.seqK fun K9 hK10 => ?_
  refine G.region ?_
  refine GL.run (j := 1) 1 [0, 1, 4, 21] [(0, pt q 0), (1, .slice A 64 C), (4, pt p3 0), (21, .int .i64 0)] (by kernel_rfl) rfl ?_
  refine GL.k rfl hK10 (fun _ _ h => h) ?_
  refine G.block ?_
  refine G.fit [0, 1, 4, 21] (M' := [(0, pt q 0), (1, .slice A 64 C), (4, pt p3 0), (21, .int .i64 0)]) (by kernel_rfl) ?_
  refine G.loop (X := Nat) (fun i => [(0, pt q 0), (1, .slice A 64 C), (4, pt p3 0), (21, .int .i64 (i : Int))]) (fun i w_ => (i ≤ 64) ∧ Hp w S [.blk q (c8 s0 s1 s2 s3 s4 s5 s6 s7) 62, .blk p3 (u32s (wsP p i)) 71] w_) (fun i => 64 - i) 0 [0, 1, 4, 21] (by kernel_rfl) ⟨by omega, H6⟩ ?_
  rintro i w11 ⟨hi12, H13⟩
  refine G.eq (M' := [(0, pt q 0), (1, .slice A 64 C), (4, pt p3 0), (21, .int .i64 (i : Int))]) rfl ?_
  have H13 : Hp w S [.blk q (c8 s0 s1 s2 s3 s4 s5 s6 s7) 62, .blk p3 (u32s (wsP p i)) 71] w11 := H13
  have hi64 := hi12
  refine G.seqK fun K14 hK15 => ?_
  refine G.region ?_
  refine GL.run (j := 1) 1 [0, 1, 4, 21, 22] [(0, pt q 0), (1, .slice A 64 C), (4, pt p3 0), (21, .int .i64 (i : Int)), (22, .bool (decide ((i : Int) < 64)))] (by kernel_rfl) rfl ?_
  refine GL.k rfl hK15 (fun _ _ h => h) ?_
  refine G.seqK fun K16 hK17 => ?_
  cases hb18 : (decide ((i : Int) < 64))
  · skip
    have hb18f := of_decide_eq_false hb18
    refine G.no rfl ?_
    refine G.exitK hK8 (fun _ _ h => h) ?_
    refine G.seqK fun K19 hK20 => ?_
    refine G.heldP (Hp w S [.blk q (c8 s0 s1 s2 s3 s4 s5 s6 s7) 62, .blk p3 (u32s (wsP p i)) 71]) (by kernel_rfl) (by kernel_rfl) (fun c_ a_ d_ v_ w_ h_ => hPan c_ a_ d_ v_ w_ h_) ?_
    have H21 := H13.drew
    generalize ({ w11 with drawn := w11.drawn + 1 } : World) = w22 at H21 ⊢
    have hS23 : Hp w S [.blk q (c8 s0 s1 s2 s3 s4 s5 s6 s7) 62, .blk p3 (u32s (wsP p i)) 71] w22 := H21.sub (List.Sublist.cons_cons _ (List.Sublist.cons_cons _ (List.Sublist.slnil)))
    refine GP.run [1, 2] [0, 4, 90] [(0, pt q 0), (4, pt p3 0), (90, pt q 0)] [1, 2] (by kernel_rfl) rfl hS23 ?_
    refine GP.sem 3 (fun w_ H_ => H_.ldA (o := 0) (ty := 62) (m := 8) (sub := (c8 s0 s1 s2 s3 s4 s5 s6 s7)) 0 rfl (by kernel_rfl) rfl rfl) [0, 4, 91] [(0, pt q 0), (4, pt p3 0), (91, .agg #[.int .u32 (s0 : Int), .int .u32 (s1 : Int), .int .u32 (s2 : Int), .int .u32 (s3 : Int), .int .u32 (s4 : Int), .int .u32 (s5 : Int), .int .u32 (s6 : Int), .int .u32 (s7 : Int)])] (by kernel_rfl) (by kernel_rfl) (by kernel_rfl) hS23 ?_
    refine GP.named fun Xd_ hXd_ => ?_
    have st87 : ∀ (wD_ : World) (p38 : Nat) (p66 : Nat), Hp w S [.blk q (c8 s0 s1 s2 s3 s4 s5 s6 s7) 62, .blk p3 (u32s (wsP p i)) 71, .blk p38 (u32s (wsP p 0)) 71, .blk p66 [.int .u32 0, .int .u32 0, .int .u32 0, .int .u32 0, .int .u32 0, .int .u32 0, .int .u32 0, .int .u32 0] 62] wD_ → Xd_ [1, 2, 3, 0, 4, 5] [(0, pt q 0), (4, pt p3 0), (12, pt p38 0), (13, pt p66 0), (88, .agg (u32s KT).toArray), (91, .agg #[.int .u32 (s0 : Int), .int .u32 (s1 : Int), .int .u32 (s2 : Int), .int .u32 (s3 : Int), .int .u32 (s4 : Int), .int .u32 (s5 : Int), .int .u32 (s6 : Int), .int .u32 (s7 : Int)])] wD_ := by
      intro wD_ p38 p66 HD_
      rw [hXd_]
      have hS88 : Hp w S [.blk q (c8 s0 s1 s2 s3 s4 s5 s6 s7) 62, .blk p3 (u32s (wsP p i)) 71] wD_ := HD_.sub (List.Sublist.cons_cons _ (List.Sublist.cons_cons _ (List.Sublist.cons _ (List.Sublist.cons _ (List.Sublist.slnil)))))
      obtain ⟨w89, r90, H91⟩ := HD_.stA (P := Try.prog) (o := 0) (vs := u32s KT) (ty := 71) (m := 64) 2 rfl (by kernel_rfl) rfl (by rw [u32s_length, wsP_length (by omega)]; omega) (u32s_one _)
      rw [st_whole (by rw [u32s_length, wsP_length (by omega)])] at H91
      have H91 : Hp w S [.blk q (c8 s0 s1 s2 s3 s4 s5 s6 s7) 62, .blk p3 (u32s (wsP p i)) 71, .blk p38 (u32s KT) 71, .blk p66 [.int .u32 0, .int .u32 0, .int .u32 0, .int .u32 0, .int .u32 0, .int .u32 0, .int .u32 0, .int .u32 0] 62] w89 := H91
      have hS92 : Hp w S [.blk q (c8 s0 s1 s2 s3 s4 s5 s6 s7) 62, .blk p3 (u32s (wsP p i)) 71] w89 := H91.sub (List.Sublist.cons_cons _ (List.Sublist.cons_cons _ (List.Sublist.cons _ (List.Sublist.cons _ (List.Sublist.slnil)))))
      refine GP.semU 6 r90 [0, 4, 12, 13, 91] [(0, pt q 0), (4, pt p3 0), (12, pt p38 0), (13, pt p66 0), (91, .agg #[.int .u32 (s0 : Int), .int .u32 (s1 : Int), .int .u32 (s2 : Int), .int .u32 (s3 : Int), .int .u32 (s4 : Int), .int .u32 (s5 : Int), .int .u32 (s6 : Int), .int .u32 (s7 : Int)])] (by kernel_rfl) rfl rfl (by kernel_rfl) hS92 ?_
      obtain ⟨w93, r94, H95⟩ := H91.stA (P := Try.prog) (o := 0) (vs := (c8 s0 s1 s2 s3 s4 s5 s6 s7)) (ty := 62) (m := 8) 3 rfl (by kernel_rfl) rfl (by exact Nat.le_refl _) (c8_one)
      have H95 : Hp w S [.blk q (c8 s0 s1 s2 s3 s4 s5 s6 s7) 62, .blk p3 (u32s (wsP p i)) 71, .blk p38 (u32s KT) 71, .blk p66 (c8 s0 s1 s2 s3 s4 s5 s6 s7) 62] w93 := H95
      have hS96 : Hp w S [.blk q (c8 s0 s1 s2 s3 s4 s5 s6 s7) 62, .blk p3 (u32s (wsP p i)) 71] w93 := H95.sub (List.Sublist.cons_cons _ (List.Sublist.cons_cons _ (List.Sublist.cons _ (List.Sublist.cons _ (List.Sublist.slnil)))))
      refine GP.semU 7 r94 [0, 4, 12, 13] [(0, pt q 0), (4, pt p3 0), (12, pt p38 0), (13, pt p66 0)] (by kernel_rfl) rfl rfl (by kernel_rfl) hS96 ?_
      refine GP.k (by kernel_rfl) hK20 (fun _ _ h => h) ?_
      refine G.seqK fun K97 hK98 => ?_
      refine G.seqK fun K99 hK100 => ?_
      refine G.region ?_
      refine GL.run (j := 1) 1 [0, 4, 12, 13, 92] [(0, pt q 0), (4, pt p3 0), (12, pt p38 0), (13, pt p66 0), (92, .int .i64 0)] (by kernel_rfl) rfl ?_
      refine GL.k rfl hK100 (fun _ _ h => h) ?_
      refine G.block ?_
      obtain rfl : i = 64 := by omega
      have H101 : Hp w S [.blk q (c8 s0 s1 s2 s3 s4 s5 s6 s7) 62, .blk p3 (u32s (wsP p 64)) 71, .blk p38 (u32s KT) 71, .blk p66 (c8 s0 s1 s2 s3 s4 s5 s6 s7) 62] w93 := (Hp.reorder (L' := [.blk q (c8 s0 s1 s2 s3 s4 s5 s6 s7) 62, .blk p3 (u32s (wsP p 64)) 71, .blk p38 (u32s KT) 71, .blk p66 (c8 s0 s1 s2 s3 s4 s5 s6 s7) 62]) H95 (List.Perm.refl _))
      refine G.fit [0, 4, 12, 13, 92] (M' := [(0, pt q 0), (4, pt p3 0), (12, pt p38 0), (13, pt p66 0), (92, .int .i64 0)]) (by kernel_rfl) ?_
      refine G.loop (X := Nat × Nat × Nat × Nat × Nat × Nat × Nat × Nat × Nat) (fun ⟨i, a, b, c_, d, e, f, g, h⟩ => [(0, pt q 0), (4, pt p3 0), (12, pt p38 0), (13, pt p66 0), (92, .int .i64 (i : Int))]) (fun ⟨i, a, b, c_, d, e, f, g, h⟩ w_ => (i ≤ 64 ∧ (a, b, c_, d, e, f, g, h) = shaR p (s0, s1, s2, s3, s4, s5, s6, s7) i) ∧ Hp w S [.blk q (c8 s0 s1 s2 s3 s4 s5 s6 s7) 62, .blk p3 (u32s (wsP p 64)) 71, .blk p38 (u32s KT) 71, .blk p66 (c8 a b c_ d e f g h) 62] w_) (fun ⟨i, a, b, c_, d, e, f, g, h⟩ => 64 - i) ⟨0, s0, s1, s2, s3, s4, s5, s6, s7⟩ [0, 4, 12, 13, 92] (by kernel_rfl) ⟨⟨by omega, rfl⟩, H101⟩ ?_
      rintro ⟨i, a, b, c_, d, e, f, g, h⟩ w102 ⟨hi103, H104⟩
      refine G.eq (M' := [(0, pt q 0), (4, pt p3 0), (12, pt p38 0), (13, pt p66 0), (92, .int .i64 (i : Int))]) rfl ?_
      have H104 : Hp w S [.blk q (c8 s0 s1 s2 s3 s4 s5 s6 s7) 62, .blk p3 (u32s (wsP p 64)) 71, .blk p38 (u32s KT) 71, .blk p66 (c8 a b c_ d e f g h) 62] w102 := H104
      have hi64 := hi103.1
      have hv8 := hi103.2
      have ho8 := ok8_rounds (p := p) hs i
      rw [← hv8] at ho8
      obtain ⟨ha, hb, hc, hd, he, hf, hg, hh⟩ := ho8
      refine G.seqK fun K105 hK106 => ?_
      refine G.region ?_
      refine GL.run (j := 1) 1 [0, 4, 12, 13, 92, 93] [(0, pt q 0), (4, pt p3 0), (12, pt p38 0), (13, pt p66 0), (92, .int .i64 (i : Int)), (93, .bool (decide ((i : Int) < 64)))] (by kernel_rfl) rfl ?_
      refine GL.k rfl hK106 (fun _ _ h => h) ?_
      refine G.seqK fun K107 hK108 => ?_
      cases hb109 : (decide ((i : Int) < 64))
      · skip
        have hb109f := of_decide_eq_false hb109
        refine G.no rfl ?_
        refine G.exitK hK98 (fun _ _ h => h) ?_
        refine G.seqK fun K110 hK111 => ?_
        refine G.region ?_
        refine GL.sem (j := 1) (H104.ldA (o := 0) (ty := 62) (m := 8) (sub := (c8 a b c_ d e f g h)) 3 rfl (by kernel_rfl) rfl rfl) [0, 182] [(0, pt q 0), (182, .agg #[.int .u32 (a : Int), .int .u32 (b : Int), .int .u32 (c_ : Int), .int .u32 (d : Int), .int .u32 (e : Int), .int .u32 (f : Int), .int .u32 (g : Int), .int .u32 (h : Int)])] (by kernel_rfl) (by kernel_rfl) rfl ?_
        refine GL.run (j := 2) 1 [0, 182, 183] [(0, pt q 0), (182, .agg #[.int .u32 (a : Int), .int .u32 (b : Int), .int .u32 (c_ : Int), .int .u32 (d : Int), .int .u32 (e : Int), .int .u32 (f : Int), .int .u32 (g : Int), .int .u32 (h : Int)]), (183, .int .i64 0)] (by kernel_rfl) rfl ?_
        refine GL.k rfl hK111 (fun _ _ h => h) ?_
        refine G.block ?_
        refine G.unroll 9 ?_
        refine G.seqK fun K112 hK113 => ?_
        refine G.region ?_
        refine GL.run (j := 1) 1 [0, 182, 183, 184] [(0, pt q 0), (182, .agg #[.int .u32 (a : Int), .int .u32 (b : Int), .int .u32 (c_ : Int), .int .u32 (d : Int), .int .u32 (e : Int), .int .u32 (f : Int), .int .u32 (g : Int), .int .u32 (h : Int)]), (183, .int .i64 0), (184, .bool true)] (by kernel_rfl) rfl ?_
        refine GL.k rfl hK113 (fun _ _ h => h) ?_
        refine G.seqK fun K114 hK115 => ?_
        refine G.yes rfl ?_
        refine G.skipK hK115 (fun _ _ h => h) ?_
        refine G.seqK fun K116 hK117 => ?_
        refine G.block ?_
        refine G.seqK fun K118 hK119 => ?_
        refine G.region ?_
        refine GL.run (j := 4) 4 [0, 19, 20, 182, 183] [(0, pt q 0), (19, .int .i64 0), (20, .int .u32 (a : Int)), (182, .agg #[.int .u32 (a : Int), .int .u32 (b : Int), .int .u32 (c_ : Int), .int .u32 (d : Int), .int .u32 (e : Int), .int .u32 (f : Int), .int .u32 (g : Int), .int .u32 (h : Int)]), (183, .int .i64 0)] (by kernel_rfl) rfl ?_
        refine GL.k rfl hK119 (fun _ _ h => h) ?_
        refine G.tail 9 (by kernel_rfl) (by kernel_rfl) ?_
        have H120 := H104.drew
        generalize ({ w102 with drawn := w102.drawn + 1 } : World) = w121 at H120 ⊢
        refine GS.run (j := 4) 4 [0, 20, 182, 183, 187, 188, 190] [(0, pt q 0), (20, .int .u32 (a : Int)), (182, .agg #[.int .u32 (a : Int), .int .u32 (b : Int), .int .u32 (c_ : Int), .int .u32 (d : Int), .int .u32 (e : Int), .int .u32 (f : Int), .int .u32 (g : Int), .int .u32 (h : Int)]), (183, .int .i64 0), (187, pt q 0), (188, .int .i64 0), (190, pt q 0)] (by kernel_rfl) rfl rfl ?_
        refine GS.sem (j := 5) (H120.ld (o := 0) (ty := 60) (v := .int .u32 (s0 : Int)) 0 rfl (by kernel_rfl) rfl) [0, 20, 182, 183, 187, 188, 191] [(0, pt q 0), (20, .int .u32 (a : Int)), (182, .agg #[.int .u32 (a : Int), .int .u32 (b : Int), .int .u32 (c_ : Int), .int .u32 (d : Int), .int .u32 (e : Int), .int .u32 (f : Int), .int .u32 (g : Int), .int .u32 (h : Int)]), (183, .int .i64 0), (187, pt q 0), (188, .int .i64 0), (191, .int .u32 (s0 : Int))] (by kernel_rfl) (by kernel_rfl) rfl rfl ?_
        refine GS.run (j := 9) 4 [0, 182, 183, 193, 195] [(0, pt q 0), (182, .agg #[.int .u32 (a : Int), .int .u32 (b : Int), .int .u32 (c_ : Int), .int .u32 (d : Int), .int .u32 (e : Int), .int .u32 (f : Int), .int .u32 (g : Int), .int .u32 (h : Int)]), (183, .int .i64 0), (193, .int .u32 (IntKind.u32.wrap ((s0 : Int) + (a : Int)))), (195, pt q 0)] (by kernel_rfl) rfl rfl ?_
        have e122 : (IntKind.u32.wrap ((s0 : Int) + (a : Int))) = (((s0 + a) % W32 : Nat) : Int) := w_add _ _
        refine GS.eq (M' := [(0, pt q 0), (182, .agg #[.int .u32 (a : Int), .int .u32 (b : Int), .int .u32 (c_ : Int), .int .u32 (d : Int), .int .u32 (e : Int), .int .u32 (f : Int), .int .u32 (g : Int), .int .u32 (h : Int)]), (183, .int .i64 0), (193, .int .u32 (((s0 + a) % W32 : Nat) : Int)), (195, pt q 0)]) (by rw [e122]) ?_
        clear e122
        refine GS.tail rfl ?_
        obtain ⟨w123, r124, H125⟩ := H120.st (P := Try.prog) (o := 0) (ty := 60) (v := .int .u32 (((s0 + a) % W32 : Nat) : Int)) 0 rfl (by kernel_rfl) (by show 0 < 8; decide) rfl
        have H125 : Hp w S [.blk q (c8 ((s0 + a) % W32) s1 s2 s3 s4 s5 s6 s7) 62, .blk p3 (u32s (wsP p 64)) 71, .blk p38 (u32s KT) 71, .blk p66 (c8 a b c_ d e f g h) 62] w123 := H125
        refine GL.semU (j := 10) r124 [0, 182, 183] [(0, pt q 0), (182, .agg #[.int .u32 (a : Int), .int .u32 (b : Int), .int .u32 (c_ : Int), .int .u32 (d : Int), .int .u32 (e : Int), .int .u32 (f : Int), .int .u32 (g : Int), .int .u32 (h : Int)]), (183, .int .i64 0)] (by kernel_rfl) rfl rfl rfl ?_
        refine GL.k rfl hK117 (fun _ _ h => h) ?_
        refine G.region ?_
        refine GL.run (j := 2) 2 [0, 182, 183] [(0, pt q 0), (182, .agg #[.int .u32 (a : Int), .int .u32 (b : Int), .int .u32 (c_ : Int), .int .u32 (d : Int), .int .u32 (e : Int), .int .u32 (f : Int), .int .u32 (g : Int), .int .u32 (h : Int)]), (183, .int .i64 1)] (by kernel_rfl) rfl ?_
        refine GL.round rfl ?_
        refine G.seqK fun K126 hK127 => ?_
        refine G.region ?_
        refine GL.run (j := 1) 1 [0, 182, 183, 184] [(0, pt q 0), (182, .agg #[.int .u32 (a : Int), .int .u32 (b : Int), .int .u32 (c_ : Int), .int .u32 (d : Int), .int .u32 (e : Int), .int .u32 (f : Int), .int .u32 (g : Int), .int .u32 (h : Int)]), (183, .int .i64 1), (184, .bool true)] (by kernel_rfl) rfl ?_
        refine GL.k rfl hK127 (fun _ _ h => h) ?_
        refine G.seqK fun K128 hK129 => ?_
        refine G.yes rfl ?_
        refine G.skipK hK129 (fun _ _ h => h) ?_
        refine G.seqK fun K130 hK131 => ?_
        refine G.block ?_
        refine G.seqK fun K132 hK133 => ?_
        refine G.region ?_
        refine GL.run (j := 4) 4 [0, 19, 20, 182, 183] [(0, pt q 0), (19, .int .i64 1), (20, .int .u32 (b : Int)), (182, .agg #[.int .u32 (a : Int), .int .u32 (b : Int), .int .u32 (c_ : Int), .int .u32 (d : Int), .int .u32 (e : Int), .int .u32 (f : Int), .int .u32 (g : Int), .int .u32 (h : Int)]), (183, .int .i64 1)] (by kernel_rfl) rfl ?_
        refine GL.k rfl hK133 (fun _ _ h => h) ?_
        refine G.tail 9 (by kernel_rfl) (by kernel_rfl) ?_
        have H134 := H125.drew
        generalize ({ w123 with drawn := w123.drawn + 1 } : World) = w135 at H134 ⊢
        refine GS.run (j := 4) 4 [0, 20, 182, 183, 187, 188, 190] [(0, pt q 0), (20, .int .u32 (b : Int)), (182, .agg #[.int .u32 (a : Int), .int .u32 (b : Int), .int .u32 (c_ : Int), .int .u32 (d : Int), .int .u32 (e : Int), .int .u32 (f : Int), .int .u32 (g : Int), .int .u32 (h : Int)]), (183, .int .i64 1), (187, pt q 0), (188, .int .i64 1), (190, pt q 1)] (by kernel_rfl) rfl rfl ?_
        refine GS.sem (j := 5) (H134.ld (o := 1) (ty := 60) (v := .int .u32 (s1 : Int)) 0 rfl (by kernel_rfl) rfl) [0, 20, 182, 183, 187, 188, 191] [(0, pt q 0), (20, .int .u32 (b : Int)), (182, .agg #[.int .u32 (a : Int), .int .u32 (b : Int), .int .u32 (c_ : Int), .int .u32 (d : Int), .int .u32 (e : Int), .int .u32 (f : Int), .int .u32 (g : Int), .int .u32 (h : Int)]), (183, .int .i64 1), (187, pt q 0), (188, .int .i64 1), (191, .int .u32 (s1 : Int))] (by kernel_rfl) (by kernel_rfl) rfl rfl ?_
        refine GS.run (j := 9) 4 [0, 182, 183, 193, 195] [(0, pt q 0), (182, .agg #[.int .u32 (a : Int), .int .u32 (b : Int), .int .u32 (c_ : Int), .int .u32 (d : Int), .int .u32 (e : Int), .int .u32 (f : Int), .int .u32 (g : Int), .int .u32 (h : Int)]), (183, .int .i64 1), (193, .int .u32 (IntKind.u32.wrap ((s1 : Int) + (b : Int)))), (195, pt q 1)] (by kernel_rfl) rfl rfl ?_
        have e136 : (IntKind.u32.wrap ((s1 : Int) + (b : Int))) = (((s1 + b) % W32 : Nat) : Int) := w_add _ _
        refine GS.eq (M' := [(0, pt q 0), (182, .agg #[.int .u32 (a : Int), .int .u32 (b : Int), .int .u32 (c_ : Int), .int .u32 (d : Int), .int .u32 (e : Int), .int .u32 (f : Int), .int .u32 (g : Int), .int .u32 (h : Int)]), (183, .int .i64 1), (193, .int .u32 (((s1 + b) % W32 : Nat) : Int)), (195, pt q 1)]) (by rw [e136]) ?_
        clear e136
        refine GS.tail rfl ?_
        obtain ⟨w137, r138, H139⟩ := H134.st (P := Try.prog) (o := 1) (ty := 60) (v := .int .u32 (((s1 + b) % W32 : Nat) : Int)) 0 rfl (by kernel_rfl) (by show 1 < 8; decide) rfl
        have H139 : Hp w S [.blk q (c8 ((s0 + a) % W32) ((s1 + b) % W32) s2 s3 s4 s5 s6 s7) 62, .blk p3 (u32s (wsP p 64)) 71, .blk p38 (u32s KT) 71, .blk p66 (c8 a b c_ d e f g h) 62] w137 := H139
        refine GL.semU (j := 10) r138 [0, 182, 183] [(0, pt q 0), (182, .agg #[.int .u32 (a : Int), .int .u32 (b : Int), .int .u32 (c_ : Int), .int .u32 (d : Int), .int .u32 (e : Int), .int .u32 (f : Int), .int .u32 (g : Int), .int .u32 (h : Int)]), (183, .int .i64 1)] (by kernel_rfl) rfl rfl rfl ?_
        refine GL.k rfl hK131 (fun _ _ h => h) ?_
        refine G.region ?_
        refine GL.run (j := 2) 2 [0, 182, 183] [(0, pt q 0), (182, .agg #[.int .u32 (a : Int), .int .u32 (b : Int), .int .u32 (c_ : Int), .int .u32 (d : Int), .int .u32 (e : Int), .int .u32 (f : Int), .int .u32 (g : Int), .int .u32 (h : Int)]), (183, .int .i64 2)] (by kernel_rfl) rfl ?_
        refine GL.round rfl ?_
        refine G.seqK fun K140 hK141 => ?_
        refine G.region ?_
        refine GL.run (j := 1) 1 [0, 182, 183, 184] [(0, pt q 0), (182, .agg #[.int .u32 (a : Int), .int .u32 (b : Int), .int .u32 (c_ : Int), .int .u32 (d : Int), .int .u32 (e : Int), .int .u32 (f : Int), .int .u32 (g : Int), .int .u32 (h : Int)]), (183, .int .i64 2), (184, .bool true)] (by kernel_rfl) rfl ?_
        refine GL.k rfl hK141 (fun _ _ h => h) ?_
        refine G.seqK fun K142 hK143 => ?_
        refine G.yes rfl ?_
        refine G.skipK hK143 (fun _ _ h => h) ?_
        refine G.seqK fun K144 hK145 => ?_
        refine G.block ?_
        refine G.seqK fun K146 hK147 => ?_
        refine G.region ?_
        refine GL.run (j := 4) 4 [0, 19, 20, 182, 183] [(0, pt q 0), (19, .int .i64 2), (20, .int .u32 (c_ : Int)), (182, .agg #[.int .u32 (a : Int), .int .u32 (b : Int), .int .u32 (c_ : Int), .int .u32 (d : Int), .int .u32 (e : Int), .int .u32 (f : Int), .int .u32 (g : Int), .int .u32 (h : Int)]), (183, .int .i64 2)] (by kernel_rfl) rfl ?_
        refine GL.k rfl hK147 (fun _ _ h => h) ?_
        refine G.tail 9 (by kernel_rfl) (by kernel_rfl) ?_
        have H148 := H139.drew
        generalize ({ w137 with drawn := w137.drawn + 1 } : World) = w149 at H148 ⊢
        refine GS.run (j := 4) 4 [0, 20, 182, 183, 187, 188, 190] [(0, pt q 0), (20, .int .u32 (c_ : Int)), (182, .agg #[.int .u32 (a : Int), .int .u32 (b : Int), .int .u32 (c_ : Int), .int .u32 (d : Int), .int .u32 (e : Int), .int .u32 (f : Int), .int .u32 (g : Int), .int .u32 (h : Int)]), (183, .int .i64 2), (187, pt q 0), (188, .int .i64 2), (190, pt q 2)] (by kernel_rfl) rfl rfl ?_
        refine GS.sem (j := 5) (H148.ld (o := 2) (ty := 60) (v := .int .u32 (s2 : Int)) 0 rfl (by kernel_rfl) rfl) [0, 20, 182, 183, 187, 188, 191] [(0, pt q 0), (20, .int .u32 (c_ : Int)), (182, .agg #[.int .u32 (a : Int), .int .u32 (b : Int), .int .u32 (c_ : Int), .int .u32 (d : Int), .int .u32 (e : Int), .int .u32 (f : Int), .int .u32 (g : Int), .int .u32 (h : Int)]), (183, .int .i64 2), (187, pt q 0), (188, .int .i64 2), (191, .int .u32 (s2 : Int))] (by kernel_rfl) (by kernel_rfl) rfl rfl ?_
        refine GS.run (j := 9) 4 [0, 182, 183, 193, 195] [(0, pt q 0), (182, .agg #[.int .u32 (a : Int), .int .u32 (b : Int), .int .u32 (c_ : Int), .int .u32 (d : Int), .int .u32 (e : Int), .int .u32 (f : Int), .int .u32 (g : Int), .int .u32 (h : Int)]), (183, .int .i64 2), (193, .int .u32 (IntKind.u32.wrap ((s2 : Int) + (c_ : Int)))), (195, pt q 2)] (by kernel_rfl) rfl rfl ?_
        have e150 : (IntKind.u32.wrap ((s2 : Int) + (c_ : Int))) = (((s2 + c_) % W32 : Nat) : Int) := w_add _ _
        refine GS.eq (M' := [(0, pt q 0), (182, .agg #[.int .u32 (a : Int), .int .u32 (b : Int), .int .u32 (c_ : Int), .int .u32 (d : Int), .int .u32 (e : Int), .int .u32 (f : Int), .int .u32 (g : Int), .int .u32 (h : Int)]), (183, .int .i64 2), (193, .int .u32 (((s2 + c_) % W32 : Nat) : Int)), (195, pt q 2)]) (by rw [e150]) ?_
        clear e150
        refine GS.tail rfl ?_
        obtain ⟨w151, r152, H153⟩ := H148.st (P := Try.prog) (o := 2) (ty := 60) (v := .int .u32 (((s2 + c_) % W32 : Nat) : Int)) 0 rfl (by kernel_rfl) (by show 2 < 8; decide) rfl
        have H153 : Hp w S [.blk q (c8 ((s0 + a) % W32) ((s1 + b) % W32) ((s2 + c_) % W32) s3 s4 s5 s6 s7) 62, .blk p3 (u32s (wsP p 64)) 71, .blk p38 (u32s KT) 71, .blk p66 (c8 a b c_ d e f g h) 62] w151 := H153
        refine GL.semU (j := 10) r152 [0, 182, 183] [(0, pt q 0), (182, .agg #[.int .u32 (a : Int), .int .u32 (b : Int), .int .u32 (c_ : Int), .int .u32 (d : Int), .int .u32 (e : Int), .int .u32 (f : Int), .int .u32 (g : Int), .int .u32 (h : Int)]), (183, .int .i64 2)] (by kernel_rfl) rfl rfl rfl ?_
        refine GL.k rfl hK145 (fun _ _ h => h) ?_
        refine G.region ?_
        refine GL.run (j := 2) 2 [0, 182, 183] [(0, pt q 0), (182, .agg #[.int .u32 (a : Int), .int .u32 (b : Int), .int .u32 (c_ : Int), .int .u32 (d : Int), .int .u32 (e : Int), .int .u32 (f : Int), .int .u32 (g : Int), .int .u32 (h : Int)]), (183, .int .i64 3)] (by kernel_rfl) rfl ?_
        refine GL.round rfl ?_
        refine G.seqK fun K154 hK155 => ?_
        refine G.region ?_
        refine GL.run (j := 1) 1 [0, 182, 183, 184] [(0, pt q 0), (182, .agg #[.int .u32 (a : Int), .int .u32 (b : Int), .int .u32 (c_ : Int), .int .u32 (d : Int), .int .u32 (e : Int), .int .u32 (f : Int), .int .u32 (g : Int), .int .u32 (h : Int)]), (183, .int .i64 3), (184, .bool true)] (by kernel_rfl) rfl ?_
        refine GL.k rfl hK155 (fun _ _ h => h) ?_
        refine G.seqK fun K156 hK157 => ?_
        refine G.yes rfl ?_
        refine G.skipK hK157 (fun _ _ h => h) ?_
        refine G.seqK fun K158 hK159 => ?_
        refine G.block ?_
        refine G.seqK fun K160 hK161 => ?_
        refine G.region ?_
        refine GL.run (j := 4) 4 [0, 19, 20, 182, 183] [(0, pt q 0), (19, .int .i64 3), (20, .int .u32 (d : Int)), (182, .agg #[.int .u32 (a : Int), .int .u32 (b : Int), .int .u32 (c_ : Int), .int .u32 (d : Int), .int .u32 (e : Int), .int .u32 (f : Int), .int .u32 (g : Int), .int .u32 (h : Int)]), (183, .int .i64 3)] (by kernel_rfl) rfl ?_
        refine GL.k rfl hK161 (fun _ _ h => h) ?_
        refine G.tail 9 (by kernel_rfl) (by kernel_rfl) ?_
        have H162 := H153.drew
        generalize ({ w151 with drawn := w151.drawn + 1 } : World) = w163 at H162 ⊢
        refine GS.run (j := 4) 4 [0, 20, 182, 183, 187, 188, 190] [(0, pt q 0), (20, .int .u32 (d : Int)), (182, .agg #[.int .u32 (a : Int), .int .u32 (b : Int), .int .u32 (c_ : Int), .int .u32 (d : Int), .int .u32 (e : Int), .int .u32 (f : Int), .int .u32 (g : Int), .int .u32 (h : Int)]), (183, .int .i64 3), (187, pt q 0), (188, .int .i64 3), (190, pt q 3)] (by kernel_rfl) rfl rfl ?_
        refine GS.sem (j := 5) (H162.ld (o := 3) (ty := 60) (v := .int .u32 (s3 : Int)) 0 rfl (by kernel_rfl) rfl) [0, 20, 182, 183, 187, 188, 191] [(0, pt q 0), (20, .int .u32 (d : Int)), (182, .agg #[.int .u32 (a : Int), .int .u32 (b : Int), .int .u32 (c_ : Int), .int .u32 (d : Int), .int .u32 (e : Int), .int .u32 (f : Int), .int .u32 (g : Int), .int .u32 (h : Int)]), (183, .int .i64 3), (187, pt q 0), (188, .int .i64 3), (191, .int .u32 (s3 : Int))] (by kernel_rfl) (by kernel_rfl) rfl rfl ?_
        refine GS.run (j := 9) 4 [0, 182, 183, 193, 195] [(0, pt q 0), (182, .agg #[.int .u32 (a : Int), .int .u32 (b : Int), .int .u32 (c_ : Int), .int .u32 (d : Int), .int .u32 (e : Int), .int .u32 (f : Int), .int .u32 (g : Int), .int .u32 (h : Int)]), (183, .int .i64 3), (193, .int .u32 (IntKind.u32.wrap ((s3 : Int) + (d : Int)))), (195, pt q 3)] (by kernel_rfl) rfl rfl ?_
        have e164 : (IntKind.u32.wrap ((s3 : Int) + (d : Int))) = (((s3 + d) % W32 : Nat) : Int) := w_add _ _
        refine GS.eq (M' := [(0, pt q 0), (182, .agg #[.int .u32 (a : Int), .int .u32 (b : Int), .int .u32 (c_ : Int), .int .u32 (d : Int), .int .u32 (e : Int), .int .u32 (f : Int), .int .u32 (g : Int), .int .u32 (h : Int)]), (183, .int .i64 3), (193, .int .u32 (((s3 + d) % W32 : Nat) : Int)), (195, pt q 3)]) (by rw [e164]) ?_
        clear e164
        refine GS.tail rfl ?_
        obtain ⟨w165, r166, H167⟩ := H162.st (P := Try.prog) (o := 3) (ty := 60) (v := .int .u32 (((s3 + d) % W32 : Nat) : Int)) 0 rfl (by kernel_rfl) (by show 3 < 8; decide) rfl
        have H167 : Hp w S [.blk q (c8 ((s0 + a) % W32) ((s1 + b) % W32) ((s2 + c_) % W32) ((s3 + d) % W32) s4 s5 s6 s7) 62, .blk p3 (u32s (wsP p 64)) 71, .blk p38 (u32s KT) 71, .blk p66 (c8 a b c_ d e f g h) 62] w165 := H167
        refine GL.semU (j := 10) r166 [0, 182, 183] [(0, pt q 0), (182, .agg #[.int .u32 (a : Int), .int .u32 (b : Int), .int .u32 (c_ : Int), .int .u32 (d : Int), .int .u32 (e : Int), .int .u32 (f : Int), .int .u32 (g : Int), .int .u32 (h : Int)]), (183, .int .i64 3)] (by kernel_rfl) rfl rfl rfl ?_
        refine GL.k rfl hK159 (fun _ _ h => h) ?_
        refine G.region ?_
        refine GL.run (j := 2) 2 [0, 182, 183] [(0, pt q 0), (182, .agg #[.int .u32 (a : Int), .int .u32 (b : Int), .int .u32 (c_ : Int), .int .u32 (d : Int), .int .u32 (e : Int), .int .u32 (f : Int), .int .u32 (g : Int), .int .u32 (h : Int)]), (183, .int .i64 4)] (by kernel_rfl) rfl ?_
        refine GL.round rfl ?_
        refine G.seqK fun K168 hK169 => ?_
        refine G.region ?_
        refine GL.run (j := 1) 1 [0, 182, 183, 184] [(0, pt q 0), (182, .agg #[.int .u32 (a : Int), .int .u32 (b : Int), .int .u32 (c_ : Int), .int .u32 (d : Int), .int .u32 (e : Int), .int .u32 (f : Int), .int .u32 (g : Int), .int .u32 (h : Int)]), (183, .int .i64 4), (184, .bool true)] (by kernel_rfl) rfl ?_
        refine GL.k rfl hK169 (fun _ _ h => h) ?_
        refine G.seqK fun K170 hK171 => ?_
        refine G.yes rfl ?_
        refine G.skipK hK171 (fun _ _ h => h) ?_
        refine G.seqK fun K172 hK173 => ?_
        refine G.block ?_
        refine G.seqK fun K174 hK175 => ?_
        refine G.region ?_
        refine GL.run (j := 4) 4 [0, 19, 20, 182, 183] [(0, pt q 0), (19, .int .i64 4), (20, .int .u32 (e : Int)), (182, .agg #[.int .u32 (a : Int), .int .u32 (b : Int), .int .u32 (c_ : Int), .int .u32 (d : Int), .int .u32 (e : Int), .int .u32 (f : Int), .int .u32 (g : Int), .int .u32 (h : Int)]), (183, .int .i64 4)] (by kernel_rfl) rfl ?_
        refine GL.k rfl hK175 (fun _ _ h => h) ?_
        refine G.tail 9 (by kernel_rfl) (by kernel_rfl) ?_
        have H176 := H167.drew
        generalize ({ w165 with drawn := w165.drawn + 1 } : World) = w177 at H176 ⊢
        refine GS.run (j := 4) 4 [0, 20, 182, 183, 187, 188, 190] [(0, pt q 0), (20, .int .u32 (e : Int)), (182, .agg #[.int .u32 (a : Int), .int .u32 (b : Int), .int .u32 (c_ : Int), .int .u32 (d : Int), .int .u32 (e : Int), .int .u32 (f : Int), .int .u32 (g : Int), .int .u32 (h : Int)]), (183, .int .i64 4), (187, pt q 0), (188, .int .i64 4), (190, pt q 4)] (by kernel_rfl) rfl rfl ?_
        refine GS.sem (j := 5) (H176.ld (o := 4) (ty := 60) (v := .int .u32 (s4 : Int)) 0 rfl (by kernel_rfl) rfl) [0, 20, 182, 183, 187, 188, 191] [(0, pt q 0), (20, .int .u32 (e : Int)), (182, .agg #[.int .u32 (a : Int), .int .u32 (b : Int), .int .u32 (c_ : Int), .int .u32 (d : Int), .int .u32 (e : Int), .int .u32 (f : Int), .int .u32 (g : Int), .int .u32 (h : Int)]), (183, .int .i64 4), (187, pt q 0), (188, .int .i64 4), (191, .int .u32 (s4 : Int))] (by kernel_rfl) (by kernel_rfl) rfl rfl ?_
        refine GS.run (j := 9) 4 [0, 182, 183, 193, 195] [(0, pt q 0), (182, .agg #[.int .u32 (a : Int), .int .u32 (b : Int), .int .u32 (c_ : Int), .int .u32 (d : Int), .int .u32 (e : Int), .int .u32 (f : Int), .int .u32 (g : Int), .int .u32 (h : Int)]), (183, .int .i64 4), (193, .int .u32 (IntKind.u32.wrap ((s4 : Int) + (e : Int)))), (195, pt q 4)] (by kernel_rfl) rfl rfl ?_
        have e178 : (IntKind.u32.wrap ((s4 : Int) + (e : Int))) = (((s4 + e) % W32 : Nat) : Int) := w_add _ _
        refine GS.eq (M' := [(0, pt q 0), (182, .agg #[.int .u32 (a : Int), .int .u32 (b : Int), .int .u32 (c_ : Int), .int .u32 (d : Int), .int .u32 (e : Int), .int .u32 (f : Int), .int .u32 (g : Int), .int .u32 (h : Int)]), (183, .int .i64 4), (193, .int .u32 (((s4 + e) % W32 : Nat) : Int)), (195, pt q 4)]) (by rw [e178]) ?_
        clear e178
        refine GS.tail rfl ?_
        obtain ⟨w179, r180, H181⟩ := H176.st (P := Try.prog) (o := 4) (ty := 60) (v := .int .u32 (((s4 + e) % W32 : Nat) : Int)) 0 rfl (by kernel_rfl) (by show 4 < 8; decide) rfl
        have H181 : Hp w S [.blk q (c8 ((s0 + a) % W32) ((s1 + b) % W32) ((s2 + c_) % W32) ((s3 + d) % W32) ((s4 + e) % W32) s5 s6 s7) 62, .blk p3 (u32s (wsP p 64)) 71, .blk p38 (u32s KT) 71, .blk p66 (c8 a b c_ d e f g h) 62] w179 := H181
        refine GL.semU (j := 10) r180 [0, 182, 183] [(0, pt q 0), (182, .agg #[.int .u32 (a : Int), .int .u32 (b : Int), .int .u32 (c_ : Int), .int .u32 (d : Int), .int .u32 (e : Int), .int .u32 (f : Int), .int .u32 (g : Int), .int .u32 (h : Int)]), (183, .int .i64 4)] (by kernel_rfl) rfl rfl rfl ?_
        refine GL.k rfl hK173 (fun _ _ h => h) ?_
        refine G.region ?_
        refine GL.run (j := 2) 2 [0, 182, 183] [(0, pt q 0), (182, .agg #[.int .u32 (a : Int), .int .u32 (b : Int), .int .u32 (c_ : Int), .int .u32 (d : Int), .int .u32 (e : Int), .int .u32 (f : Int), .int .u32 (g : Int), .int .u32 (h : Int)]), (183, .int .i64 5)] (by kernel_rfl) rfl ?_
        refine GL.round rfl ?_
        refine G.seqK fun K182 hK183 => ?_
        refine G.region ?_
        refine GL.run (j := 1) 1 [0, 182, 183, 184] [(0, pt q 0), (182, .agg #[.int .u32 (a : Int), .int .u32 (b : Int), .int .u32 (c_ : Int), .int .u32 (d : Int), .int .u32 (e : Int), .int .u32 (f : Int), .int .u32 (g : Int), .int .u32 (h : Int)]), (183, .int .i64 5), (184, .bool true)] (by kernel_rfl) rfl ?_
        refine GL.k rfl hK183 (fun _ _ h => h) ?_
        refine G.seqK fun K184 hK185 => ?_
        refine G.yes rfl ?_
        refine G.skipK hK185 (fun _ _ h => h) ?_
        refine G.seqK fun K186 hK187 => ?_
        refine G.block ?_
        refine G.seqK fun K188 hK189 => ?_
        refine G.region ?_
        refine GL.run (j := 4) 4 [0, 19, 20, 182, 183] [(0, pt q 0), (19, .int .i64 5), (20, .int .u32 (f : Int)), (182, .agg #[.int .u32 (a : Int), .int .u32 (b : Int), .int .u32 (c_ : Int), .int .u32 (d : Int), .int .u32 (e : Int), .int .u32 (f : Int), .int .u32 (g : Int), .int .u32 (h : Int)]), (183, .int .i64 5)] (by kernel_rfl) rfl ?_
        refine GL.k rfl hK189 (fun _ _ h => h) ?_
        refine G.tail 9 (by kernel_rfl) (by kernel_rfl) ?_
        have H190 := H181.drew
        generalize ({ w179 with drawn := w179.drawn + 1 } : World) = w191 at H190 ⊢
        refine GS.run (j := 4) 4 [0, 20, 182, 183, 187, 188, 190] [(0, pt q 0), (20, .int .u32 (f : Int)), (182, .agg #[.int .u32 (a : Int), .int .u32 (b : Int), .int .u32 (c_ : Int), .int .u32 (d : Int), .int .u32 (e : Int), .int .u32 (f : Int), .int .u32 (g : Int), .int .u32 (h : Int)]), (183, .int .i64 5), (187, pt q 0), (188, .int .i64 5), (190, pt q 5)] (by kernel_rfl) rfl rfl ?_
        refine GS.sem (j := 5) (H190.ld (o := 5) (ty := 60) (v := .int .u32 (s5 : Int)) 0 rfl (by kernel_rfl) rfl) [0, 20, 182, 183, 187, 188, 191] [(0, pt q 0), (20, .int .u32 (f : Int)), (182, .agg #[.int .u32 (a : Int), .int .u32 (b : Int), .int .u32 (c_ : Int), .int .u32 (d : Int), .int .u32 (e : Int), .int .u32 (f : Int), .int .u32 (g : Int), .int .u32 (h : Int)]), (183, .int .i64 5), (187, pt q 0), (188, .int .i64 5), (191, .int .u32 (s5 : Int))] (by kernel_rfl) (by kernel_rfl) rfl rfl ?_
        refine GS.run (j := 9) 4 [0, 182, 183, 193, 195] [(0, pt q 0), (182, .agg #[.int .u32 (a : Int), .int .u32 (b : Int), .int .u32 (c_ : Int), .int .u32 (d : Int), .int .u32 (e : Int), .int .u32 (f : Int), .int .u32 (g : Int), .int .u32 (h : Int)]), (183, .int .i64 5), (193, .int .u32 (IntKind.u32.wrap ((s5 : Int) + (f : Int)))), (195, pt q 5)] (by kernel_rfl) rfl rfl ?_
        have e192 : (IntKind.u32.wrap ((s5 : Int) + (f : Int))) = (((s5 + f) % W32 : Nat) : Int) := w_add _ _
        refine GS.eq (M' := [(0, pt q 0), (182, .agg #[.int .u32 (a : Int), .int .u32 (b : Int), .int .u32 (c_ : Int), .int .u32 (d : Int), .int .u32 (e : Int), .int .u32 (f : Int), .int .u32 (g : Int), .int .u32 (h : Int)]), (183, .int .i64 5), (193, .int .u32 (((s5 + f) % W32 : Nat) : Int)), (195, pt q 5)]) (by rw [e192]) ?_
        clear e192
        refine GS.tail rfl ?_
        obtain ⟨w193, r194, H195⟩ := H190.st (P := Try.prog) (o := 5) (ty := 60) (v := .int .u32 (((s5 + f) % W32 : Nat) : Int)) 0 rfl (by kernel_rfl) (by show 5 < 8; decide) rfl
        have H195 : Hp w S [.blk q (c8 ((s0 + a) % W32) ((s1 + b) % W32) ((s2 + c_) % W32) ((s3 + d) % W32) ((s4 + e) % W32) ((s5 + f) % W32) s6 s7) 62, .blk p3 (u32s (wsP p 64)) 71, .blk p38 (u32s KT) 71, .blk p66 (c8 a b c_ d e f g h) 62] w193 := H195
        refine GL.semU (j := 10) r194 [0, 182, 183] [(0, pt q 0), (182, .agg #[.int .u32 (a : Int), .int .u32 (b : Int), .int .u32 (c_ : Int), .int .u32 (d : Int), .int .u32 (e : Int), .int .u32 (f : Int), .int .u32 (g : Int), .int .u32 (h : Int)]), (183, .int .i64 5)] (by kernel_rfl) rfl rfl rfl ?_
        refine GL.k rfl hK187 (fun _ _ h => h) ?_
        refine G.region ?_
        refine GL.run (j := 2) 2 [0, 182, 183] [(0, pt q 0), (182, .agg #[.int .u32 (a : Int), .int .u32 (b : Int), .int .u32 (c_ : Int), .int .u32 (d : Int), .int .u32 (e : Int), .int .u32 (f : Int), .int .u32 (g : Int), .int .u32 (h : Int)]), (183, .int .i64 6)] (by kernel_rfl) rfl ?_
        refine GL.round rfl ?_
        refine G.seqK fun K196 hK197 => ?_
        refine G.region ?_
        refine GL.run (j := 1) 1 [0, 182, 183, 184] [(0, pt q 0), (182, .agg #[.int .u32 (a : Int), .int .u32 (b : Int), .int .u32 (c_ : Int), .int .u32 (d : Int), .int .u32 (e : Int), .int .u32 (f : Int), .int .u32 (g : Int), .int .u32 (h : Int)]), (183, .int .i64 6), (184, .bool true)] (by kernel_rfl) rfl ?_
        refine GL.k rfl hK197 (fun _ _ h => h) ?_
        refine G.seqK fun K198 hK199 => ?_
        refine G.yes rfl ?_
        refine G.skipK hK199 (fun _ _ h => h) ?_
        refine G.seqK fun K200 hK201 => ?_
        refine G.block ?_
        refine G.seqK fun K202 hK203 => ?_
        refine G.region ?_
        refine GL.run (j := 4) 4 [0, 19, 20, 182, 183] [(0, pt q 0), (19, .int .i64 6), (20, .int .u32 (g : Int)), (182, .agg #[.int .u32 (a : Int), .int .u32 (b : Int), .int .u32 (c_ : Int), .int .u32 (d : Int), .int .u32 (e : Int), .int .u32 (f : Int), .int .u32 (g : Int), .int .u32 (h : Int)]), (183, .int .i64 6)] (by kernel_rfl) rfl ?_
        refine GL.k rfl hK203 (fun _ _ h => h) ?_
        refine G.tail 9 (by kernel_rfl) (by kernel_rfl) ?_
        have H204 := H195.drew
        generalize ({ w193 with drawn := w193.drawn + 1 } : World) = w205 at H204 ⊢
        refine GS.run (j := 4) 4 [0, 20, 182, 183, 187, 188, 190] [(0, pt q 0), (20, .int .u32 (g : Int)), (182, .agg #[.int .u32 (a : Int), .int .u32 (b : Int), .int .u32 (c_ : Int), .int .u32 (d : Int), .int .u32 (e : Int), .int .u32 (f : Int), .int .u32 (g : Int), .int .u32 (h : Int)]), (183, .int .i64 6), (187, pt q 0), (188, .int .i64 6), (190, pt q 6)] (by kernel_rfl) rfl rfl ?_
        refine GS.sem (j := 5) (H204.ld (o := 6) (ty := 60) (v := .int .u32 (s6 : Int)) 0 rfl (by kernel_rfl) rfl) [0, 20, 182, 183, 187, 188, 191] [(0, pt q 0), (20, .int .u32 (g : Int)), (182, .agg #[.int .u32 (a : Int), .int .u32 (b : Int), .int .u32 (c_ : Int), .int .u32 (d : Int), .int .u32 (e : Int), .int .u32 (f : Int), .int .u32 (g : Int), .int .u32 (h : Int)]), (183, .int .i64 6), (187, pt q 0), (188, .int .i64 6), (191, .int .u32 (s6 : Int))] (by kernel_rfl) (by kernel_rfl) rfl rfl ?_
        refine GS.run (j := 9) 4 [0, 182, 183, 193, 195] [(0, pt q 0), (182, .agg #[.int .u32 (a : Int), .int .u32 (b : Int), .int .u32 (c_ : Int), .int .u32 (d : Int), .int .u32 (e : Int), .int .u32 (f : Int), .int .u32 (g : Int), .int .u32 (h : Int)]), (183, .int .i64 6), (193, .int .u32 (IntKind.u32.wrap ((s6 : Int) + (g : Int)))), (195, pt q 6)] (by kernel_rfl) rfl rfl ?_
        have e206 : (IntKind.u32.wrap ((s6 : Int) + (g : Int))) = (((s6 + g) % W32 : Nat) : Int) := w_add _ _
        refine GS.eq (M' := [(0, pt q 0), (182, .agg #[.int .u32 (a : Int), .int .u32 (b : Int), .int .u32 (c_ : Int), .int .u32 (d : Int), .int .u32 (e : Int), .int .u32 (f : Int), .int .u32 (g : Int), .int .u32 (h : Int)]), (183, .int .i64 6), (193, .int .u32 (((s6 + g) % W32 : Nat) : Int)), (195, pt q 6)]) (by rw [e206]) ?_
        clear e206
        refine GS.tail rfl ?_
        obtain ⟨w207, r208, H209⟩ := H204.st (P := Try.prog) (o := 6) (ty := 60) (v := .int .u32 (((s6 + g) % W32 : Nat) : Int)) 0 rfl (by kernel_rfl) (by show 6 < 8; decide) rfl
        have H209 : Hp w S [.blk q (c8 ((s0 + a) % W32) ((s1 + b) % W32) ((s2 + c_) % W32) ((s3 + d) % W32) ((s4 + e) % W32) ((s5 + f) % W32) ((s6 + g) % W32) s7) 62, .blk p3 (u32s (wsP p 64)) 71, .blk p38 (u32s KT) 71, .blk p66 (c8 a b c_ d e f g h) 62] w207 := H209
        refine GL.semU (j := 10) r208 [0, 182, 183] [(0, pt q 0), (182, .agg #[.int .u32 (a : Int), .int .u32 (b : Int), .int .u32 (c_ : Int), .int .u32 (d : Int), .int .u32 (e : Int), .int .u32 (f : Int), .int .u32 (g : Int), .int .u32 (h : Int)]), (183, .int .i64 6)] (by kernel_rfl) rfl rfl rfl ?_
        refine GL.k rfl hK201 (fun _ _ h => h) ?_
        refine G.region ?_
        refine GL.run (j := 2) 2 [0, 182, 183] [(0, pt q 0), (182, .agg #[.int .u32 (a : Int), .int .u32 (b : Int), .int .u32 (c_ : Int), .int .u32 (d : Int), .int .u32 (e : Int), .int .u32 (f : Int), .int .u32 (g : Int), .int .u32 (h : Int)]), (183, .int .i64 7)] (by kernel_rfl) rfl ?_
        refine GL.round rfl ?_
        refine G.seqK fun K210 hK211 => ?_
        refine G.region ?_
        refine GL.run (j := 1) 1 [0, 182, 183, 184] [(0, pt q 0), (182, .agg #[.int .u32 (a : Int), .int .u32 (b : Int), .int .u32 (c_ : Int), .int .u32 (d : Int), .int .u32 (e : Int), .int .u32 (f : Int), .int .u32 (g : Int), .int .u32 (h : Int)]), (183, .int .i64 7), (184, .bool true)] (by kernel_rfl) rfl ?_
        refine GL.k rfl hK211 (fun _ _ h => h) ?_
        refine G.seqK fun K212 hK213 => ?_
        refine G.yes rfl ?_
        refine G.skipK hK213 (fun _ _ h => h) ?_
        refine G.seqK fun K214 hK215 => ?_
        refine G.block ?_
        refine G.seqK fun K216 hK217 => ?_
        refine G.region ?_
        refine GL.run (j := 4) 4 [0, 19, 20, 182, 183] [(0, pt q 0), (19, .int .i64 7), (20, .int .u32 (h : Int)), (182, .agg #[.int .u32 (a : Int), .int .u32 (b : Int), .int .u32 (c_ : Int), .int .u32 (d : Int), .int .u32 (e : Int), .int .u32 (f : Int), .int .u32 (g : Int), .int .u32 (h : Int)]), (183, .int .i64 7)] (by kernel_rfl) rfl ?_
        refine GL.k rfl hK217 (fun _ _ h => h) ?_
        refine G.tail 9 (by kernel_rfl) (by kernel_rfl) ?_
        have H218 := H209.drew
        generalize ({ w207 with drawn := w207.drawn + 1 } : World) = w219 at H218 ⊢
        refine GS.run (j := 4) 4 [0, 20, 182, 183, 187, 188, 190] [(0, pt q 0), (20, .int .u32 (h : Int)), (182, .agg #[.int .u32 (a : Int), .int .u32 (b : Int), .int .u32 (c_ : Int), .int .u32 (d : Int), .int .u32 (e : Int), .int .u32 (f : Int), .int .u32 (g : Int), .int .u32 (h : Int)]), (183, .int .i64 7), (187, pt q 0), (188, .int .i64 7), (190, pt q 7)] (by kernel_rfl) rfl rfl ?_
        refine GS.sem (j := 5) (H218.ld (o := 7) (ty := 60) (v := .int .u32 (s7 : Int)) 0 rfl (by kernel_rfl) rfl) [0, 20, 182, 183, 187, 188, 191] [(0, pt q 0), (20, .int .u32 (h : Int)), (182, .agg #[.int .u32 (a : Int), .int .u32 (b : Int), .int .u32 (c_ : Int), .int .u32 (d : Int), .int .u32 (e : Int), .int .u32 (f : Int), .int .u32 (g : Int), .int .u32 (h : Int)]), (183, .int .i64 7), (187, pt q 0), (188, .int .i64 7), (191, .int .u32 (s7 : Int))] (by kernel_rfl) (by kernel_rfl) rfl rfl ?_
        refine GS.run (j := 9) 4 [0, 182, 183, 193, 195] [(0, pt q 0), (182, .agg #[.int .u32 (a : Int), .int .u32 (b : Int), .int .u32 (c_ : Int), .int .u32 (d : Int), .int .u32 (e : Int), .int .u32 (f : Int), .int .u32 (g : Int), .int .u32 (h : Int)]), (183, .int .i64 7), (193, .int .u32 (IntKind.u32.wrap ((s7 : Int) + (h : Int)))), (195, pt q 7)] (by kernel_rfl) rfl rfl ?_
        have e220 : (IntKind.u32.wrap ((s7 : Int) + (h : Int))) = (((s7 + h) % W32 : Nat) : Int) := w_add _ _
        refine GS.eq (M' := [(0, pt q 0), (182, .agg #[.int .u32 (a : Int), .int .u32 (b : Int), .int .u32 (c_ : Int), .int .u32 (d : Int), .int .u32 (e : Int), .int .u32 (f : Int), .int .u32 (g : Int), .int .u32 (h : Int)]), (183, .int .i64 7), (193, .int .u32 (((s7 + h) % W32 : Nat) : Int)), (195, pt q 7)]) (by rw [e220]) ?_
        clear e220
        refine GS.tail rfl ?_
        obtain ⟨w221, r222, H223⟩ := H218.st (P := Try.prog) (o := 7) (ty := 60) (v := .int .u32 (((s7 + h) % W32 : Nat) : Int)) 0 rfl (by kernel_rfl) (by show 7 < 8; decide) rfl
        have H223 : Hp w S [.blk q (c8 ((s0 + a) % W32) ((s1 + b) % W32) ((s2 + c_) % W32) ((s3 + d) % W32) ((s4 + e) % W32) ((s5 + f) % W32) ((s6 + g) % W32) ((s7 + h) % W32)) 62, .blk p3 (u32s (wsP p 64)) 71, .blk p38 (u32s KT) 71, .blk p66 (c8 a b c_ d e f g h) 62] w221 := H223
        refine GL.semU (j := 10) r222 [0, 182, 183] [(0, pt q 0), (182, .agg #[.int .u32 (a : Int), .int .u32 (b : Int), .int .u32 (c_ : Int), .int .u32 (d : Int), .int .u32 (e : Int), .int .u32 (f : Int), .int .u32 (g : Int), .int .u32 (h : Int)]), (183, .int .i64 7)] (by kernel_rfl) rfl rfl rfl ?_
        refine GL.k rfl hK215 (fun _ _ h => h) ?_
        refine G.region ?_
        refine GL.run (j := 2) 2 [0, 182, 183] [(0, pt q 0), (182, .agg #[.int .u32 (a : Int), .int .u32 (b : Int), .int .u32 (c_ : Int), .int .u32 (d : Int), .int .u32 (e : Int), .int .u32 (f : Int), .int .u32 (g : Int), .int .u32 (h : Int)]), (183, .int .i64 8)] (by kernel_rfl) rfl ?_
        refine GL.round rfl ?_
        refine G.seqK fun K224 hK225 => ?_
        refine G.region ?_
        refine GL.run (j := 1) 1 [0, 182, 183, 184] [(0, pt q 0), (182, .agg #[.int .u32 (a : Int), .int .u32 (b : Int), .int .u32 (c_ : Int), .int .u32 (d : Int), .int .u32 (e : Int), .int .u32 (f : Int), .int .u32 (g : Int), .int .u32 (h : Int)]), (183, .int .i64 8), (184, .bool false)] (by kernel_rfl) rfl ?_
        refine GL.k rfl hK225 (fun _ _ h => h) ?_
        refine G.seqK fun K226 hK227 => ?_
        refine G.no rfl ?_
        -- exit to the end
        refine fun F_ hF_ hM_ => wp_exit ?_
        refine hNor _ _ (bodyPost_0 rfl  ?_ F_ hF_ hM_)
        have H228 : Hp w S [.blk q (c8 ((s0 + a) % W32) ((s1 + b) % W32) ((s2 + c_) % W32) ((s3 + d) % W32) ((s4 + e) % W32) ((s5 + f) % W32) ((s6 + g) % W32) ((s7 + h) % W32)) 62] w221 := H223.sub (List.Sublist.cons_cons _ (List.Sublist.cons _ (List.Sublist.cons _ (List.Sublist.cons _ (List.Sublist.slnil)))))
        have HF := H228
        have e64 : i = 64 := by omega
        have e8 : blockF (s0, s1, s2, s3, s4, s5, s6, s7) p = add8 (s0, s1, s2, s3, s4, s5, s6, s7) (a, b, c_, d, e, f, g, h) := by rw [blockF, hv8, e64]
        rw [e8]
        exact ⟨rfl, HF⟩
      · skip
        have hb109f := of_decide_eq_true hb109
        refine G.yes rfl ?_
        refine G.skipK hK108 (fun _ _ h => h) ?_
        refine G.seqK fun K229 hK230 => ?_
        refine G.block ?_
        refine G.seqK fun K231 hK232 => ?_
        refine G.region ?_
        refine GL.run (j := 2) 2 [0, 4, 12, 13, 14, 92] [(0, pt q 0), (4, pt p3 0), (12, pt p38 0), (13, pt p66 0), (14, .int .i64 (i : Int)), (92, .int .i64 (i : Int))] (by kernel_rfl) rfl ?_
        refine GL.k rfl hK232 (fun _ _ h => h) ?_
        refine G.seqK fun K233 hK234 => ?_
        refine G.region ?_
        refine GL.run (j := 1) 1 [0, 4, 12, 13, 14, 92, 95] [(0, pt q 0), (4, pt p3 0), (12, pt p38 0), (13, pt p66 0), (14, .int .i64 (i : Int)), (92, .int .i64 (i : Int)), (95, pt p66 4)] (by kernel_rfl) rfl ?_
        refine GL.sem (j := 2) (H104.ld (o := 4) (ty := 60) (v := .int .u32 (e : Int)) 3 rfl (by kernel_rfl) rfl) [0, 4, 12, 13, 14, 92, 96] [(0, pt q 0), (4, pt p3 0), (12, pt p38 0), (13, pt p66 0), (14, .int .i64 (i : Int)), (92, .int .i64 (i : Int)), (96, .int .u32 (e : Int))] (by kernel_rfl) (by kernel_rfl) rfl ?_
        refine GL.run (j := 3) 1 [0, 4, 12, 13, 14, 92, 96, 97] [(0, pt q 0), (4, pt p3 0), (12, pt p38 0), (13, pt p66 0), (14, .int .i64 (i : Int)), (92, .int .i64 (i : Int)), (96, .int .u32 (e : Int)), (97, pt p66 5)] (by kernel_rfl) rfl ?_
        refine GL.sem (j := 4) (H104.ld (o := 5) (ty := 60) (v := .int .u32 (f : Int)) 3 rfl (by kernel_rfl) rfl) [0, 4, 12, 13, 14, 92, 96, 98] [(0, pt q 0), (4, pt p3 0), (12, pt p38 0), (13, pt p66 0), (14, .int .i64 (i : Int)), (92, .int .i64 (i : Int)), (96, .int .u32 (e : Int)), (98, .int .u32 (f : Int))] (by kernel_rfl) (by kernel_rfl) rfl ?_
        refine GL.run (j := 6) 2 [0, 4, 12, 13, 14, 92, 99, 100] [(0, pt q 0), (4, pt p3 0), (12, pt p38 0), (13, pt p66 0), (14, .int .i64 (i : Int)), (92, .int .i64 (i : Int)), (99, .int .u32 (Go.bits .and .u32 (e : Int) (f : Int))), (100, pt p66 4)] (by kernel_rfl) rfl ?_
        have e235 : (Go.bits .and .u32 (e : Int) (f : Int)) = (((e &&& f) : Nat) : Int) := w_and he hf
        refine GL.eq (M' := [(0, pt q 0), (4, pt p3 0), (12, pt p38 0), (13, pt p66 0), (14, .int .i64 (i : Int)), (92, .int .i64 (i : Int)), (99, .int .u32 (((e &&& f) : Nat) : Int)), (100, pt p66 4)]) (by rw [e235]) ?_
        clear e235
        refine GL.sem (j := 7) (H104.ld (o := 4) (ty := 60) (v := .int .u32 (e : Int)) 3 rfl (by kernel_rfl) rfl) [0, 4, 12, 13, 14, 92, 99, 101] [(0, pt q 0), (4, pt p3 0), (12, pt p38 0), (13, pt p66 0), (14, .int .i64 (i : Int)), (92, .int .i64 (i : Int)), (99, .int .u32 (((e &&& f) : Nat) : Int)), (101, .int .u32 (e : Int))] (by kernel_rfl) (by kernel_rfl) rfl ?_
        refine GL.run (j := 9) 2 [0, 4, 12, 13, 14, 92, 99, 102, 103] [(0, pt q 0), (4, pt p3 0), (12, pt p38 0), (13, pt p66 0), (14, .int .i64 (i : Int)), (92, .int .i64 (i : Int)), (99, .int .u32 (((e &&& f) : Nat) : Int)), (102, .int .u32 (Go.bits .xor .u32 4294967295 (e : Int))), (103, pt p66 6)] (by kernel_rfl) rfl ?_
        have e236 : (Go.bits .xor .u32 4294967295 (e : Int)) = (((4294967295 ^^^ e) : Nat) : Int) := w_xor (by decide) he
        refine GL.eq (M' := [(0, pt q 0), (4, pt p3 0), (12, pt p38 0), (13, pt p66 0), (14, .int .i64 (i : Int)), (92, .int .i64 (i : Int)), (99, .int .u32 (((e &&& f) : Nat) : Int)), (102, .int .u32 (((4294967295 ^^^ e) : Nat) : Int)), (103, pt p66 6)]) (by rw [e236]) ?_
        clear e236
        refine GL.sem (j := 10) (H104.ld (o := 6) (ty := 60) (v := .int .u32 (g : Int)) 3 rfl (by kernel_rfl) rfl) [0, 4, 12, 13, 14, 92, 99, 102, 104] [(0, pt q 0), (4, pt p3 0), (12, pt p38 0), (13, pt p66 0), (14, .int .i64 (i : Int)), (92, .int .i64 (i : Int)), (99, .int .u32 (((e &&& f) : Nat) : Int)), (102, .int .u32 (((4294967295 ^^^ e) : Nat) : Int)), (104, .int .u32 (g : Int))] (by kernel_rfl) (by kernel_rfl) rfl ?_
        refine GL.run (j := 13) 3 [0, 4, 12, 13, 14, 15, 92] [(0, pt q 0), (4, pt p3 0), (12, pt p38 0), (13, pt p66 0), (14, .int .i64 (i : Int)), (15, .int .u32 (Go.bits .xor .u32 (((e &&& f) : Nat) : Int) (Go.bits .and .u32 (((4294967295 ^^^ e) : Nat) : Int) (g : Int)))), (92, .int .i64 (i : Int))] (by kernel_rfl) rfl ?_
        have e237 : (Go.bits .and .u32 (((4294967295 ^^^ e) : Nat) : Int) (g : Int)) = ((((4294967295 ^^^ e) &&& g) : Nat) : Int) := w_and (xor_lt32 (by decide) he) hg
        have e238 : (Go.bits .xor .u32 (((e &&& f) : Nat) : Int) ((((4294967295 ^^^ e) &&& g) : Nat) : Int)) = (((chf e f g) : Nat) : Int) := w_xor (and_lt32 he) (and_lt32 (xor_lt32 (by decide) he))
        refine GL.eq (M' := [(0, pt q 0), (4, pt p3 0), (12, pt p38 0), (13, pt p66 0), (14, .int .i64 (i : Int)), (15, .int .u32 (((chf e f g) : Nat) : Int)), (92, .int .i64 (i : Int))]) (by rw [e237, e238]) ?_
        clear e237 e238
        refine GL.k rfl hK234 (fun _ _ h => h) ?_
        refine G.seqK fun K239 hK240 => ?_
        refine G.region ?_
        refine GL.run (j := 1) 1 [0, 4, 12, 13, 14, 15, 92, 107] [(0, pt q 0), (4, pt p3 0), (12, pt p38 0), (13, pt p66 0), (14, .int .i64 (i : Int)), (15, .int .u32 (((chf e f g) : Nat) : Int)), (92, .int .i64 (i : Int)), (107, pt p66 0)] (by kernel_rfl) rfl ?_
        refine GL.sem (j := 2) (H104.ld (o := 0) (ty := 60) (v := .int .u32 (a : Int)) 3 rfl (by kernel_rfl) rfl) [0, 4, 12, 13, 14, 15, 92, 108] [(0, pt q 0), (4, pt p3 0), (12, pt p38 0), (13, pt p66 0), (14, .int .i64 (i : Int)), (15, .int .u32 (((chf e f g) : Nat) : Int)), (92, .int .i64 (i : Int)), (108, .int .u32 (a : Int))] (by kernel_rfl) (by kernel_rfl) rfl ?_
        refine GL.run (j := 3) 1 [0, 4, 12, 13, 14, 15, 92, 108, 109] [(0, pt q 0), (4, pt p3 0), (12, pt p38 0), (13, pt p66 0), (14, .int .i64 (i : Int)), (15, .int .u32 (((chf e f g) : Nat) : Int)), (92, .int .i64 (i : Int)), (108, .int .u32 (a : Int)), (109, pt p66 1)] (by kernel_rfl) rfl ?_
        refine GL.sem (j := 4) (H104.ld (o := 1) (ty := 60) (v := .int .u32 (b : Int)) 3 rfl (by kernel_rfl) rfl) [0, 4, 12, 13, 14, 15, 92, 108, 110] [(0, pt q 0), (4, pt p3 0), (12, pt p38 0), (13, pt p66 0), (14, .int .i64 (i : Int)), (15, .int .u32 (((chf e f g) : Nat) : Int)), (92, .int .i64 (i : Int)), (108, .int .u32 (a : Int)), (110, .int .u32 (b : Int))] (by kernel_rfl) (by kernel_rfl) rfl ?_
        refine GL.run (j := 6) 2 [0, 4, 12, 13, 14, 15, 92, 111, 112] [(0, pt q 0), (4, pt p3 0), (12, pt p38 0), (13, pt p66 0), (14, .int .i64 (i : Int)), (15, .int .u32 (((chf e f g) : Nat) : Int)), (92, .int .i64 (i : Int)), (111, .int .u32 (Go.bits .and .u32 (a : Int) (b : Int))), (112, pt p66 0)] (by kernel_rfl) rfl ?_
        have e241 : (Go.bits .and .u32 (a : Int) (b : Int)) = (((a &&& b) : Nat) : Int) := w_and ha hb
        refine GL.eq (M' := [(0, pt q 0), (4, pt p3 0), (12, pt p38 0), (13, pt p66 0), (14, .int .i64 (i : Int)), (15, .int .u32 (((chf e f g) : Nat) : Int)), (92, .int .i64 (i : Int)), (111, .int .u32 (((a &&& b) : Nat) : Int)), (112, pt p66 0)]) (by rw [e241]) ?_
        clear e241
        refine GL.sem (j := 7) (H104.ld (o := 0) (ty := 60) (v := .int .u32 (a : Int)) 3 rfl (by kernel_rfl) rfl) [0, 4, 12, 13, 14, 15, 92, 111, 113] [(0, pt q 0), (4, pt p3 0), (12, pt p38 0), (13, pt p66 0), (14, .int .i64 (i : Int)), (15, .int .u32 (((chf e f g) : Nat) : Int)), (92, .int .i64 (i : Int)), (111, .int .u32 (((a &&& b) : Nat) : Int)), (113, .int .u32 (a : Int))] (by kernel_rfl) (by kernel_rfl) rfl ?_
        refine GL.run (j := 8) 1 [0, 4, 12, 13, 14, 15, 92, 111, 113, 114] [(0, pt q 0), (4, pt p3 0), (12, pt p38 0), (13, pt p66 0), (14, .int .i64 (i : Int)), (15, .int .u32 (((chf e f g) : Nat) : Int)), (92, .int .i64 (i : Int)), (111, .int .u32 (((a &&& b) : Nat) : Int)), (113, .int .u32 (a : Int)), (114, pt p66 2)] (by kernel_rfl) rfl ?_
        refine GL.sem (j := 9) (H104.ld (o := 2) (ty := 60) (v := .int .u32 (c_ : Int)) 3 rfl (by kernel_rfl) rfl) [0, 4, 12, 13, 14, 15, 92, 111, 113, 115] [(0, pt q 0), (4, pt p3 0), (12, pt p38 0), (13, pt p66 0), (14, .int .i64 (i : Int)), (15, .int .u32 (((chf e f g) : Nat) : Int)), (92, .int .i64 (i : Int)), (111, .int .u32 (((a &&& b) : Nat) : Int)), (113, .int .u32 (a : Int)), (115, .int .u32 (c_ : Int))] (by kernel_rfl) (by kernel_rfl) rfl ?_
        refine GL.run (j := 12) 3 [0, 4, 12, 13, 14, 15, 92, 117, 118] [(0, pt q 0), (4, pt p3 0), (12, pt p38 0), (13, pt p66 0), (14, .int .i64 (i : Int)), (15, .int .u32 (((chf e f g) : Nat) : Int)), (92, .int .i64 (i : Int)), (117, .int .u32 (Go.bits .xor .u32 (((a &&& b) : Nat) : Int) (Go.bits .and .u32 (a : Int) (c_ : Int)))), (118, pt p66 1)] (by kernel_rfl) rfl ?_
        have e242 : (Go.bits .and .u32 (a : Int) (c_ : Int)) = (((a &&& c_) : Nat) : Int) := w_and ha hc
        have e243 : (Go.bits .xor .u32 (((a &&& b) : Nat) : Int) (((a &&& c_) : Nat) : Int)) = ((((a &&& b) ^^^ (a &&& c_)) : Nat) : Int) := w_xor (and_lt32 ha) (and_lt32 ha)
        refine GL.eq (M' := [(0, pt q 0), (4, pt p3 0), (12, pt p38 0), (13, pt p66 0), (14, .int .i64 (i : Int)), (15, .int .u32 (((chf e f g) : Nat) : Int)), (92, .int .i64 (i : Int)), (117, .int .u32 ((((a &&& b) ^^^ (a &&& c_)) : Nat) : Int)), (118, pt p66 1)]) (by rw [e242, e243]) ?_
        clear e242 e243
        refine GL.sem (j := 13) (H104.ld (o := 1) (ty := 60) (v := .int .u32 (b : Int)) 3 rfl (by kernel_rfl) rfl) [0, 4, 12, 13, 14, 15, 92, 117, 119] [(0, pt q 0), (4, pt p3 0), (12, pt p38 0), (13, pt p66 0), (14, .int .i64 (i : Int)), (15, .int .u32 (((chf e f g) : Nat) : Int)), (92, .int .i64 (i : Int)), (117, .int .u32 ((((a &&& b) ^^^ (a &&& c_)) : Nat) : Int)), (119, .int .u32 (b : Int))] (by kernel_rfl) (by kernel_rfl) rfl ?_
        refine GL.run (j := 14) 1 [0, 4, 12, 13, 14, 15, 92, 117, 119, 120] [(0, pt q 0), (4, pt p3 0), (12, pt p38 0), (13, pt p66 0), (14, .int .i64 (i : Int)), (15, .int .u32 (((chf e f g) : Nat) : Int)), (92, .int .i64 (i : Int)), (117, .int .u32 ((((a &&& b) ^^^ (a &&& c_)) : Nat) : Int)), (119, .int .u32 (b : Int)), (120, pt p66 2)] (by kernel_rfl) rfl ?_
        refine GL.sem (j := 15) (H104.ld (o := 2) (ty := 60) (v := .int .u32 (c_ : Int)) 3 rfl (by kernel_rfl) rfl) [0, 4, 12, 13, 14, 15, 92, 117, 119, 121] [(0, pt q 0), (4, pt p3 0), (12, pt p38 0), (13, pt p66 0), (14, .int .i64 (i : Int)), (15, .int .u32 (((chf e f g) : Nat) : Int)), (92, .int .i64 (i : Int)), (117, .int .u32 ((((a &&& b) ^^^ (a &&& c_)) : Nat) : Int)), (119, .int .u32 (b : Int)), (121, .int .u32 (c_ : Int))] (by kernel_rfl) (by kernel_rfl) rfl ?_
        refine GL.run (j := 18) 3 [0, 4, 12, 13, 14, 15, 16, 92] [(0, pt q 0), (4, pt p3 0), (12, pt p38 0), (13, pt p66 0), (14, .int .i64 (i : Int)), (15, .int .u32 (((chf e f g) : Nat) : Int)), (16, .int .u32 (Go.bits .xor .u32 ((((a &&& b) ^^^ (a &&& c_)) : Nat) : Int) (Go.bits .and .u32 (b : Int) (c_ : Int)))), (92, .int .i64 (i : Int))] (by kernel_rfl) rfl ?_
        have e244 : (Go.bits .and .u32 (b : Int) (c_ : Int)) = (((b &&& c_) : Nat) : Int) := w_and hb hc
        have e245 : (Go.bits .xor .u32 ((((a &&& b) ^^^ (a &&& c_)) : Nat) : Int) (((b &&& c_) : Nat) : Int)) = (((majf a b c_) : Nat) : Int) := w_xor (xor_lt32 (and_lt32 ha) (and_lt32 ha)) (and_lt32 hb)
        refine GL.eq (M' := [(0, pt q 0), (4, pt p3 0), (12, pt p38 0), (13, pt p66 0), (14, .int .i64 (i : Int)), (15, .int .u32 (((chf e f g) : Nat) : Int)), (16, .int .u32 (((majf a b c_) : Nat) : Int)), (92, .int .i64 (i : Int))]) (by rw [e244, e245]) ?_
        clear e244 e245
        refine GL.k rfl hK240 (fun _ _ h => h) ?_
        refine G.seqK fun K246 hK247 => ?_
        refine G.heldP (Hp w S [.blk q (c8 s0 s1 s2 s3 s4 s5 s6 s7) 62, .blk p3 (u32s (wsP p 64)) 71, .blk p38 (u32s KT) 71, .blk p66 (c8 a b c_ d e f g h) 62]) (by kernel_rfl) (by kernel_rfl) (fun c_ a_ d_ v_ w_ h_ => hPan c_ a_ d_ v_ w_ h_) ?_
        have H248 := H104.drew
        generalize ({ w102 with drawn := w102.drawn + 1 } : World) = w249 at H248 ⊢
        have hS250 : Hp w S [.blk q (c8 s0 s1 s2 s3 s4 s5 s6 s7) 62, .blk p3 (u32s (wsP p 64)) 71, .blk p38 (u32s KT) 71, .blk p66 (c8 a b c_ d e f g h) 62] w249 := H248.sub (List.Sublist.cons_cons _ (List.Sublist.cons_cons _ (List.Sublist.cons_cons _ (List.Sublist.cons_cons _ (List.Sublist.slnil)))))
        refine GP.run [0] [0, 4, 12, 13, 14, 15, 16, 92, 124] [(0, pt q 0), (4, pt p3 0), (12, pt p38 0), (13, pt p66 0), (14, .int .i64 (i : Int)), (15, .int .u32 (((chf e f g) : Nat) : Int)), (16, .int .u32 (((majf a b c_) : Nat) : Int)), (92, .int .i64 (i : Int)), (124, pt p66 7)] [0] (by kernel_rfl) rfl hS250 ?_
        refine GP.sem 1 (fun w_ H_ => H_.ld (o := 7) (ty := 60) (v := .int .u32 (h : Int)) 3 rfl (by kernel_rfl) rfl) [0, 4, 12, 13, 14, 15, 16, 92, 125] [(0, pt q 0), (4, pt p3 0), (12, pt p38 0), (13, pt p66 0), (14, .int .i64 (i : Int)), (15, .int .u32 (((chf e f g) : Nat) : Int)), (16, .int .u32 (((majf a b c_) : Nat) : Int)), (92, .int .i64 (i : Int)), (125, .int .u32 (h : Int))] (by kernel_rfl) (by kernel_rfl) (by kernel_rfl) hS250 ?_
        refine GP.run [2] [0, 4, 12, 13, 14, 15, 16, 92, 125, 126] [(0, pt q 0), (4, pt p3 0), (12, pt p38 0), (13, pt p66 0), (14, .int .i64 (i : Int)), (15, .int .u32 (((chf e f g) : Nat) : Int)), (16, .int .u32 (((majf a b c_) : Nat) : Int)), (92, .int .i64 (i : Int)), (125, .int .u32 (h : Int)), (126, pt p66 4)] [0, 1, 2] (by kernel_rfl) rfl hS250 ?_
        refine GP.sem 3 (fun w_ H_ => H_.ld (o := 4) (ty := 60) (v := .int .u32 (e : Int)) 3 rfl (by kernel_rfl) rfl) [0, 4, 12, 13, 14, 15, 16, 92, 125, 127] [(0, pt q 0), (4, pt p3 0), (12, pt p38 0), (13, pt p66 0), (14, .int .i64 (i : Int)), (15, .int .u32 (((chf e f g) : Nat) : Int)), (16, .int .u32 (((majf a b c_) : Nat) : Int)), (92, .int .i64 (i : Int)), (125, .int .u32 (h : Int)), (127, .int .u32 (e : Int))] (by kernel_rfl) (by kernel_rfl) (by kernel_rfl) hS250 ?_
        refine GP.run [5] [0, 4, 12, 13, 14, 15, 16, 92, 125, 127, 129] [(0, pt q 0), (4, pt p3 0), (12, pt p38 0), (13, pt p66 0), (14, .int .i64 (i : Int)), (15, .int .u32 (((chf e f g) : Nat) : Int)), (16, .int .u32 (((majf a b c_) : Nat) : Int)), (92, .int .i64 (i : Int)), (125, .int .u32 (h : Int)), (127, .int .u32 (e : Int)), (129, pt p66 4)] [0, 1, 2, 3, 5] (by kernel_rfl) rfl hS250 ?_
        refine GP.sem 6 (fun w_ H_ => H_.ld (o := 4) (ty := 60) (v := .int .u32 (e : Int)) 3 rfl (by kernel_rfl) rfl) [0, 4, 12, 13, 14, 15, 16, 92, 125, 127, 130] [(0, pt q 0), (4, pt p3 0), (12, pt p38 0), (13, pt p66 0), (14, .int .i64 (i : Int)), (15, .int .u32 (((chf e f g) : Nat) : Int)), (16, .int .u32 (((majf a b c_) : Nat) : Int)), (92, .int .i64 (i : Int)), (125, .int .u32 (h : Int)), (127, .int .u32 (e : Int)), (130, .int .u32 (e : Int))] (by kernel_rfl) (by kernel_rfl) (by kernel_rfl) hS250 ?_
        refine GP.run [9] [0, 4, 12, 13, 14, 15, 16, 92, 125, 127, 130, 133] [(0, pt q 0), (4, pt p3 0), (12, pt p38 0), (13, pt p66 0), (14, .int .i64 (i : Int)), (15, .int .u32 (((chf e f g) : Nat) : Int)), (16, .int .u32 (((majf a b c_) : Nat) : Int)), (92, .int .i64 (i : Int)), (125, .int .u32 (h : Int)), (127, .int .u32 (e : Int)), (130, .int .u32 (e : Int)), (133, pt p66 4)] [0, 1, 2, 3, 5, 6, 9] (by kernel_rfl) rfl hS250 ?_
        refine GP.sem 10 (fun w_ H_ => H_.ld (o := 4) (ty := 60) (v := .int .u32 (e : Int)) 3 rfl (by kernel_rfl) rfl) [0, 4, 12, 13, 14, 15, 16, 92, 125, 127, 130, 134] [(0, pt q 0), (4, pt p3 0), (12, pt p38 0), (13, pt p66 0), (14, .int .i64 (i : Int)), (15, .int .u32 (((chf e f g) : Nat) : Int)), (16, .int .u32 (((majf a b c_) : Nat) : Int)), (92, .int .i64 (i : Int)), (125, .int .u32 (h : Int)), (127, .int .u32 (e : Int)), (130, .int .u32 (e : Int)), (134, .int .u32 (e : Int))] (by kernel_rfl) (by kernel_rfl) (by kernel_rfl) hS250 ?_
        refine GP.run [14, 16] [0, 4, 12, 13, 14, 16, 92, 125, 127, 130, 134, 138, 140] [(0, pt q 0), (4, pt p3 0), (12, pt p38 0), (13, pt p66 0), (14, .int .i64 (i : Int)), (16, .int .u32 (((majf a b c_) : Nat) : Int)), (92, .int .i64 (i : Int)), (125, .int .u32 (h : Int)), (127, .int .u32 (e : Int)), (130, .int .u32 (e : Int)), (134, .int .u32 (e : Int)), (138, .int .u32 (((chf e f g) : Nat) : Int)), (140, .int .i64 (i : Int))] [0, 1, 2, 3, 5, 6, 9, 10, 14, 16] (by kernel_rfl) rfl hS250 ?_
        refine GP.sem 17 (fun w_ H_ => run_idxArr (P := Try.prog) (k := .i64) (t := 71) (len := 64) (sz := 1) (b := p38) (o := 0) (j := i) (by kernel_rfl) rfl (by omega)) [0, 4, 12, 13, 14, 16, 92, 125, 127, 130, 134, 138, 141] [(0, pt q 0), (4, pt p3 0), (12, pt p38 0), (13, pt p66 0), (14, .int .i64 (i : Int)), (16, .int .u32 (((majf a b c_) : Nat) : Int)), (92, .int .i64 (i : Int)), (125, .int .u32 (h : Int)), (127, .int .u32 (e : Int)), (130, .int .u32 (e : Int)), (134, .int .u32 (e : Int)), (138, .int .u32 (((chf e f g) : Nat) : Int)), (141, pt p38 (0 + i * 1))] (by kernel_rfl) (by kernel_rfl) (by kernel_rfl) hS250 ?_
        refine GP.sem 18 (fun w_ H_ => H_.ld (o := (0 + i * 1)) (ty := 60) (v := .int .u32 (((KT.getD i 0) : Nat) : Int)) 2 rfl (by kernel_rfl) (by rw [show (0 + i * 1) = i by omega]; exact u32s_at (getD_at (by rw [KT_length]; omega)))) [0, 4, 12, 13, 14, 16, 92, 125, 127, 130, 134, 138, 142] [(0, pt q 0), (4, pt p3 0), (12, pt p38 0), (13, pt p66 0), (14, .int .i64 (i : Int)), (16, .int .u32 (((majf a b c_) : Nat) : Int)), (92, .int .i64 (i : Int)), (125, .int .u32 (h : Int)), (127, .int .u32 (e : Int)), (130, .int .u32 (e : Int)), (134, .int .u32 (e : Int)), (138, .int .u32 (((chf e f g) : Nat) : Int)), (142, .int .u32 (((KT.getD i 0) : Nat) : Int))] (by kernel_rfl) (by kernel_rfl) (by kernel_rfl) hS250 ?_
        refine GP.run [20] [0, 4, 12, 13, 16, 92, 125, 127, 130, 134, 138, 142, 144] [(0, pt q 0), (4, pt p3 0), (12, pt p38 0), (13, pt p66 0), (16, .int .u32 (((majf a b c_) : Nat) : Int)), (92, .int .i64 (i : Int)), (125, .int .u32 (h : Int)), (127, .int .u32 (e : Int)), (130, .int .u32 (e : Int)), (134, .int .u32 (e : Int)), (138, .int .u32 (((chf e f g) : Nat) : Int)), (142, .int .u32 (((KT.getD i 0) : Nat) : Int)), (144, .int .i64 (i : Int))] [0, 1, 2, 3, 5, 6, 9, 10, 14, 16, 17, 18, 20] (by kernel_rfl) rfl hS250 ?_
        refine GP.sem 21 (fun w_ H_ => run_idxArr (P := Try.prog) (k := .i64) (t := 71) (len := 64) (sz := 1) (b := p3) (o := 0) (j := i) (by kernel_rfl) rfl (by omega)) [0, 4, 12, 13, 16, 92, 125, 127, 130, 134, 138, 142, 145] [(0, pt q 0), (4, pt p3 0), (12, pt p38 0), (13, pt p66 0), (16, .int .u32 (((majf a b c_) : Nat) : Int)), (92, .int .i64 (i : Int)), (125, .int .u32 (h : Int)), (127, .int .u32 (e : Int)), (130, .int .u32 (e : Int)), (134, .int .u32 (e : Int)), (138, .int .u32 (((chf e f g) : Nat) : Int)), (142, .int .u32 (((KT.getD i 0) : Nat) : Int)), (145, pt p3 (0 + i * 1))] (by kernel_rfl) (by kernel_rfl) (by kernel_rfl) hS250 ?_
        refine GP.sem 22 (fun w_ H_ => H_.ld (o := (0 + i * 1)) (ty := 60) (v := .int .u32 ((((wsN p 64).getD i 0) : Nat) : Int)) 1 rfl (by kernel_rfl) (by rw [show (0 + i * 1) = i by omega]; exact u32s_at (wsP_at (by omega) (by omega)))) [0, 4, 12, 13, 16, 92, 125, 127, 130, 134, 138, 142, 146] [(0, pt q 0), (4, pt p3 0), (12, pt p38 0), (13, pt p66 0), (16, .int .u32 (((majf a b c_) : Nat) : Int)), (92, .int .i64 (i : Int)), (125, .int .u32 (h : Int)), (127, .int .u32 (e : Int)), (130, .int .u32 (e : Int)), (134, .int .u32 (e : Int)), (138, .int .u32 (((chf e f g) : Nat) : Int)), (142, .int .u32 (((KT.getD i 0) : Nat) : Int)), (146, .int .u32 ((((wsN p 64).getD i 0) : Nat) : Int))] (by kernel_rfl) (by kernel_rfl) (by kernel_rfl) hS250 ?_
        refine GP.call 4 (Turn6_calls e he w249) (by kernel_rfl) (by kernel_rfl) (fun e_ w251 hR => ?_)
        obtain ⟨rfl, H253⟩ := hR
        have H252 : Hp w S [.blk q (c8 s0 s1 s2 s3 s4 s5 s6 s7) 62, .blk p3 (u32s (wsP p 64)) 71, .blk p38 (u32s KT) 71, .blk p66 (c8 a b c_ d e f g h) 62] w251 := H248.callNil H253
        have hS254 : Hp w S [.blk q (c8 s0 s1 s2 s3 s4 s5 s6 s7) 62, .blk p3 (u32s (wsP p 64)) 71, .blk p38 (u32s KT) 71, .blk p66 (c8 a b c_ d e f g h) 62] w251 := H252.sub (List.Sublist.cons_cons _ (List.Sublist.cons_cons _ (List.Sublist.cons_cons _ (List.Sublist.cons_cons _ (List.Sublist.slnil)))))
        refine ⟨_, rfl, hS254, [0, 4, 12, 13, 16, 92, 125, 128, 130, 134, 138, 142, 146], [(0, pt q 0), (4, pt p3 0), (12, pt p38 0), (13, pt p66 0), (16, .int .u32 (((majf a b c_) : Nat) : Int)), (92, .int .i64 (i : Int)), (125, .int .u32 (h : Int)), (128, .int .u32 (((rt e 6) : Nat) : Int)), (130, .int .u32 (e : Int)), (134, .int .u32 (e : Int)), (138, .int .u32 (((chf e f g) : Nat) : Int)), (142, .int .u32 (((KT.getD i 0) : Nat) : Int)), (146, .int .u32 ((((wsN p 64).getD i 0) : Nat) : Int))], by kernel_rfl, ?_⟩
        refine GP.call 7 (Turn11_calls e he w251) (by kernel_rfl) (by kernel_rfl) (fun e_ w255 hR => ?_)
        obtain ⟨rfl, H257⟩ := hR
        have H256 : Hp w S [.blk q (c8 s0 s1 s2 s3 s4 s5 s6 s7) 62, .blk p3 (u32s (wsP p 64)) 71, .blk p38 (u32s KT) 71, .blk p66 (c8 a b c_ d e f g h) 62] w255 := H252.callNil H257
        have hS258 : Hp w S [.blk q (c8 s0 s1 s2 s3 s4 s5 s6 s7) 62, .blk p3 (u32s (wsP p 64)) 71, .blk p38 (u32s KT) 71, .blk p66 (c8 a b c_ d e f g h) 62] w255 := H256.sub (List.Sublist.cons_cons _ (List.Sublist.cons_cons _ (List.Sublist.cons_cons _ (List.Sublist.cons_cons _ (List.Sublist.slnil)))))
        refine ⟨_, rfl, hS258, [0, 4, 12, 13, 16, 92, 125, 128, 131, 134, 138, 142, 146], [(0, pt q 0), (4, pt p3 0), (12, pt p38 0), (13, pt p66 0), (16, .int .u32 (((majf a b c_) : Nat) : Int)), (92, .int .i64 (i : Int)), (125, .int .u32 (h : Int)), (128, .int .u32 (((rt e 6) : Nat) : Int)), (131, .int .u32 (((rt e 11) : Nat) : Int)), (134, .int .u32 (e : Int)), (138, .int .u32 (((chf e f g) : Nat) : Int)), (142, .int .u32 (((KT.getD i 0) : Nat) : Int)), (146, .int .u32 ((((wsN p 64).getD i 0) : Nat) : Int))], by kernel_rfl, ?_⟩
        refine GP.run [8] [0, 4, 12, 13, 16, 92, 125, 132, 134, 138, 142, 146] [(0, pt q 0), (4, pt p3 0), (12, pt p38 0), (13, pt p66 0), (16, .int .u32 (((majf a b c_) : Nat) : Int)), (92, .int .i64 (i : Int)), (125, .int .u32 (h : Int)), (132, .int .u32 (Go.bits .xor .u32 (((rt e 6) : Nat) : Int) (((rt e 11) : Nat) : Int))), (134, .int .u32 (e : Int)), (138, .int .u32 (((chf e f g) : Nat) : Int)), (142, .int .u32 (((KT.getD i 0) : Nat) : Int)), (146, .int .u32 ((((wsN p 64).getD i 0) : Nat) : Int))] [0, 1, 2, 3, 5, 6, 9, 10, 14, 16, 17, 18, 20, 21, 22, 4, 7, 8] (by kernel_rfl) rfl hS258 ?_
        have e259 : (Go.bits .xor .u32 (((rt e 6) : Nat) : Int) (((rt e 11) : Nat) : Int)) = ((((rt e 6) ^^^ (rt e 11)) : Nat) : Int) := w_xor (rt_lt he) (rt_lt he)
        refine GP.eq (M' := [(0, pt q 0), (4, pt p3 0), (12, pt p38 0), (13, pt p66 0), (16, .int .u32 (((majf a b c_) : Nat) : Int)), (92, .int .i64 (i : Int)), (125, .int .u32 (h : Int)), (132, .int .u32 ((((rt e 6) ^^^ (rt e 11)) : Nat) : Int)), (134, .int .u32 (e : Int)), (138, .int .u32 (((chf e f g) : Nat) : Int)), (142, .int .u32 (((KT.getD i 0) : Nat) : Int)), (146, .int .u32 ((((wsN p 64).getD i 0) : Nat) : Int))]) (by rw [e259]) ?_
        clear e259
        refine GP.call 11 (Turn25_calls e he w255) (by kernel_rfl) (by kernel_rfl) (fun e_ w260 hR => ?_)
        obtain ⟨rfl, H262⟩ := hR
        have H261 : Hp w S [.blk q (c8 s0 s1 s2 s3 s4 s5 s6 s7) 62, .blk p3 (u32s (wsP p 64)) 71, .blk p38 (u32s KT) 71, .blk p66 (c8 a b c_ d e f g h) 62] w260 := H256.callNil H262
        have hS263 : Hp w S [.blk q (c8 s0 s1 s2 s3 s4 s5 s6 s7) 62, .blk p3 (u32s (wsP p 64)) 71, .blk p38 (u32s KT) 71, .blk p66 (c8 a b c_ d e f g h) 62] w260 := H261.sub (List.Sublist.cons_cons _ (List.Sublist.cons_cons _ (List.Sublist.cons_cons _ (List.Sublist.cons_cons _ (List.Sublist.slnil)))))
        refine ⟨_, rfl, hS263, [0, 4, 12, 13, 16, 92, 125, 132, 135, 138, 142, 146], [(0, pt q 0), (4, pt p3 0), (12, pt p38 0), (13, pt p66 0), (16, .int .u32 (((majf a b c_) : Nat) : Int)), (92, .int .i64 (i : Int)), (125, .int .u32 (h : Int)), (132, .int .u32 ((((rt e 6) ^^^ (rt e 11)) : Nat) : Int)), (135, .int .u32 (((rt e 25) : Nat) : Int)), (138, .int .u32 (((chf e f g) : Nat) : Int)), (142, .int .u32 (((KT.getD i 0) : Nat) : Int)), (146, .int .u32 ((((wsN p 64).getD i 0) : Nat) : Int))], by kernel_rfl, ?_⟩
        refine GP.run [12, 13, 15, 19, 23, 24] [0, 4, 12, 13, 16, 17, 92] [(0, pt q 0), (4, pt p3 0), (12, pt p38 0), (13, pt p66 0), (16, .int .u32 (((majf a b c_) : Nat) : Int)), (17, .int .u32 (IntKind.u32.wrap ((IntKind.u32.wrap ((IntKind.u32.wrap ((IntKind.u32.wrap ((h : Int) + (Go.bits .xor .u32 ((((rt e 6) ^^^ (rt e 11)) : Nat) : Int) (((rt e 25) : Nat) : Int)))) + (((chf e f g) : Nat) : Int))) + (((KT.getD i 0) : Nat) : Int))) + ((((wsN p 64).getD i 0) : Nat) : Int)))), (92, .int .i64 (i : Int))] [0, 1, 2, 3, 5, 6, 9, 10, 14, 16, 17, 18, 20, 21, 22, 4, 7, 8, 11, 12, 13, 15, 19, 23, 24] (by kernel_rfl) rfl hS263 ?_
        have e264 : (Go.bits .xor .u32 ((((rt e 6) ^^^ (rt e 11)) : Nat) : Int) (((rt e 25) : Nat) : Int)) = (((bsg1 e) : Nat) : Int) := w_xor (xor_lt32 (rt_lt he) (rt_lt he)) (rt_lt he)
        have e265 : (IntKind.u32.wrap ((h : Int) + (((bsg1 e) : Nat) : Int))) = (((h + (bsg1 e)) % W32 : Nat) : Int) := w_add _ _
        have e266 : (IntKind.u32.wrap ((((h + (bsg1 e)) % W32 : Nat) : Int) + (((chf e f g) : Nat) : Int))) = (((h + (bsg1 e) + (chf e f g)) % W32 : Nat) : Int) := w_addm _ _
        have e267 : (IntKind.u32.wrap ((((h + (bsg1 e) + (chf e f g)) % W32 : Nat) : Int) + (((KT.getD i 0) : Nat) : Int))) = (((h + (bsg1 e) + (chf e f g) + (KT.getD i 0)) % W32 : Nat) : Int) := w_addm _ _
        have e268 : (IntKind.u32.wrap ((((h + (bsg1 e) + (chf e f g) + (KT.getD i 0)) % W32 : Nat) : Int) + ((((wsN p 64).getD i 0) : Nat) : Int))) = (((h + (bsg1 e) + (chf e f g) + (KT.getD i 0) + ((wsN p 64).getD i 0)) % W32 : Nat) : Int) := w_addm _ _
        refine GP.eq (M' := [(0, pt q 0), (4, pt p3 0), (12, pt p38 0), (13, pt p66 0), (16, .int .u32 (((majf a b c_) : Nat) : Int)), (17, .int .u32 (((h + (bsg1 e) + (chf e f g) + (KT.getD i 0) + ((wsN p 64).getD i 0)) % W32 : Nat) : Int)), (92, .int .i64 (i : Int))]) (by rw [e264, e265, e266, e267, e268]) ?_
        clear e264 e265 e266 e267 e268
        refine GP.k (by kernel_rfl) hK247 (fun _ _ h => h) ?_
        refine G.seqK fun K269 hK270 => ?_
        refine G.heldP (Hp w S [.blk q (c8 s0 s1 s2 s3 s4 s5 s6 s7) 62, .blk p3 (u32s (wsP p 64)) 71, .blk p38 (u32s KT) 71, .blk p66 (c8 a b c_ d e f g h) 62]) (by kernel_rfl) (by kernel_rfl) (fun c_ a_ d_ v_ w_ h_ => hPan c_ a_ d_ v_ w_ h_) ?_
        have H271 := H261.drew
        generalize ({ w260 with drawn := w260.drawn + 1 } : World) = w272 at H271 ⊢
        have hS273 : Hp w S [.blk q (c8 s0 s1 s2 s3 s4 s5 s6 s7) 62, .blk p3 (u32s (wsP p 64)) 71, .blk p38 (u32s KT) 71, .blk p66 (c8 a b c_ d e f g h) 62] w272 := H271.sub (List.Sublist.cons_cons _ (List.Sublist.cons_cons _ (List.Sublist.cons_cons _ (List.Sublist.cons_cons _ (List.Sublist.slnil)))))
        refine GP.run [0] [0, 4, 12, 13, 16, 17, 92, 148] [(0, pt q 0), (4, pt p3 0), (12, pt p38 0), (13, pt p66 0), (16, .int .u32 (((majf a b c_) : Nat) : Int)), (17, .int .u32 (((h + (bsg1 e) + (chf e f g) + (KT.getD i 0) + ((wsN p 64).getD i 0)) % W32 : Nat) : Int)), (92, .int .i64 (i : Int)), (148, pt p66 0)] [0] (by kernel_rfl) rfl hS273 ?_
        refine GP.sem 1 (fun w_ H_ => H_.ld (o := 0) (ty := 60) (v := .int .u32 (a : Int)) 3 rfl (by kernel_rfl) rfl) [0, 4, 12, 13, 16, 17, 92, 149] [(0, pt q 0), (4, pt p3 0), (12, pt p38 0), (13, pt p66 0), (16, .int .u32 (((majf a b c_) : Nat) : Int)), (17, .int .u32 (((h + (bsg1 e) + (chf e f g) + (KT.getD i 0) + ((wsN p 64).getD i 0)) % W32 : Nat) : Int)), (92, .int .i64 (i : Int)), (149, .int .u32 (a : Int))] (by kernel_rfl) (by kernel_rfl) (by kernel_rfl) hS273 ?_
        refine GP.run [3] [0, 4, 12, 13, 16, 17, 92, 149, 151] [(0, pt q 0), (4, pt p3 0), (12, pt p38 0), (13, pt p66 0), (16, .int .u32 (((majf a b c_) : Nat) : Int)), (17, .int .u32 (((h + (bsg1 e) + (chf e f g) + (KT.getD i 0) + ((wsN p 64).getD i 0)) % W32 : Nat) : Int)), (92, .int .i64 (i : Int)), (149, .int .u32 (a : Int)), (151, pt p66 0)] [0, 1, 3] (by kernel_rfl) rfl hS273 ?_
        refine GP.sem 4 (fun w_ H_ => H_.ld (o := 0) (ty := 60) (v := .int .u32 (a : Int)) 3 rfl (by kernel_rfl) rfl) [0, 4, 12, 13, 16, 17, 92, 149, 152] [(0, pt q 0), (4, pt p3 0), (12, pt p38 0), (13, pt p66 0), (16, .int .u32 (((majf a b c_) : Nat) : Int)), (17, .int .u32 (((h + (bsg1 e) + (chf e f g) + (KT.getD i 0) + ((wsN p 64).getD i 0)) % W32 : Nat) : Int)), (92, .int .i64 (i : Int)), (149, .int .u32 (a : Int)), (152, .int .u32 (a : Int))] (by kernel_rfl) (by kernel_rfl) (by kernel_rfl) hS273 ?_
        refine GP.run [7] [0, 4, 12, 13, 16, 17, 92, 149, 152, 155] [(0, pt q 0), (4, pt p3 0), (12, pt p38 0), (13, pt p66 0), (16, .int .u32 (((majf a b c_) : Nat) : Int)), (17, .int .u32 (((h + (bsg1 e) + (chf e f g) + (KT.getD i 0) + ((wsN p 64).getD i 0)) % W32 : Nat) : Int)), (92, .int .i64 (i : Int)), (149, .int .u32 (a : Int)), (152, .int .u32 (a : Int)), (155, pt p66 0)] [0, 1, 3, 4, 7] (by kernel_rfl) rfl hS273 ?_
        refine GP.sem 8 (fun w_ H_ => H_.ld (o := 0) (ty := 60) (v := .int .u32 (a : Int)) 3 rfl (by kernel_rfl) rfl) [0, 4, 12, 13, 16, 17, 92, 149, 152, 156] [(0, pt q 0), (4, pt p3 0), (12, pt p38 0), (13, pt p66 0), (16, .int .u32 (((majf a b c_) : Nat) : Int)), (17, .int .u32 (((h + (bsg1 e) + (chf e f g) + (KT.getD i 0) + ((wsN p 64).getD i 0)) % W32 : Nat) : Int)), (92, .int .i64 (i : Int)), (149, .int .u32 (a : Int)), (152, .int .u32 (a : Int)), (156, .int .u32 (a : Int))] (by kernel_rfl) (by kernel_rfl) (by kernel_rfl) hS273 ?_
        refine GP.run [11] [0, 4, 12, 13, 17, 92, 149, 152, 156, 159] [(0, pt q 0), (4, pt p3 0), (12, pt p38 0), (13, pt p66 0), (17, .int .u32 (((h + (bsg1 e) + (chf e f g) + (KT.getD i 0) + ((wsN p 64).getD i 0)) % W32 : Nat) : Int)), (92, .int .i64 (i : Int)), (149, .int .u32 (a : Int)), (152, .int .u32 (a : Int)), (156, .int .u32 (a : Int)), (159, .int .u32 (((majf a b c_) : Nat) : Int))] [0, 1, 3, 4, 7, 8, 11] (by kernel_rfl) rfl hS273 ?_
        refine GP.call 2 (Turn2_calls a ha w272) (by kernel_rfl) (by kernel_rfl) (fun e_ w274 hR => ?_)
        obtain ⟨rfl, H276⟩ := hR
        have H275 : Hp w S [.blk q (c8 s0 s1 s2 s3 s4 s5 s6 s7) 62, .blk p3 (u32s (wsP p 64)) 71, .blk p38 (u32s KT) 71, .blk p66 (c8 a b c_ d e f g h) 62] w274 := H271.callNil H276
        have hS277 : Hp w S [.blk q (c8 s0 s1 s2 s3 s4 s5 s6 s7) 62, .blk p3 (u32s (wsP p 64)) 71, .blk p38 (u32s KT) 71, .blk p66 (c8 a b c_ d e f g h) 62] w274 := H275.sub (List.Sublist.cons_cons _ (List.Sublist.cons_cons _ (List.Sublist.cons_cons _ (List.Sublist.cons_cons _ (List.Sublist.slnil)))))
        refine ⟨_, rfl, hS277, [0, 4, 12, 13, 17, 92, 150, 152, 156, 159], [(0, pt q 0), (4, pt p3 0), (12, pt p38 0), (13, pt p66 0), (17, .int .u32 (((h + (bsg1 e) + (chf e f g) + (KT.getD i 0) + ((wsN p 64).getD i 0)) % W32 : Nat) : Int)), (92, .int .i64 (i : Int)), (150, .int .u32 (((rt a 2) : Nat) : Int)), (152, .int .u32 (a : Int)), (156, .int .u32 (a : Int)), (159, .int .u32 (((majf a b c_) : Nat) : Int))], by kernel_rfl, ?_⟩
        refine GP.call 5 (Turn13_calls a ha w274) (by kernel_rfl) (by kernel_rfl) (fun e_ w278 hR => ?_)
        obtain ⟨rfl, H280⟩ := hR
        have H279 : Hp w S [.blk q (c8 s0 s1 s2 s3 s4 s5 s6 s7) 62, .blk p3 (u32s (wsP p 64)) 71, .blk p38 (u32s KT) 71, .blk p66 (c8 a b c_ d e f g h) 62] w278 := H275.callNil H280
        have hS281 : Hp w S [.blk q (c8 s0 s1 s2 s3 s4 s5 s6 s7) 62, .blk p3 (u32s (wsP p 64)) 71, .blk p38 (u32s KT) 71, .blk p66 (c8 a b c_ d e f g h) 62] w278 := H279.sub (List.Sublist.cons_cons _ (List.Sublist.cons_cons _ (List.Sublist.cons_cons _ (List.Sublist.cons_cons _ (List.Sublist.slnil)))))
        refine ⟨_, rfl, hS281, [0, 4, 12, 13, 17, 92, 150, 153, 156, 159], [(0, pt q 0), (4, pt p3 0), (12, pt p38 0), (13, pt p66 0), (17, .int .u32 (((h + (bsg1 e) + (chf e f g) + (KT.getD i 0) + ((wsN p 64).getD i 0)) % W32 : Nat) : Int)), (92, .int .i64 (i : Int)), (150, .int .u32 (((rt a 2) : Nat) : Int)), (153, .int .u32 (((rt a 13) : Nat) : Int)), (156, .int .u32 (a : Int)), (159, .int .u32 (((majf a b c_) : Nat) : Int))], by kernel_rfl, ?_⟩
        refine GP.run [6] [0, 4, 12, 13, 17, 92, 154, 156, 159] [(0, pt q 0), (4, pt p3 0), (12, pt p38 0), (13, pt p66 0), (17, .int .u32 (((h + (bsg1 e) + (chf e f g) + (KT.getD i 0) + ((wsN p 64).getD i 0)) % W32 : Nat) : Int)), (92, .int .i64 (i : Int)), (154, .int .u32 (Go.bits .xor .u32 (((rt a 2) : Nat) : Int) (((rt a 13) : Nat) : Int))), (156, .int .u32 (a : Int)), (159, .int .u32 (((majf a b c_) : Nat) : Int))] [0, 1, 3, 4, 7, 8, 11, 2, 5, 6] (by kernel_rfl) rfl hS281 ?_
        have e282 : (Go.bits .xor .u32 (((rt a 2) : Nat) : Int) (((rt a 13) : Nat) : Int)) = ((((rt a 2) ^^^ (rt a 13)) : Nat) : Int) := w_xor (rt_lt ha) (rt_lt ha)
        refine GP.eq (M' := [(0, pt q 0), (4, pt p3 0), (12, pt p38 0), (13, pt p66 0), (17, .int .u32 (((h + (bsg1 e) + (chf e f g) + (KT.getD i 0) + ((wsN p 64).getD i 0)) % W32 : Nat) : Int)), (92, .int .i64 (i : Int)), (154, .int .u32 ((((rt a 2) ^^^ (rt a 13)) : Nat) : Int)), (156, .int .u32 (a : Int)), (159, .int .u32 (((majf a b c_) : Nat) : Int))]) (by rw [e282]) ?_
        clear e282
        refine GP.call 9 (Turn22_calls a ha w278) (by kernel_rfl) (by kernel_rfl) (fun e_ w283 hR => ?_)
        obtain ⟨rfl, H285⟩ := hR
        have H284 : Hp w S [.blk q (c8 s0 s1 s2 s3 s4 s5 s6 s7) 62, .blk p3 (u32s (wsP p 64)) 71, .blk p38 (u32s KT) 71, .blk p66 (c8 a b c_ d e f g h) 62] w283 := H279.callNil H285
        have hS286 : Hp w S [.blk q (c8 s0 s1 s2 s3 s4 s5 s6 s7) 62, .blk p3 (u32s (wsP p 64)) 71, .blk p38 (u32s KT) 71, .blk p66 (c8 a b c_ d e f g h) 62] w283 := H284.sub (List.Sublist.cons_cons _ (List.Sublist.cons_cons _ (List.Sublist.cons_cons _ (List.Sublist.cons_cons _ (List.Sublist.slnil)))))
        refine ⟨_, rfl, hS286, [0, 4, 12, 13, 17, 92, 154, 157, 159], [(0, pt q 0), (4, pt p3 0), (12, pt p38 0), (13, pt p66 0), (17, .int .u32 (((h + (bsg1 e) + (chf e f g) + (KT.getD i 0) + ((wsN p 64).getD i 0)) % W32 : Nat) : Int)), (92, .int .i64 (i : Int)), (154, .int .u32 ((((rt a 2) ^^^ (rt a 13)) : Nat) : Int)), (157, .int .u32 (((rt a 22) : Nat) : Int)), (159, .int .u32 (((majf a b c_) : Nat) : Int))], by kernel_rfl, ?_⟩
        refine GP.run [10, 12, 13] [0, 4, 12, 13, 17, 18, 92] [(0, pt q 0), (4, pt p3 0), (12, pt p38 0), (13, pt p66 0), (17, .int .u32 (((h + (bsg1 e) + (chf e f g) + (KT.getD i 0) + ((wsN p 64).getD i 0)) % W32 : Nat) : Int)), (18, .int .u32 (IntKind.u32.wrap ((Go.bits .xor .u32 ((((rt a 2) ^^^ (rt a 13)) : Nat) : Int) (((rt a 22) : Nat) : Int)) + (((majf a b c_) : Nat) : Int)))), (92, .int .i64 (i : Int))] [0, 1, 3, 4, 7, 8, 11, 2, 5, 6, 9, 10, 12, 13] (by kernel_rfl) rfl hS286 ?_
        have e287 : (Go.bits .xor .u32 ((((rt a 2) ^^^ (rt a 13)) : Nat) : Int) (((rt a 22) : Nat) : Int)) = (((bsg0 a) : Nat) : Int) := w_xor (xor_lt32 (rt_lt ha) (rt_lt ha)) (rt_lt ha)
        have e288 : (IntKind.u32.wrap ((((bsg0 a) : Nat) : Int) + (((majf a b c_) : Nat) : Int))) = ((((bsg0 a) + (majf a b c_)) % W32 : Nat) : Int) := w_add _ _
        refine GP.eq (M' := [(0, pt q 0), (4, pt p3 0), (12, pt p38 0), (13, pt p66 0), (17, .int .u32 (((h + (bsg1 e) + (chf e f g) + (KT.getD i 0) + ((wsN p 64).getD i 0)) % W32 : Nat) : Int)), (18, .int .u32 ((((bsg0 a) + (majf a b c_)) % W32 : Nat) : Int)), (92, .int .i64 (i : Int))]) (by rw [e287, e288]) ?_
        clear e287 e288
        refine GP.k (by kernel_rfl) hK270 (fun _ _ h => h) ?_
        refine G.region ?_
        refine GL.run (j := 4) 4 [0, 4, 12, 13, 17, 92, 163, 164] [(0, pt q 0), (4, pt p3 0), (12, pt p38 0), (13, pt p66 0), (17, .int .u32 (((h + (bsg1 e) + (chf e f g) + (KT.getD i 0) + ((wsN p 64).getD i 0)) % W32 : Nat) : Int)), (92, .int .i64 (i : Int)), (163, .int .u32 (IntKind.u32.wrap ((((h + (bsg1 e) + (chf e f g) + (KT.getD i 0) + ((wsN p 64).getD i 0)) % W32 : Nat) : Int) + ((((bsg0 a) + (majf a b c_)) % W32 : Nat) : Int)))), (164, pt p66 0)] (by kernel_rfl) rfl ?_
        have e289 : (IntKind.u32.wrap ((((h + (bsg1 e) + (chf e f g) + (KT.getD i 0) + ((wsN p 64).getD i 0)) % W32 : Nat) : Int) + ((((bsg0 a) + (majf a b c_)) % W32 : Nat) : Int))) = (((((h + (bsg1 e) + (chf e f g) + (KT.getD i 0) + ((wsN p 64).getD i 0)) % W32) + (((bsg0 a) + (majf a b c_)) % W32)) % W32 : Nat) : Int) := w_add _ _
        refine GL.eq (M' := [(0, pt q 0), (4, pt p3 0), (12, pt p38 0), (13, pt p66 0), (17, .int .u32 (((h + (bsg1 e) + (chf e f g) + (KT.getD i 0) + ((wsN p 64).getD i 0)) % W32 : Nat) : Int)), (92, .int .i64 (i : Int)), (163, .int .u32 (((((h + (bsg1 e) + (chf e f g) + (KT.getD i 0) + ((wsN p 64).getD i 0)) % W32) + (((bsg0 a) + (majf a b c_)) % W32)) % W32 : Nat) : Int)), (164, pt p66 0)]) (by rw [e289]) ?_
        clear e289
        refine GL.sem (j := 5) (H284.ld (o := 0) (ty := 60) (v := .int .u32 (a : Int)) 3 rfl (by kernel_rfl) rfl) [0, 4, 12, 13, 17, 92, 163, 165] [(0, pt q 0), (4, pt p3 0), (12, pt p38 0), (13, pt p66 0), (17, .int .u32 (((h + (bsg1 e) + (chf e f g) + (KT.getD i 0) + ((wsN p 64).getD i 0)) % W32 : Nat) : Int)), (92, .int .i64 (i : Int)), (163, .int .u32 (((((h + (bsg1 e) + (chf e f g) + (KT.getD i 0) + ((wsN p 64).getD i 0)) % W32) + (((bsg0 a) + (majf a b c_)) % W32)) % W32 : Nat) : Int)), (165, .int .u32 (a : Int))] (by kernel_rfl) (by kernel_rfl) rfl ?_
        refine GL.run (j := 6) 1 [0, 4, 12, 13, 17, 92, 163, 165, 166] [(0, pt q 0), (4, pt p3 0), (12, pt p38 0), (13, pt p66 0), (17, .int .u32 (((h + (bsg1 e) + (chf e f g) + (KT.getD i 0) + ((wsN p 64).getD i 0)) % W32 : Nat) : Int)), (92, .int .i64 (i : Int)), (163, .int .u32 (((((h + (bsg1 e) + (chf e f g) + (KT.getD i 0) + ((wsN p 64).getD i 0)) % W32) + (((bsg0 a) + (majf a b c_)) % W32)) % W32 : Nat) : Int)), (165, .int .u32 (a : Int)), (166, pt p66 1)] (by kernel_rfl) rfl ?_
        refine GL.sem (j := 7) (H284.ld (o := 1) (ty := 60) (v := .int .u32 (b : Int)) 3 rfl (by kernel_rfl) rfl) [0, 4, 12, 13, 17, 92, 163, 165, 167] [(0, pt q 0), (4, pt p3 0), (12, pt p38 0), (13, pt p66 0), (17, .int .u32 (((h + (bsg1 e) + (chf e f g) + (KT.getD i 0) + ((wsN p 64).getD i 0)) % W32 : Nat) : Int)), (92, .int .i64 (i : Int)), (163, .int .u32 (((((h + (bsg1 e) + (chf e f g) + (KT.getD i 0) + ((wsN p 64).getD i 0)) % W32) + (((bsg0 a) + (majf a b c_)) % W32)) % W32 : Nat) : Int)), (165, .int .u32 (a : Int)), (167, .int .u32 (b : Int))] (by kernel_rfl) (by kernel_rfl) rfl ?_
        refine GL.run (j := 8) 1 [0, 4, 12, 13, 17, 92, 163, 165, 167, 168] [(0, pt q 0), (4, pt p3 0), (12, pt p38 0), (13, pt p66 0), (17, .int .u32 (((h + (bsg1 e) + (chf e f g) + (KT.getD i 0) + ((wsN p 64).getD i 0)) % W32 : Nat) : Int)), (92, .int .i64 (i : Int)), (163, .int .u32 (((((h + (bsg1 e) + (chf e f g) + (KT.getD i 0) + ((wsN p 64).getD i 0)) % W32) + (((bsg0 a) + (majf a b c_)) % W32)) % W32 : Nat) : Int)), (165, .int .u32 (a : Int)), (167, .int .u32 (b : Int)), (168, pt p66 2)] (by kernel_rfl) rfl ?_
        refine GL.sem (j := 9) (H284.ld (o := 2) (ty := 60) (v := .int .u32 (c_ : Int)) 3 rfl (by kernel_rfl) rfl) [0, 4, 12, 13, 17, 92, 163, 165, 167, 169] [(0, pt q 0), (4, pt p3 0), (12, pt p38 0), (13, pt p66 0), (17, .int .u32 (((h + (bsg1 e) + (chf e f g) + (KT.getD i 0) + ((wsN p 64).getD i 0)) % W32 : Nat) : Int)), (92, .int .i64 (i : Int)), (163, .int .u32 (((((h + (bsg1 e) + (chf e f g) + (KT.getD i 0) + ((wsN p 64).getD i 0)) % W32) + (((bsg0 a) + (majf a b c_)) % W32)) % W32 : Nat) : Int)), (165, .int .u32 (a : Int)), (167, .int .u32 (b : Int)), (169, .int .u32 (c_ : Int))] (by kernel_rfl) (by kernel_rfl) rfl ?_
        refine GL.run (j := 10) 1 [0, 4, 12, 13, 17, 92, 163, 165, 167, 169, 170] [(0, pt q 0), (4, pt p3 0), (12, pt p38 0), (13, pt p66 0), (17, .int .u32 (((h + (bsg1 e) + (chf e f g) + (KT.getD i 0) + ((wsN p 64).getD i 0)) % W32 : Nat) : Int)), (92, .int .i64 (i : Int)), (163, .int .u32 (((((h + (bsg1 e) + (chf e f g) + (KT.getD i 0) + ((wsN p 64).getD i 0)) % W32) + (((bsg0 a) + (majf a b c_)) % W32)) % W32 : Nat) : Int)), (165, .int .u32 (a : Int)), (167, .int .u32 (b : Int)), (169, .int .u32 (c_ : Int)), (170, pt p66 3)] (by kernel_rfl) rfl ?_
        refine GL.sem (j := 11) (H284.ld (o := 3) (ty := 60) (v := .int .u32 (d : Int)) 3 rfl (by kernel_rfl) rfl) [0, 4, 12, 13, 17, 92, 163, 165, 167, 169, 171] [(0, pt q 0), (4, pt p3 0), (12, pt p38 0), (13, pt p66 0), (17, .int .u32 (((h + (bsg1 e) + (chf e f g) + (KT.getD i 0) + ((wsN p 64).getD i 0)) % W32 : Nat) : Int)), (92, .int .i64 (i : Int)), (163, .int .u32 (((((h + (bsg1 e) + (chf e f g) + (KT.getD i 0) + ((wsN p 64).getD i 0)) % W32) + (((bsg0 a) + (majf a b c_)) % W32)) % W32 : Nat) : Int)), (165, .int .u32 (a : Int)), (167, .int .u32 (b : Int)), (169, .int .u32 (c_ : Int)), (171, .int .u32 (d : Int))] (by kernel_rfl) (by kernel_rfl) rfl ?_
        refine GL.run (j := 14) 3 [0, 4, 12, 13, 92, 163, 165, 167, 169, 173, 174] [(0, pt q 0), (4, pt p3 0), (12, pt p38 0), (13, pt p66 0), (92, .int .i64 (i : Int)), (163, .int .u32 (((((h + (bsg1 e) + (chf e f g) + (KT.getD i 0) + ((wsN p 64).getD i 0)) % W32) + (((bsg0 a) + (majf a b c_)) % W32)) % W32 : Nat) : Int)), (165, .int .u32 (a : Int)), (167, .int .u32 (b : Int)), (169, .int .u32 (c_ : Int)), (173, .int .u32 (IntKind.u32.wrap ((d : Int) + (((h + (bsg1 e) + (chf e f g) + (KT.getD i 0) + ((wsN p 64).getD i 0)) % W32 : Nat) : Int)))), (174, pt p66 4)] (by kernel_rfl) rfl ?_
        have e290 : (IntKind.u32.wrap ((d : Int) + (((h + (bsg1 e) + (chf e f g) + (KT.getD i 0) + ((wsN p 64).getD i 0)) % W32 : Nat) : Int))) = (((d + ((h + (bsg1 e) + (chf e f g) + (KT.getD i 0) + ((wsN p 64).getD i 0)) % W32)) % W32 : Nat) : Int) := w_add _ _
        refine GL.eq (M' := [(0, pt q 0), (4, pt p3 0), (12, pt p38 0), (13, pt p66 0), (92, .int .i64 (i : Int)), (163, .int .u32 (((((h + (bsg1 e) + (chf e f g) + (KT.getD i 0) + ((wsN p 64).getD i 0)) % W32) + (((bsg0 a) + (majf a b c_)) % W32)) % W32 : Nat) : Int)), (165, .int .u32 (a : Int)), (167, .int .u32 (b : Int)), (169, .int .u32 (c_ : Int)), (173, .int .u32 (((d + ((h + (bsg1 e) + (chf e f g) + (KT.getD i 0) + ((wsN p 64).getD i 0)) % W32)) % W32 : Nat) : Int)), (174, pt p66 4)]) (by rw [e290]) ?_
        clear e290
        refine GL.sem (j := 15) (H284.ld (o := 4) (ty := 60) (v := .int .u32 (e : Int)) 3 rfl (by kernel_rfl) rfl) [0, 4, 12, 13, 92, 163, 165, 167, 169, 173, 175] [(0, pt q 0), (4, pt p3 0), (12, pt p38 0), (13, pt p66 0), (92, .int .i64 (i : Int)), (163, .int .u32 (((((h + (bsg1 e) + (chf e f g) + (KT.getD i 0) + ((wsN p 64).getD i 0)) % W32) + (((bsg0 a) + (majf a b c_)) % W32)) % W32 : Nat) : Int)), (165, .int .u32 (a : Int)), (167, .int .u32 (b : Int)), (169, .int .u32 (c_ : Int)), (173, .int .u32 (((d + ((h + (bsg1 e) + (chf e f g) + (KT.getD i 0) + ((wsN p 64).getD i 0)) % W32)) % W32 : Nat) : Int)), (175, .int .u32 (e : Int))] (by kernel_rfl) (by kernel_rfl) rfl ?_
        refine GL.run (j := 16) 1 [0, 4, 12, 13, 92, 163, 165, 167, 169, 173, 175, 176] [(0, pt q 0), (4, pt p3 0), (12, pt p38 0), (13, pt p66 0), (92, .int .i64 (i : Int)), (163, .int .u32 (((((h + (bsg1 e) + (chf e f g) + (KT.getD i 0) + ((wsN p 64).getD i 0)) % W32) + (((bsg0 a) + (majf a b c_)) % W32)) % W32 : Nat) : Int)), (165, .int .u32 (a : Int)), (167, .int .u32 (b : Int)), (169, .int .u32 (c_ : Int)), (173, .int .u32 (((d + ((h + (bsg1 e) + (chf e f g) + (KT.getD i 0) + ((wsN p 64).getD i 0)) % W32)) % W32 : Nat) : Int)), (175, .int .u32 (e : Int)), (176, pt p66 5)] (by kernel_rfl) rfl ?_
        refine GL.sem (j := 17) (H284.ld (o := 5) (ty := 60) (v := .int .u32 (f : Int)) 3 rfl (by kernel_rfl) rfl) [0, 4, 12, 13, 92, 163, 165, 167, 169, 173, 175, 177] [(0, pt q 0), (4, pt p3 0), (12, pt p38 0), (13, pt p66 0), (92, .int .i64 (i : Int)), (163, .int .u32 (((((h + (bsg1 e) + (chf e f g) + (KT.getD i 0) + ((wsN p 64).getD i 0)) % W32) + (((bsg0 a) + (majf a b c_)) % W32)) % W32 : Nat) : Int)), (165, .int .u32 (a : Int)), (167, .int .u32 (b : Int)), (169, .int .u32 (c_ : Int)), (173, .int .u32 (((d + ((h + (bsg1 e) + (chf e f g) + (KT.getD i 0) + ((wsN p 64).getD i 0)) % W32)) % W32 : Nat) : Int)), (175, .int .u32 (e : Int)), (177, .int .u32 (f : Int))] (by kernel_rfl) (by kernel_rfl) rfl ?_
        refine GL.run (j := 18) 1 [0, 4, 12, 13, 92, 163, 165, 167, 169, 173, 175, 177, 178] [(0, pt q 0), (4, pt p3 0), (12, pt p38 0), (13, pt p66 0), (92, .int .i64 (i : Int)), (163, .int .u32 (((((h + (bsg1 e) + (chf e f g) + (KT.getD i 0) + ((wsN p 64).getD i 0)) % W32) + (((bsg0 a) + (majf a b c_)) % W32)) % W32 : Nat) : Int)), (165, .int .u32 (a : Int)), (167, .int .u32 (b : Int)), (169, .int .u32 (c_ : Int)), (173, .int .u32 (((d + ((h + (bsg1 e) + (chf e f g) + (KT.getD i 0) + ((wsN p 64).getD i 0)) % W32)) % W32 : Nat) : Int)), (175, .int .u32 (e : Int)), (177, .int .u32 (f : Int)), (178, pt p66 6)] (by kernel_rfl) rfl ?_
        refine GL.sem (j := 19) (H284.ld (o := 6) (ty := 60) (v := .int .u32 (g : Int)) 3 rfl (by kernel_rfl) rfl) [0, 4, 12, 13, 92, 163, 165, 167, 169, 173, 175, 177, 179] [(0, pt q 0), (4, pt p3 0), (12, pt p38 0), (13, pt p66 0), (92, .int .i64 (i : Int)), (163, .int .u32 (((((h + (bsg1 e) + (chf e f g) + (KT.getD i 0) + ((wsN p 64).getD i 0)) % W32) + (((bsg0 a) + (majf a b c_)) % W32)) % W32 : Nat) : Int)), (165, .int .u32 (a : Int)), (167, .int .u32 (b : Int)), (169, .int .u32 (c_ : Int)), (173, .int .u32 (((d + ((h + (bsg1 e) + (chf e f g) + (KT.getD i 0) + ((wsN p 64).getD i 0)) % W32)) % W32 : Nat) : Int)), (175, .int .u32 (e : Int)), (177, .int .u32 (f : Int)), (179, .int .u32 (g : Int))] (by kernel_rfl) (by kernel_rfl) rfl ?_
        refine GL.run (j := 20) 1 [0, 4, 12, 13, 92, 180] [(0, pt q 0), (4, pt p3 0), (12, pt p38 0), (13, pt p66 0), (92, .int .i64 (i : Int)), (180, .agg #[.int .u32 (((((h + (bsg1 e) + (chf e f g) + (KT.getD i 0) + ((wsN p 64).getD i 0)) % W32) + (((bsg0 a) + (majf a b c_)) % W32)) % W32 : Nat) : Int), .int .u32 (a : Int), .int .u32 (b : Int), .int .u32 (c_ : Int), .int .u32 (((d + ((h + (bsg1 e) + (chf e f g) + (KT.getD i 0) + ((wsN p 64).getD i 0)) % W32)) % W32 : Nat) : Int), .int .u32 (e : Int), .int .u32 (f : Int), .int .u32 (g : Int)])] (by kernel_rfl) rfl ?_
        obtain ⟨w291, r292, H293⟩ := H284.stA (P := Try.prog) (o := 0) (vs := (c8 ((((h + (bsg1 e) + (chf e f g) + (KT.getD i 0) + ((wsN p 64).getD i 0)) % W32) + (((bsg0 a) + (majf a b c_)) % W32)) % W32) a b c_ ((d + ((h + (bsg1 e) + (chf e f g) + (KT.getD i 0) + ((wsN p 64).getD i 0)) % W32)) % W32) e f g)) (ty := 62) (m := 8) 3 rfl (by kernel_rfl) rfl (by exact Nat.le_refl _) (c8_one)
        have H293 : Hp w S [.blk q (c8 s0 s1 s2 s3 s4 s5 s6 s7) 62, .blk p3 (u32s (wsP p 64)) 71, .blk p38 (u32s KT) 71, .blk p66 (c8 ((((h + (bsg1 e) + (chf e f g) + (KT.getD i 0) + ((wsN p 64).getD i 0)) % W32) + (((bsg0 a) + (majf a b c_)) % W32)) % W32) a b c_ ((d + ((h + (bsg1 e) + (chf e f g) + (KT.getD i 0) + ((wsN p 64).getD i 0)) % W32)) % W32) e f g) 62] w291 := H293
        refine GL.semU (j := 21) r292 [0, 4, 12, 13, 92] [(0, pt q 0), (4, pt p3 0), (12, pt p38 0), (13, pt p66 0), (92, .int .i64 (i : Int))] (by kernel_rfl) rfl rfl rfl ?_
        refine GL.k rfl hK230 (fun _ _ h => h) ?_
        refine G.region ?_
        refine GL.run (j := 2) 2 [0, 4, 12, 13, 92] [(0, pt q 0), (4, pt p3 0), (12, pt p38 0), (13, pt p66 0), (92, .int .i64 (IntKind.i64.wrap ((i : Int) + 1)))] (by kernel_rfl) rfl ?_
        have e294 : (IntKind.i64.wrap ((i : Int) + 1)) = ((i + 1 : Nat) : Int) := by rw [in_i64 (by omega)]; omega
        refine GL.eq (M' := [(0, pt q 0), (4, pt p3 0), (12, pt p38 0), (13, pt p66 0), (92, .int .i64 ((i + 1 : Nat) : Int))]) (by rw [e294]) ?_
        clear e294
        refine GL.fit (ts := [0, 4, 12, 13, 92]) (M' := [(0, pt q 0), (4, pt p3 0), (12, pt p38 0), (13, pt p66 0), (92, .int .i64 ((i + 1 : Nat) : Int))]) (by kernel_rfl) ?_
        refine GL.eq (M' := [(0, pt q 0), (4, pt p3 0), (12, pt p38 0), (13, pt p66 0), (92, .int .i64 (((i + 1) : Nat) : Int))]) (by rfl) ?_
        exact GL.again ⟨(i + 1), (((h + (bsg1 e) + (chf e f g) + (KT.getD i 0) + ((wsN p 64).getD i 0)) % W32) + (((bsg0 a) + (majf a b c_)) % W32)) % W32, a, b, c_, (d + ((h + (bsg1 e) + (chf e f g) + (KT.getD i 0) + ((wsN p 64).getD i 0)) % W32)) % W32, e, f, g⟩ [0, 4, 12, 13, 92] rfl (by kernel_rfl) (by show 64 - (i + 1) < 64 - i; omega) ⟨⟨by omega, by rw [shaR, ← hv8]; rfl⟩, H293⟩
    have st84 : ∀ (wD_ : World) (p38 : Nat), Hp w S [.blk q (c8 s0 s1 s2 s3 s4 s5 s6 s7) 62, .blk p3 (u32s (wsP p i)) 71, .blk p38 (u32s (wsP p 0)) 71] wD_ → Xd_ [1, 2, 3, 0, 4] [(0, pt q 0), (4, pt p3 0), (12, pt p38 0), (88, .agg (u32s KT).toArray), (91, .agg #[.int .u32 (s0 : Int), .int .u32 (s1 : Int), .int .u32 (s2 : Int), .int .u32 (s3 : Int), .int .u32 (s4 : Int), .int .u32 (s5 : Int), .int .u32 (s6 : Int), .int .u32 (s7 : Int)])] wD_ := by
      intro wD_ p38 HD_
      rw [hXd_]
      have hS295 : Hp w S [.blk q (c8 s0 s1 s2 s3 s4 s5 s6 s7) 62, .blk p3 (u32s (wsP p i)) 71] wD_ := HD_.sub (List.Sublist.cons_cons _ (List.Sublist.cons_cons _ (List.Sublist.cons _ (List.Sublist.slnil))))
      refine GP.all1 5 (by kernel_rfl) ?_
      · skip
        have hS296 : Hp w S [.blk q (c8 s0 s1 s2 s3 s4 s5 s6 s7) 62, .blk p3 (u32s (wsP p i)) 71] wD_ := HD_.sub (List.Sublist.cons_cons _ (List.Sublist.cons_cons _ (List.Sublist.cons _ (List.Sublist.slnil))))
        obtain ⟨p297, w298, r299, H300⟩ := HD_.alloc (P := Try.prog) 62 [.int .u32 0, .int .u32 0, .int .u32 0, .int .u32 0, .int .u32 0, .int .u32 0, .int .u32 0, .int .u32 0] (by kernel_rfl)
        have H300 : Hp w S [.blk q (c8 s0 s1 s2 s3 s4 s5 s6 s7) 62, .blk p3 (u32s (wsP p i)) 71, .blk p38 (u32s (wsP p 0)) 71, .blk p297 [.int .u32 0, .int .u32 0, .int .u32 0, .int .u32 0, .int .u32 0, .int .u32 0, .int .u32 0, .int .u32 0] 62] w298 := H300
        have hS301 : Hp w S [.blk q (c8 s0 s1 s2 s3 s4 s5 s6 s7) 62, .blk p3 (u32s (wsP p i)) 71] w298 := H300.sub (List.Sublist.cons_cons _ (List.Sublist.cons_cons _ (List.Sublist.cons _ (List.Sublist.cons _ (List.Sublist.slnil)))))
        refine GO.made r299 [0, 4, 12, 13, 88, 91] [(0, pt q 0), (4, pt p3 0), (12, pt p38 0), (13, pt p297 0), (88, .agg (u32s KT).toArray), (91, .agg #[.int .u32 (s0 : Int), .int .u32 (s1 : Int), .int .u32 (s2 : Int), .int .u32 (s3 : Int), .int .u32 (s4 : Int), .int .u32 (s5 : Int), .int .u32 (s6 : Int), .int .u32 (s7 : Int)])] (by kernel_rfl) (by kernel_rfl) hS301 ?_
        refine GP.perm [1, 2, 3, 0, 4, 5] (by kernel_rfl) rfl ?_
        rw [← hXd_]
        exact st87 _ p38 p297 H300
    have st85 : ∀ (wD_ : World) (p43 : Nat), Hp w S [.blk q (c8 s0 s1 s2 s3 s4 s5 s6 s7) 62, .blk p3 (u32s (wsP p i)) 71, .blk p43 [.int .u32 0, .int .u32 0, .int .u32 0, .int .u32 0, .int .u32 0, .int .u32 0, .int .u32 0, .int .u32 0] 62] wD_ → Xd_ [1, 2, 3, 0, 5] [(0, pt q 0), (4, pt p3 0), (13, pt p43 0), (88, .agg (u32s KT).toArray), (91, .agg #[.int .u32 (s0 : Int), .int .u32 (s1 : Int), .int .u32 (s2 : Int), .int .u32 (s3 : Int), .int .u32 (s4 : Int), .int .u32 (s5 : Int), .int .u32 (s6 : Int), .int .u32 (s7 : Int)])] wD_ := by
      intro wD_ p43 HD_
      rw [hXd_]
      have hS302 : Hp w S [.blk q (c8 s0 s1 s2 s3 s4 s5 s6 s7) 62, .blk p3 (u32s (wsP p i)) 71] wD_ := HD_.sub (List.Sublist.cons_cons _ (List.Sublist.cons_cons _ (List.Sublist.cons _ (List.Sublist.slnil))))
      refine GP.all1 4 (by kernel_rfl) ?_
      · skip
        have hS303 : Hp w S [.blk q (c8 s0 s1 s2 s3 s4 s5 s6 s7) 62, .blk p3 (u32s (wsP p i)) 71] wD_ := HD_.sub (List.Sublist.cons_cons _ (List.Sublist.cons_cons _ (List.Sublist.cons _ (List.Sublist.slnil))))
        obtain ⟨p304, w305, r306, H307⟩ := HD_.alloc (P := Try.prog) 71 (u32s (wsP p 0)) (by kernel_rfl)
        have H307 : Hp w S [.blk q (c8 s0 s1 s2 s3 s4 s5 s6 s7) 62, .blk p3 (u32s (wsP p i)) 71, .blk p43 [.int .u32 0, .int .u32 0, .int .u32 0, .int .u32 0, .int .u32 0, .int .u32 0, .int .u32 0, .int .u32 0] 62, .blk p304 (u32s (wsP p 0)) 71] w305 := H307
        have hS308 : Hp w S [.blk q (c8 s0 s1 s2 s3 s4 s5 s6 s7) 62, .blk p3 (u32s (wsP p i)) 71] w305 := H307.sub (List.Sublist.cons_cons _ (List.Sublist.cons_cons _ (List.Sublist.cons _ (List.Sublist.cons _ (List.Sublist.slnil)))))
        refine GO.made r306 [0, 4, 12, 13, 88, 91] [(0, pt q 0), (4, pt p3 0), (12, pt p304 0), (13, pt p43 0), (88, .agg (u32s KT).toArray), (91, .agg #[.int .u32 (s0 : Int), .int .u32 (s1 : Int), .int .u32 (s2 : Int), .int .u32 (s3 : Int), .int .u32 (s4 : Int), .int .u32 (s5 : Int), .int .u32 (s6 : Int), .int .u32 (s7 : Int)])] (by kernel_rfl) (by kernel_rfl) hS308 ?_
        have H309 := (Hp.reorder (L' := [.blk q (c8 s0 s1 s2 s3 s4 s5 s6 s7) 62, .blk p3 (u32s (wsP p i)) 71, .blk p304 (u32s (wsP p 0)) 71, .blk p43 [.int .u32 0, .int .u32 0, .int .u32 0, .int .u32 0, .int .u32 0, .int .u32 0, .int .u32 0, .int .u32 0] 62]) H307 (List.Perm.cons _ (List.Perm.cons _ (List.Perm.trans (List.Perm.swap _ _ _) (List.Perm.refl _)))))
        refine GP.perm [1, 2, 3, 0, 4, 5] (by kernel_rfl) rfl ?_
        rw [← hXd_]
        exact st87 _ p304 p43 H309
    have st86 : ∀ (wD_ : World) (p28 : Nat) (p52 : Nat), Hp w S [.blk q (c8 s0 s1 s2 s3 s4 s5 s6 s7) 62, .blk p3 (u32s (wsP p i)) 71, .blk p28 (u32s (wsP p 0)) 71, .blk p52 [.int .u32 0, .int .u32 0, .int .u32 0, .int .u32 0, .int .u32 0, .int .u32 0, .int .u32 0, .int .u32 0] 62] wD_ → Xd_ [1, 2, 3, 4, 5] [(0, pt q 0), (4, pt p3 0), (12, pt p28 0), (13, pt p52 0), (91, .agg #[.int .u32 (s0 : Int), .int .u32 (s1 : Int), .int .u32 (s2 : Int), .int .u32 (s3 : Int), .int .u32 (s4 : Int), .int .u32 (s5 : Int), .int .u32 (s6 : Int), .int .u32 (s7 : Int)])] wD_ := by
      intro wD_ p28 p52 HD_
      rw [hXd_]
      have hS310 : Hp w S [.blk q (c8 s0 s1 s2 s3 s4 s5 s6 s7) 62, .blk p3 (u32s (wsP p i)) 71] wD_ := HD_.sub (List.Sublist.cons_cons _ (List.Sublist.cons_cons _ (List.Sublist.cons _ (List.Sublist.cons _ (List.Sublist.slnil)))))
      refine GP.all1 0 (by kernel_rfl) ?_
      · skip
        have hS311 : Hp w S [.blk q (c8 s0 s1 s2 s3 s4 s5 s6 s7) 62, .blk p3 (u32s (wsP p i)) 71] wD_ := HD_.sub (List.Sublist.cons_cons _ (List.Sublist.cons_cons _ (List.Sublist.cons _ (List.Sublist.cons _ (List.Sublist.slnil)))))
        refine GO.call (Constants_calls wD_) (by kernel_rfl) (fun e_ w312 hR => ?_)
        obtain ⟨rfl, H314⟩ := hR
        have H313 : Hp w S [.blk q (c8 s0 s1 s2 s3 s4 s5 s6 s7) 62, .blk p3 (u32s (wsP p i)) 71, .blk p28 (u32s (wsP p 0)) 71, .blk p52 [.int .u32 0, .int .u32 0, .int .u32 0, .int .u32 0, .int .u32 0, .int .u32 0, .int .u32 0, .int .u32 0] 62] w312 := HD_.callNil H314
        have hS315 : Hp w S [.blk q (c8 s0 s1 s2 s3 s4 s5 s6 s7) 62, .blk p3 (u32s (wsP p i)) 71] w312 := H313.sub (List.Sublist.cons_cons _ (List.Sublist.cons_cons _ (List.Sublist.cons _ (List.Sublist.cons _ (List.Sublist.slnil)))))
        refine ⟨_, rfl, hS315, [0, 4, 12, 13, 88, 91], [(0, pt q 0), (4, pt p3 0), (12, pt p28 0), (13, pt p52 0), (88, .agg (u32s KT).toArray), (91, .agg #[.int .u32 (s0 : Int), .int .u32 (s1 : Int), .int .u32 (s2 : Int), .int .u32 (s3 : Int), .int .u32 (s4 : Int), .int .u32 (s5 : Int), .int .u32 (s6 : Int), .int .u32 (s7 : Int)])], by kernel_rfl, ?_⟩
        refine GP.perm [1, 2, 3, 0, 4, 5] (by kernel_rfl) rfl ?_
        rw [← hXd_]
        exact st87 _ p28 p52 H313
    have st81 : ∀ (wD_ : World), Hp w S [.blk q (c8 s0 s1 s2 s3 s4 s5 s6 s7) 62, .blk p3 (u32s (wsP p i)) 71] wD_ → Xd_ [1, 2, 3, 0] [(0, pt q 0), (4, pt p3 0), (88, .agg (u32s KT).toArray), (91, .agg #[.int .u32 (s0 : Int), .int .u32 (s1 : Int), .int .u32 (s2 : Int), .int .u32 (s3 : Int), .int .u32 (s4 : Int), .int .u32 (s5 : Int), .int .u32 (s6 : Int), .int .u32 (s7 : Int)])] wD_ := by
      intro wD_ HD_
      rw [hXd_]
      have hS316 : Hp w S [.blk q (c8 s0 s1 s2 s3 s4 s5 s6 s7) 62, .blk p3 (u32s (wsP p i)) 71] wD_ := HD_.sub (List.Sublist.cons_cons _ (List.Sublist.cons_cons _ (List.Sublist.slnil)))
      refine GP.all2 4 5 (by kernel_rfl) ?_ ?_
      · skip
        have hS317 : Hp w S [.blk q (c8 s0 s1 s2 s3 s4 s5 s6 s7) 62, .blk p3 (u32s (wsP p i)) 71] wD_ := HD_.sub (List.Sublist.cons_cons _ (List.Sublist.cons_cons _ (List.Sublist.slnil)))
        obtain ⟨p318, w319, r320, H321⟩ := HD_.alloc (P := Try.prog) 71 (u32s (wsP p 0)) (by kernel_rfl)
        have H321 : Hp w S [.blk q (c8 s0 s1 s2 s3 s4 s5 s6 s7) 62, .blk p3 (u32s (wsP p i)) 71, .blk p318 (u32s (wsP p 0)) 71] w319 := H321
        have hS322 : Hp w S [.blk q (c8 s0 s1 s2 s3 s4 s5 s6 s7) 62, .blk p3 (u32s (wsP p i)) 71] w319 := H321.sub (List.Sublist.cons_cons _ (List.Sublist.cons_cons _ (List.Sublist.cons _ (List.Sublist.slnil))))
        refine GO.made r320 [0, 4, 12, 88, 91] [(0, pt q 0), (4, pt p3 0), (12, pt p318 0), (88, .agg (u32s KT).toArray), (91, .agg #[.int .u32 (s0 : Int), .int .u32 (s1 : Int), .int .u32 (s2 : Int), .int .u32 (s3 : Int), .int .u32 (s4 : Int), .int .u32 (s5 : Int), .int .u32 (s6 : Int), .int .u32 (s7 : Int)])] (by kernel_rfl) (by kernel_rfl) hS322 ?_
        refine GP.perm [1, 2, 3, 0, 4] (by kernel_rfl) rfl ?_
        rw [← hXd_]
        exact st84 _ p318 H321
      · skip
        have hS323 : Hp w S [.blk q (c8 s0 s1 s2 s3 s4 s5 s6 s7) 62, .blk p3 (u32s (wsP p i)) 71] wD_ := HD_.sub (List.Sublist.cons_cons _ (List.Sublist.cons_cons _ (List.Sublist.slnil)))
        obtain ⟨p324, w325, r326, H327⟩ := HD_.alloc (P := Try.prog) 62 [.int .u32 0, .int .u32 0, .int .u32 0, .int .u32 0, .int .u32 0, .int .u32 0, .int .u32 0, .int .u32 0] (by kernel_rfl)
        have H327 : Hp w S [.blk q (c8 s0 s1 s2 s3 s4 s5 s6 s7) 62, .blk p3 (u32s (wsP p i)) 71, .blk p324 [.int .u32 0, .int .u32 0, .int .u32 0, .int .u32 0, .int .u32 0, .int .u32 0, .int .u32 0, .int .u32 0] 62] w325 := H327
        have hS328 : Hp w S [.blk q (c8 s0 s1 s2 s3 s4 s5 s6 s7) 62, .blk p3 (u32s (wsP p i)) 71] w325 := H327.sub (List.Sublist.cons_cons _ (List.Sublist.cons_cons _ (List.Sublist.cons _ (List.Sublist.slnil))))
        refine GO.made r326 [0, 4, 13, 88, 91] [(0, pt q 0), (4, pt p3 0), (13, pt p324 0), (88, .agg (u32s KT).toArray), (91, .agg #[.int .u32 (s0 : Int), .int .u32 (s1 : Int), .int .u32 (s2 : Int), .int .u32 (s3 : Int), .int .u32 (s4 : Int), .int .u32 (s5 : Int), .int .u32 (s6 : Int), .int .u32 (s7 : Int)])] (by kernel_rfl) (by kernel_rfl) hS328 ?_
        refine GP.perm [1, 2, 3, 0, 5] (by kernel_rfl) rfl ?_
        rw [← hXd_]
        exact st85 _ p324 H327
    have st82 : ∀ (wD_ : World) (p28 : Nat), Hp w S [.blk q (c8 s0 s1 s2 s3 s4 s5 s6 s7) 62, .blk p3 (u32s (wsP p i)) 71, .blk p28 (u32s (wsP p 0)) 71] wD_ → Xd_ [1, 2, 3, 4] [(0, pt q 0), (4, pt p3 0), (12, pt p28 0), (91, .agg #[.int .u32 (s0 : Int), .int .u32 (s1 : Int), .int .u32 (s2 : Int), .int .u32 (s3 : Int), .int .u32 (s4 : Int), .int .u32 (s5 : Int), .int .u32 (s6 : Int), .int .u32 (s7 : Int)])] wD_ := by
      intro wD_ p28 HD_
      rw [hXd_]
      have hS329 : Hp w S [.blk q (c8 s0 s1 s2 s3 s4 s5 s6 s7) 62, .blk p3 (u32s (wsP p i)) 71] wD_ := HD_.sub (List.Sublist.cons_cons _ (List.Sublist.cons_cons _ (List.Sublist.cons _ (List.Sublist.slnil))))
      refine GP.all2 0 5 (by kernel_rfl) ?_ ?_
      · skip
        have hS330 : Hp w S [.blk q (c8 s0 s1 s2 s3 s4 s5 s6 s7) 62, .blk p3 (u32s (wsP p i)) 71] wD_ := HD_.sub (List.Sublist.cons_cons _ (List.Sublist.cons_cons _ (List.Sublist.cons _ (List.Sublist.slnil))))
        refine GO.call (Constants_calls wD_) (by kernel_rfl) (fun e_ w331 hR => ?_)
        obtain ⟨rfl, H333⟩ := hR
        have H332 : Hp w S [.blk q (c8 s0 s1 s2 s3 s4 s5 s6 s7) 62, .blk p3 (u32s (wsP p i)) 71, .blk p28 (u32s (wsP p 0)) 71] w331 := HD_.callNil H333
        have hS334 : Hp w S [.blk q (c8 s0 s1 s2 s3 s4 s5 s6 s7) 62, .blk p3 (u32s (wsP p i)) 71] w331 := H332.sub (List.Sublist.cons_cons _ (List.Sublist.cons_cons _ (List.Sublist.cons _ (List.Sublist.slnil))))
        refine ⟨_, rfl, hS334, [0, 4, 12, 88, 91], [(0, pt q 0), (4, pt p3 0), (12, pt p28 0), (88, .agg (u32s KT).toArray), (91, .agg #[.int .u32 (s0 : Int), .int .u32 (s1 : Int), .int .u32 (s2 : Int), .int .u32 (s3 : Int), .int .u32 (s4 : Int), .int .u32 (s5 : Int), .int .u32 (s6 : Int), .int .u32 (s7 : Int)])], by kernel_rfl, ?_⟩
        refine GP.perm [1, 2, 3, 0, 4] (by kernel_rfl) rfl ?_
        rw [← hXd_]
        exact st84 _ p28 H332
      · skip
        have hS335 : Hp w S [.blk q (c8 s0 s1 s2 s3 s4 s5 s6 s7) 62, .blk p3 (u32s (wsP p i)) 71] wD_ := HD_.sub (List.Sublist.cons_cons _ (List.Sublist.cons_cons _ (List.Sublist.cons _ (List.Sublist.slnil))))
        obtain ⟨p336, w337, r338, H339⟩ := HD_.alloc (P := Try.prog) 62 [.int .u32 0, .int .u32 0, .int .u32 0, .int .u32 0, .int .u32 0, .int .u32 0, .int .u32 0, .int .u32 0] (by kernel_rfl)
        have H339 : Hp w S [.blk q (c8 s0 s1 s2 s3 s4 s5 s6 s7) 62, .blk p3 (u32s (wsP p i)) 71, .blk p28 (u32s (wsP p 0)) 71, .blk p336 [.int .u32 0, .int .u32 0, .int .u32 0, .int .u32 0, .int .u32 0, .int .u32 0, .int .u32 0, .int .u32 0] 62] w337 := H339
        have hS340 : Hp w S [.blk q (c8 s0 s1 s2 s3 s4 s5 s6 s7) 62, .blk p3 (u32s (wsP p i)) 71] w337 := H339.sub (List.Sublist.cons_cons _ (List.Sublist.cons_cons _ (List.Sublist.cons _ (List.Sublist.cons _ (List.Sublist.slnil)))))
        refine GO.made r338 [0, 4, 12, 13, 91] [(0, pt q 0), (4, pt p3 0), (12, pt p28 0), (13, pt p336 0), (91, .agg #[.int .u32 (s0 : Int), .int .u32 (s1 : Int), .int .u32 (s2 : Int), .int .u32 (s3 : Int), .int .u32 (s4 : Int), .int .u32 (s5 : Int), .int .u32 (s6 : Int), .int .u32 (s7 : Int)])] (by kernel_rfl) (by kernel_rfl) hS340 ?_
        refine GP.perm [1, 2, 3, 4, 5] (by kernel_rfl) rfl ?_
        rw [← hXd_]
        exact st86 _ p28 p336 H339
    have st83 : ∀ (wD_ : World) (p33 : Nat), Hp w S [.blk q (c8 s0 s1 s2 s3 s4 s5 s6 s7) 62, .blk p3 (u32s (wsP p i)) 71, .blk p33 [.int .u32 0, .int .u32 0, .int .u32 0, .int .u32 0, .int .u32 0, .int .u32 0, .int .u32 0, .int .u32 0] 62] wD_ → Xd_ [1, 2, 3, 5] [(0, pt q 0), (4, pt p3 0), (13, pt p33 0), (91, .agg #[.int .u32 (s0 : Int), .int .u32 (s1 : Int), .int .u32 (s2 : Int), .int .u32 (s3 : Int), .int .u32 (s4 : Int), .int .u32 (s5 : Int), .int .u32 (s6 : Int), .int .u32 (s7 : Int)])] wD_ := by
      intro wD_ p33 HD_
      rw [hXd_]
      have hS341 : Hp w S [.blk q (c8 s0 s1 s2 s3 s4 s5 s6 s7) 62, .blk p3 (u32s (wsP p i)) 71] wD_ := HD_.sub (List.Sublist.cons_cons _ (List.Sublist.cons_cons _ (List.Sublist.cons _ (List.Sublist.slnil))))
      refine GP.all2 0 4 (by kernel_rfl) ?_ ?_
      · skip
        have hS342 : Hp w S [.blk q (c8 s0 s1 s2 s3 s4 s5 s6 s7) 62, .blk p3 (u32s (wsP p i)) 71] wD_ := HD_.sub (List.Sublist.cons_cons _ (List.Sublist.cons_cons _ (List.Sublist.cons _ (List.Sublist.slnil))))
        refine GO.call (Constants_calls wD_) (by kernel_rfl) (fun e_ w343 hR => ?_)
        obtain ⟨rfl, H345⟩ := hR
        have H344 : Hp w S [.blk q (c8 s0 s1 s2 s3 s4 s5 s6 s7) 62, .blk p3 (u32s (wsP p i)) 71, .blk p33 [.int .u32 0, .int .u32 0, .int .u32 0, .int .u32 0, .int .u32 0, .int .u32 0, .int .u32 0, .int .u32 0] 62] w343 := HD_.callNil H345
        have hS346 : Hp w S [.blk q (c8 s0 s1 s2 s3 s4 s5 s6 s7) 62, .blk p3 (u32s (wsP p i)) 71] w343 := H344.sub (List.Sublist.cons_cons _ (List.Sublist.cons_cons _ (List.Sublist.cons _ (List.Sublist.slnil))))
        refine ⟨_, rfl, hS346, [0, 4, 13, 88, 91], [(0, pt q 0), (4, pt p3 0), (13, pt p33 0), (88, .agg (u32s KT).toArray), (91, .agg #[.int .u32 (s0 : Int), .int .u32 (s1 : Int), .int .u32 (s2 : Int), .int .u32 (s3 : Int), .int .u32 (s4 : Int), .int .u32 (s5 : Int), .int .u32 (s6 : Int), .int .u32 (s7 : Int)])], by kernel_rfl, ?_⟩
        refine GP.perm [1, 2, 3, 0, 5] (by kernel_rfl) rfl ?_
        rw [← hXd_]
        exact st85 _ p33 H344
      · skip
        have hS347 : Hp w S [.blk q (c8 s0 s1 s2 s3 s4 s5 s6 s7) 62, .blk p3 (u32s (wsP p i)) 71] wD_ := HD_.sub (List.Sublist.cons_cons _ (List.Sublist.cons_cons _ (List.Sublist.cons _ (List.Sublist.slnil))))
        obtain ⟨p348, w349, r350, H351⟩ := HD_.alloc (P := Try.prog) 71 (u32s (wsP p 0)) (by kernel_rfl)
        have H351 : Hp w S [.blk q (c8 s0 s1 s2 s3 s4 s5 s6 s7) 62, .blk p3 (u32s (wsP p i)) 71, .blk p33 [.int .u32 0, .int .u32 0, .int .u32 0, .int .u32 0, .int .u32 0, .int .u32 0, .int .u32 0, .int .u32 0] 62, .blk p348 (u32s (wsP p 0)) 71] w349 := H351
        have hS352 : Hp w S [.blk q (c8 s0 s1 s2 s3 s4 s5 s6 s7) 62, .blk p3 (u32s (wsP p i)) 71] w349 := H351.sub (List.Sublist.cons_cons _ (List.Sublist.cons_cons _ (List.Sublist.cons _ (List.Sublist.cons _ (List.Sublist.slnil)))))
        refine GO.made r350 [0, 4, 12, 13, 91] [(0, pt q 0), (4, pt p3 0), (12, pt p348 0), (13, pt p33 0), (91, .agg #[.int .u32 (s0 : Int), .int .u32 (s1 : Int), .int .u32 (s2 : Int), .int .u32 (s3 : Int), .int .u32 (s4 : Int), .int .u32 (s5 : Int), .int .u32 (s6 : Int), .int .u32 (s7 : Int)])] (by kernel_rfl) (by kernel_rfl) hS352 ?_
        have H353 := (Hp.reorder (L' := [.blk q (c8 s0 s1 s2 s3 s4 s5 s6 s7) 62, .blk p3 (u32s (wsP p i)) 71, .blk p348 (u32s (wsP p 0)) 71, .blk p33 [.int .u32 0, .int .u32 0, .int .u32 0, .int .u32 0, .int .u32 0, .int .u32 0, .int .u32 0, .int .u32 0] 62]) H351 (List.Perm.cons _ (List.Perm.cons _ (List.Perm.trans (List.Perm.swap _ _ _) (List.Perm.refl _)))))
        refine GP.perm [1, 2, 3, 4, 5] (by kernel_rfl) rfl ?_
        rw [← hXd_]
        exact st86 _ p348 p33 H353
    have st80 : ∀ (wD_ : World), Hp w S [.blk q (c8 s0 s1 s2 s3 s4 s5 s6 s7) 62, .blk p3 (u32s (wsP p i)) 71] wD_ → Xd_ [1, 2, 3] [(0, pt q 0), (4, pt p3 0), (91, .agg #[.int .u32 (s0 : Int), .int .u32 (s1 : Int), .int .u32 (s2 : Int), .int .u32 (s3 : Int), .int .u32 (s4 : Int), .int .u32 (s5 : Int), .int .u32 (s6 : Int), .int .u32 (s7 : Int)])] wD_ := by
      intro wD_ HD_
      rw [hXd_]
      have hS354 : Hp w S [.blk q (c8 s0 s1 s2 s3 s4 s5 s6 s7) 62, .blk p3 (u32s (wsP p i)) 71] wD_ := HD_.sub (List.Sublist.cons_cons _ (List.Sublist.cons_cons _ (List.Sublist.slnil)))
      refine GP.all3 0 4 5 (by kernel_rfl) ?_ ?_ ?_
      · skip
        have hS355 : Hp w S [.blk q (c8 s0 s1 s2 s3 s4 s5 s6 s7) 62, .blk p3 (u32s (wsP p i)) 71] wD_ := HD_.sub (List.Sublist.cons_cons _ (List.Sublist.cons_cons _ (List.Sublist.slnil)))
        refine GO.call (Constants_calls wD_) (by kernel_rfl) (fun e_ w356 hR => ?_)
        obtain ⟨rfl, H358⟩ := hR
        have H357 : Hp w S [.blk q (c8 s0 s1 s2 s3 s4 s5 s6 s7) 62, .blk p3 (u32s (wsP p i)) 71] w356 := HD_.callNil H358
        have hS359 : Hp w S [.blk q (c8 s0 s1 s2 s3 s4 s5 s6 s7) 62, .blk p3 (u32s (wsP p i)) 71] w356 := H357.sub (List.Sublist.cons_cons _ (List.Sublist.cons_cons _ (List.Sublist.slnil)))
        refine ⟨_, rfl, hS359, [0, 4, 88, 91], [(0, pt q 0), (4, pt p3 0), (88, .agg (u32s KT).toArray), (91, .agg #[.int .u32 (s0 : Int), .int .u32 (s1 : Int), .int .u32 (s2 : Int), .int .u32 (s3 : Int), .int .u32 (s4 : Int), .int .u32 (s5 : Int), .int .u32 (s6 : Int), .int .u32 (s7 : Int)])], by kernel_rfl, ?_⟩
        refine GP.perm [1, 2, 3, 0] (by kernel_rfl) rfl ?_
        rw [← hXd_]
        exact st81 _ H357
      · skip
        have hS360 : Hp w S [.blk q (c8 s0 s1 s2 s3 s4 s5 s6 s7) 62, .blk p3 (u32s (wsP p i)) 71] wD_ := HD_.sub (List.Sublist.cons_cons _ (List.Sublist.cons_cons _ (List.Sublist.slnil)))
        obtain ⟨p361, w362, r363, H364⟩ := HD_.alloc (P := Try.prog) 71 (u32s (wsP p 0)) (by kernel_rfl)
        have H364 : Hp w S [.blk q (c8 s0 s1 s2 s3 s4 s5 s6 s7) 62, .blk p3 (u32s (wsP p i)) 71, .blk p361 (u32s (wsP p 0)) 71] w362 := H364
        have hS365 : Hp w S [.blk q (c8 s0 s1 s2 s3 s4 s5 s6 s7) 62, .blk p3 (u32s (wsP p i)) 71] w362 := H364.sub (List.Sublist.cons_cons _ (List.Sublist.cons_cons _ (List.Sublist.cons _ (List.Sublist.slnil))))
        refine GO.made r363 [0, 4, 12, 91] [(0, pt q 0), (4, pt p3 0), (12, pt p361 0), (91, .agg #[.int .u32 (s0 : Int), .int .u32 (s1 : Int), .int .u32 (s2 : Int), .int .u32 (s3 : Int), .int .u32 (s4 : Int), .int .u32 (s5 : Int), .int .u32 (s6 : Int), .int .u32 (s7 : Int)])] (by kernel_rfl) (by kernel_rfl) hS365 ?_
        refine GP.perm [1, 2, 3, 4] (by kernel_rfl) rfl ?_
        rw [← hXd_]
        exact st82 _ p361 H364
      · skip
        have hS366 : Hp w S [.blk q (c8 s0 s1 s2 s3 s4 s5 s6 s7) 62, .blk p3 (u32s (wsP p i)) 71] wD_ := HD_.sub (List.Sublist.cons_cons _ (List.Sublist.cons_cons _ (List.Sublist.slnil)))
        obtain ⟨p367, w368, r369, H370⟩ := HD_.alloc (P := Try.prog) 62 [.int .u32 0, .int .u32 0, .int .u32 0, .int .u32 0, .int .u32 0, .int .u32 0, .int .u32 0, .int .u32 0] (by kernel_rfl)
        have H370 : Hp w S [.blk q (c8 s0 s1 s2 s3 s4 s5 s6 s7) 62, .blk p3 (u32s (wsP p i)) 71, .blk p367 [.int .u32 0, .int .u32 0, .int .u32 0, .int .u32 0, .int .u32 0, .int .u32 0, .int .u32 0, .int .u32 0] 62] w368 := H370
        have hS371 : Hp w S [.blk q (c8 s0 s1 s2 s3 s4 s5 s6 s7) 62, .blk p3 (u32s (wsP p i)) 71] w368 := H370.sub (List.Sublist.cons_cons _ (List.Sublist.cons_cons _ (List.Sublist.cons _ (List.Sublist.slnil))))
        refine GO.made r369 [0, 4, 13, 91] [(0, pt q 0), (4, pt p3 0), (13, pt p367 0), (91, .agg #[.int .u32 (s0 : Int), .int .u32 (s1 : Int), .int .u32 (s2 : Int), .int .u32 (s3 : Int), .int .u32 (s4 : Int), .int .u32 (s5 : Int), .int .u32 (s6 : Int), .int .u32 (s7 : Int)])] (by kernel_rfl) (by kernel_rfl) hS371 ?_
        refine GP.perm [1, 2, 3, 5] (by kernel_rfl) rfl ?_
        rw [← hXd_]
        exact st83 _ p367 H370
    exact st80 _ H21
  · skip
    have hb18f := of_decide_eq_true hb18
    refine G.yes rfl ?_
    refine G.skipK hK17 (fun _ _ h => h) ?_
    refine G.seqK fun K372 hK373 => ?_
    refine G.block ?_
    refine G.seqK fun K374 hK375 => ?_
    refine G.region ?_
    refine GL.run (j := 2) 2 [0, 1, 4, 5, 21] [(0, pt q 0), (1, .slice A 64 C), (4, pt p3 0), (5, .int .i64 (i : Int)), (21, .int .i64 (i : Int))] (by kernel_rfl) rfl ?_
    refine GL.k rfl hK375 (fun _ _ h => h) ?_
    refine G.seqK fun K376 hK377 => ?_
    refine G.seqK fun K378 hK379 => ?_
    refine G.region ?_
    refine GL.run (j := 2) 2 [0, 1, 4, 5, 21, 25] [(0, pt q 0), (1, .slice A 64 C), (4, pt p3 0), (5, .int .i64 (i : Int)), (21, .int .i64 (i : Int)), (25, .bool (decide ((i : Int) < 16)))] (by kernel_rfl) rfl ?_
    refine GL.k rfl hK379 (fun _ _ h => h) ?_
    cases hb380 : (decide ((i : Int) < 16))
    · skip
      have hb380f := of_decide_eq_false hb380
      refine G.no rfl ?_
      refine G.skipK hK377 (fun _ _ h => h) ?_
      refine G.seqK fun K381 hK382 => ?_
      refine G.draw H13 (by kernel_rfl) (by kernel_rfl) ?_
      refine GQ.run (j := 2) 2 [0, 1, 4, 5, 21, 49] [(0, pt q 0), (1, .slice A 64 C), (4, pt p3 0), (5, .int .i64 (i : Int)), (21, .int .i64 (i : Int)), (49, .int .i64 (IntKind.i64.wrap ((i : Int) - 15)))] (by kernel_rfl) rfl ?_
      have e383 : (IntKind.i64.wrap ((i : Int) - 15)) = (((i - 15) : Nat) : Int) := by rw [in_i64 (by omega)]; omega
      refine GQ.eq (M' := [(0, pt q 0), (1, .slice A 64 C), (4, pt p3 0), (5, .int .i64 (i : Int)), (21, .int .i64 (i : Int)), (49, .int .i64 (((i - 15) : Nat) : Int))]) (by rw [e383]) ?_
      clear e383
      refine GQ.sem (j := 3) (fun w_ H_ => run_idxArr (P := Try.prog) (k := .i64) (t := 71) (len := 64) (sz := 1) (b := p3) (o := 0) (j := (i - 15)) (by kernel_rfl) rfl (by omega)) [0, 1, 4, 5, 21, 50] [(0, pt q 0), (1, .slice A 64 C), (4, pt p3 0), (5, .int .i64 (i : Int)), (21, .int .i64 (i : Int)), (50, pt p3 (0 + (i - 15) * 1))] (by kernel_rfl) (by kernel_rfl) rfl ?_
      refine GQ.sem (j := 4) (fun w_ H_ => H_.ld (o := (0 + (i - 15) * 1)) (ty := 60) (v := .int .u32 ((((wsN p i).getD (i - 15) 0) : Nat) : Int)) 1 rfl (by kernel_rfl) (by rw [show (0 + (i - 15) * 1) = (i - 15) by omega]; exact u32s_at (wsP_at (by omega) (by omega)))) [0, 1, 4, 5, 21, 51] [(0, pt q 0), (1, .slice A 64 C), (4, pt p3 0), (5, .int .i64 (i : Int)), (21, .int .i64 (i : Int)), (51, .int .u32 ((((wsN p i).getD (i - 15) 0) : Nat) : Int))] (by kernel_rfl) (by kernel_rfl) rfl ?_
      refine GQ.run (j := 6) 2 [0, 1, 4, 5, 21, 51, 53] [(0, pt q 0), (1, .slice A 64 C), (4, pt p3 0), (5, .int .i64 (i : Int)), (21, .int .i64 (i : Int)), (51, .int .u32 ((((wsN p i).getD (i - 15) 0) : Nat) : Int)), (53, .int .i64 (IntKind.i64.wrap ((i : Int) - 2)))] (by kernel_rfl) rfl ?_
      have e384 : (IntKind.i64.wrap ((i : Int) - 2)) = (((i - 2) : Nat) : Int) := by rw [in_i64 (by omega)]; omega
      refine GQ.eq (M' := [(0, pt q 0), (1, .slice A 64 C), (4, pt p3 0), (5, .int .i64 (i : Int)), (21, .int .i64 (i : Int)), (51, .int .u32 ((((wsN p i).getD (i - 15) 0) : Nat) : Int)), (53, .int .i64 (((i - 2) : Nat) : Int))]) (by rw [e384]) ?_
      clear e384
      refine GQ.sem (j := 7) (fun w_ H_ => run_idxArr (P := Try.prog) (k := .i64) (t := 71) (len := 64) (sz := 1) (b := p3) (o := 0) (j := (i - 2)) (by kernel_rfl) rfl (by omega)) [0, 1, 4, 5, 21, 51, 54] [(0, pt q 0), (1, .slice A 64 C), (4, pt p3 0), (5, .int .i64 (i : Int)), (21, .int .i64 (i : Int)), (51, .int .u32 ((((wsN p i).getD (i - 15) 0) : Nat) : Int)), (54, pt p3 (0 + (i - 2) * 1))] (by kernel_rfl) (by kernel_rfl) rfl ?_
      refine GQ.sem (j := 8) (fun w_ H_ => H_.ld (o := (0 + (i - 2) * 1)) (ty := 60) (v := .int .u32 ((((wsN p i).getD (i - 2) 0) : Nat) : Int)) 1 rfl (by kernel_rfl) (by rw [show (0 + (i - 2) * 1) = (i - 2) by omega]; exact u32s_at (wsP_at (by omega) (by omega)))) [0, 1, 4, 5, 21, 51, 55] [(0, pt q 0), (1, .slice A 64 C), (4, pt p3 0), (5, .int .i64 (i : Int)), (21, .int .i64 (i : Int)), (51, .int .u32 ((((wsN p i).getD (i - 15) 0) : Nat) : Int)), (55, .int .u32 ((((wsN p i).getD (i - 2) 0) : Nat) : Int))] (by kernel_rfl) (by kernel_rfl) rfl ?_
      refine GQ.run (j := 10) 2 [0, 1, 4, 5, 8, 9, 21] [(0, pt q 0), (1, .slice A 64 C), (4, pt p3 0), (5, .int .i64 (i : Int)), (8, .int .u32 ((((wsN p i).getD (i - 15) 0) : Nat) : Int)), (9, .int .u32 ((((wsN p i).getD (i - 2) 0) : Nat) : Int)), (21, .int .i64 (i : Int))] (by kernel_rfl) rfl ?_
      refine GQ.k rfl hK382 (fun _ _ h => h) (fun w385 H386 => ?_)
      refine G.seqK fun K387 hK388 => ?_
      refine G.region ?_
      refine GL.run (j := 1) 1 [0, 1, 4, 5, 8, 9, 21, 56] [(0, pt q 0), (1, .slice A 64 C), (4, pt p3 0), (5, .int .i64 (i : Int)), (8, .int .u32 ((((wsN p i).getD (i - 15) 0) : Nat) : Int)), (9, .int .u32 ((((wsN p i).getD (i - 2) 0) : Nat) : Int)), (21, .int .i64 (i : Int)), (56, .int .u32 ((((wsN p i).getD (i - 15) 0) : Nat) : Int))] (by kernel_rfl) rfl ?_
      refine GL.call (j := 2) (Turn7_calls ((wsN p i).getD (i - 15) 0) (getD_lt (wsN_lt p i) _) w385) (by kernel_rfl) rfl (fun e_ w389 hR => ?_)
      obtain ⟨rfl, H391⟩ := hR
      have H390 : Hp w S [.blk q (c8 s0 s1 s2 s3 s4 s5 s6 s7) 62, .blk p3 (u32s (wsP p i)) 71] w389 := H386.callNil H391
      refine ⟨_, rfl, [0, 1, 4, 5, 8, 9, 21, 57], [(0, pt q 0), (1, .slice A 64 C), (4, pt p3 0), (5, .int .i64 (i : Int)), (8, .int .u32 ((((wsN p i).getD (i - 15) 0) : Nat) : Int)), (9, .int .u32 ((((wsN p i).getD (i - 2) 0) : Nat) : Int)), (21, .int .i64 (i : Int)), (57, .int .u32 (((rt ((wsN p i).getD (i - 15) 0) 7) : Nat) : Int))], by kernel_rfl, ?_⟩
      refine GL.run (j := 3) 1 [0, 1, 4, 5, 8, 9, 21, 57, 58] [(0, pt q 0), (1, .slice A 64 C), (4, pt p3 0), (5, .int .i64 (i : Int)), (8, .int .u32 ((((wsN p i).getD (i - 15) 0) : Nat) : Int)), (9, .int .u32 ((((wsN p i).getD (i - 2) 0) : Nat) : Int)), (21, .int .i64 (i : Int)), (57, .int .u32 (((rt ((wsN p i).getD (i - 15) 0) 7) : Nat) : Int)), (58, .int .u32 ((((wsN p i).getD (i - 15) 0) : Nat) : Int))] (by kernel_rfl) rfl ?_
      refine GL.call (j := 4) (Turn18_calls ((wsN p i).getD (i - 15) 0) (getD_lt (wsN_lt p i) _) w389) (by kernel_rfl) rfl (fun e_ w392 hR => ?_)
      obtain ⟨rfl, H394⟩ := hR
      have H393 : Hp w S [.blk q (c8 s0 s1 s2 s3 s4 s5 s6 s7) 62, .blk p3 (u32s (wsP p i)) 71] w392 := H390.callNil H394
      refine ⟨_, rfl, [0, 1, 4, 5, 8, 9, 21, 57, 59], [(0, pt q 0), (1, .slice A 64 C), (4, pt p3 0), (5, .int .i64 (i : Int)), (8, .int .u32 ((((wsN p i).getD (i - 15) 0) : Nat) : Int)), (9, .int .u32 ((((wsN p i).getD (i - 2) 0) : Nat) : Int)), (21, .int .i64 (i : Int)), (57, .int .u32 (((rt ((wsN p i).getD (i - 15) 0) 7) : Nat) : Int)), (59, .int .u32 (((rt ((wsN p i).getD (i - 15) 0) 18) : Nat) : Int))], by kernel_rfl, ?_⟩
      refine GL.run (j := 9) 5 [0, 1, 4, 5, 9, 10, 21] [(0, pt q 0), (1, .slice A 64 C), (4, pt p3 0), (5, .int .i64 (i : Int)), (9, .int .u32 ((((wsN p i).getD (i - 2) 0) : Nat) : Int)), (10, .int .u32 (Go.bits .xor .u32 (Go.bits .xor .u32 (((rt ((wsN p i).getD (i - 15) 0) 7) : Nat) : Int) (((rt ((wsN p i).getD (i - 15) 0) 18) : Nat) : Int)) (Int.fdiv ((((wsN p i).getD (i - 15) 0) : Nat) : Int) (2 ^ 3)))), (21, .int .i64 (i : Int))] (by kernel_rfl) rfl ?_
      have e395 : (Go.bits .xor .u32 (((rt ((wsN p i).getD (i - 15) 0) 7) : Nat) : Int) (((rt ((wsN p i).getD (i - 15) 0) 18) : Nat) : Int)) = ((((rt ((wsN p i).getD (i - 15) 0) 7) ^^^ (rt ((wsN p i).getD (i - 15) 0) 18)) : Nat) : Int) := w_xor (rt_lt (getD_lt (wsN_lt p i) _)) (rt_lt (getD_lt (wsN_lt p i) _))
      have e396 : (Int.fdiv ((((wsN p i).getD (i - 15) 0) : Nat) : Int) (2 ^ 3)) = (((((wsN p i).getD (i - 15) 0) / 2 ^ 3) : Nat) : Int) := n_shr _ 3
      have e397 : (Go.bits .xor .u32 ((((rt ((wsN p i).getD (i - 15) 0) 7) ^^^ (rt ((wsN p i).getD (i - 15) 0) 18)) : Nat) : Int) (((((wsN p i).getD (i - 15) 0) / 2 ^ 3) : Nat) : Int)) = (((ssg0 ((wsN p i).getD (i - 15) 0)) : Nat) : Int) := w_xor (xor_lt32 (rt_lt (getD_lt (wsN_lt p i) _)) (rt_lt (getD_lt (wsN_lt p i) _))) (Nat.lt_of_le_of_lt (Nat.div_le_self _ _) (getD_lt (wsN_lt p i) _))
      refine GL.eq (M' := [(0, pt q 0), (1, .slice A 64 C), (4, pt p3 0), (5, .int .i64 (i : Int)), (9, .int .u32 ((((wsN p i).getD (i - 2) 0) : Nat) : Int)), (10, .int .u32 (((ssg0 ((wsN p i).getD (i - 15) 0)) : Nat) : Int)), (21, .int .i64 (i : Int))]) (by rw [e395, e396, e397]) ?_
      clear e395 e396 e397
      refine GL.k rfl hK388 (fun _ _ h => h) ?_
      refine G.seqK fun K398 hK399 => ?_
      refine G.region ?_
      refine GL.run (j := 1) 1 [0, 1, 4, 5, 9, 10, 21, 64] [(0, pt q 0), (1, .slice A 64 C), (4, pt p3 0), (5, .int .i64 (i : Int)), (9, .int .u32 ((((wsN p i).getD (i - 2) 0) : Nat) : Int)), (10, .int .u32 (((ssg0 ((wsN p i).getD (i - 15) 0)) : Nat) : Int)), (21, .int .i64 (i : Int)), (64, .int .u32 ((((wsN p i).getD (i - 2) 0) : Nat) : Int))] (by kernel_rfl) rfl ?_
      refine GL.call (j := 2) (Turn17_calls ((wsN p i).getD (i - 2) 0) (getD_lt (wsN_lt p i) _) w392) (by kernel_rfl) rfl (fun e_ w400 hR => ?_)
      obtain ⟨rfl, H402⟩ := hR
      have H401 : Hp w S [.blk q (c8 s0 s1 s2 s3 s4 s5 s6 s7) 62, .blk p3 (u32s (wsP p i)) 71] w400 := H393.callNil H402
      refine ⟨_, rfl, [0, 1, 4, 5, 9, 10, 21, 65], [(0, pt q 0), (1, .slice A 64 C), (4, pt p3 0), (5, .int .i64 (i : Int)), (9, .int .u32 ((((wsN p i).getD (i - 2) 0) : Nat) : Int)), (10, .int .u32 (((ssg0 ((wsN p i).getD (i - 15) 0)) : Nat) : Int)), (21, .int .i64 (i : Int)), (65, .int .u32 (((rt ((wsN p i).getD (i - 2) 0) 17) : Nat) : Int))], by kernel_rfl, ?_⟩
      refine GL.run (j := 3) 1 [0, 1, 4, 5, 9, 10, 21, 65, 66] [(0, pt q 0), (1, .slice A 64 C), (4, pt p3 0), (5, .int .i64 (i : Int)), (9, .int .u32 ((((wsN p i).getD (i - 2) 0) : Nat) : Int)), (10, .int .u32 (((ssg0 ((wsN p i).getD (i - 15) 0)) : Nat) : Int)), (21, .int .i64 (i : Int)), (65, .int .u32 (((rt ((wsN p i).getD (i - 2) 0) 17) : Nat) : Int)), (66, .int .u32 ((((wsN p i).getD (i - 2) 0) : Nat) : Int))] (by kernel_rfl) rfl ?_
      refine GL.call (j := 4) (Turn19_calls ((wsN p i).getD (i - 2) 0) (getD_lt (wsN_lt p i) _) w400) (by kernel_rfl) rfl (fun e_ w403 hR => ?_)
      obtain ⟨rfl, H405⟩ := hR
      have H404 : Hp w S [.blk q (c8 s0 s1 s2 s3 s4 s5 s6 s7) 62, .blk p3 (u32s (wsP p i)) 71] w403 := H401.callNil H405
      refine ⟨_, rfl, [0, 1, 4, 5, 9, 10, 21, 65, 67], [(0, pt q 0), (1, .slice A 64 C), (4, pt p3 0), (5, .int .i64 (i : Int)), (9, .int .u32 ((((wsN p i).getD (i - 2) 0) : Nat) : Int)), (10, .int .u32 (((ssg0 ((wsN p i).getD (i - 15) 0)) : Nat) : Int)), (21, .int .i64 (i : Int)), (65, .int .u32 (((rt ((wsN p i).getD (i - 2) 0) 17) : Nat) : Int)), (67, .int .u32 (((rt ((wsN p i).getD (i - 2) 0) 19) : Nat) : Int))], by kernel_rfl, ?_⟩
      refine GL.run (j := 9) 5 [0, 1, 4, 5, 10, 11, 21] [(0, pt q 0), (1, .slice A 64 C), (4, pt p3 0), (5, .int .i64 (i : Int)), (10, .int .u32 (((ssg0 ((wsN p i).getD (i - 15) 0)) : Nat) : Int)), (11, .int .u32 (Go.bits .xor .u32 (Go.bits .xor .u32 (((rt ((wsN p i).getD (i - 2) 0) 17) : Nat) : Int) (((rt ((wsN p i).getD (i - 2) 0) 19) : Nat) : Int)) (Int.fdiv ((((wsN p i).getD (i - 2) 0) : Nat) : Int) (2 ^ 10)))), (21, .int .i64 (i : Int))] (by kernel_rfl) rfl ?_
      have e406 : (Go.bits .xor .u32 (((rt ((wsN p i).getD (i - 2) 0) 17) : Nat) : Int) (((rt ((wsN p i).getD (i - 2) 0) 19) : Nat) : Int)) = ((((rt ((wsN p i).getD (i - 2) 0) 17) ^^^ (rt ((wsN p i).getD (i - 2) 0) 19)) : Nat) : Int) := w_xor (rt_lt (getD_lt (wsN_lt p i) _)) (rt_lt (getD_lt (wsN_lt p i) _))
      have e407 : (Int.fdiv ((((wsN p i).getD (i - 2) 0) : Nat) : Int) (2 ^ 10)) = (((((wsN p i).getD (i - 2) 0) / 2 ^ 10) : Nat) : Int) := n_shr _ 10
      have e408 : (Go.bits .xor .u32 ((((rt ((wsN p i).getD (i - 2) 0) 17) ^^^ (rt ((wsN p i).getD (i - 2) 0) 19)) : Nat) : Int) (((((wsN p i).getD (i - 2) 0) / 2 ^ 10) : Nat) : Int)) = (((ssg1 ((wsN p i).getD (i - 2) 0)) : Nat) : Int) := w_xor (xor_lt32 (rt_lt (getD_lt (wsN_lt p i) _)) (rt_lt (getD_lt (wsN_lt p i) _))) (Nat.lt_of_le_of_lt (Nat.div_le_self _ _) (getD_lt (wsN_lt p i) _))
      refine GL.eq (M' := [(0, pt q 0), (1, .slice A 64 C), (4, pt p3 0), (5, .int .i64 (i : Int)), (10, .int .u32 (((ssg0 ((wsN p i).getD (i - 15) 0)) : Nat) : Int)), (11, .int .u32 (((ssg1 ((wsN p i).getD (i - 2) 0)) : Nat) : Int)), (21, .int .i64 (i : Int))]) (by rw [e406, e407, e408]) ?_
      clear e406 e407 e408
      refine GL.k rfl hK399 (fun _ _ h => h) ?_
      refine G.tail 15 (by kernel_rfl) (by kernel_rfl) ?_
      have H409 := H404.drew
      generalize ({ w403 with drawn := w403.drawn + 1 } : World) = w410 at H409 ⊢
      refine GS.run (j := 3) 3 [0, 1, 4, 5, 10, 11, 21, 72, 74] [(0, pt q 0), (1, .slice A 64 C), (4, pt p3 0), (5, .int .i64 (i : Int)), (10, .int .u32 (((ssg0 ((wsN p i).getD (i - 15) 0)) : Nat) : Int)), (11, .int .u32 (((ssg1 ((wsN p i).getD (i - 2) 0)) : Nat) : Int)), (21, .int .i64 (i : Int)), (72, .int .i64 (i : Int)), (74, .int .i64 (IntKind.i64.wrap ((i : Int) - 16)))] (by kernel_rfl) rfl rfl ?_
      have e411 : (IntKind.i64.wrap ((i : Int) - 16)) = (((i - 16) : Nat) : Int) := by rw [in_i64 (by omega)]; omega
      refine GS.eq (M' := [(0, pt q 0), (1, .slice A 64 C), (4, pt p3 0), (5, .int .i64 (i : Int)), (10, .int .u32 (((ssg0 ((wsN p i).getD (i - 15) 0)) : Nat) : Int)), (11, .int .u32 (((ssg1 ((wsN p i).getD (i - 2) 0)) : Nat) : Int)), (21, .int .i64 (i : Int)), (72, .int .i64 (i : Int)), (74, .int .i64 (((i - 16) : Nat) : Int))]) (by rw [e411]) ?_
      clear e411
      refine GS.sem (j := 4) (run_idxArr (P := Try.prog) (k := .i64) (t := 71) (len := 64) (sz := 1) (b := p3) (o := 0) (j := (i - 16)) (by kernel_rfl) rfl (by omega)) [0, 1, 4, 5, 10, 11, 21, 72, 75] [(0, pt q 0), (1, .slice A 64 C), (4, pt p3 0), (5, .int .i64 (i : Int)), (10, .int .u32 (((ssg0 ((wsN p i).getD (i - 15) 0)) : Nat) : Int)), (11, .int .u32 (((ssg1 ((wsN p i).getD (i - 2) 0)) : Nat) : Int)), (21, .int .i64 (i : Int)), (72, .int .i64 (i : Int)), (75, pt p3 (0 + (i - 16) * 1))] (by kernel_rfl) (by kernel_rfl) rfl rfl ?_
      refine GS.sem (j := 5) (H409.ld (o := (0 + (i - 16) * 1)) (ty := 60) (v := .int .u32 ((((wsN p i).getD (i - 16) 0) : Nat) : Int)) 1 rfl (by kernel_rfl) (by rw [show (0 + (i - 16) * 1) = (i - 16) by omega]; exact u32s_at (wsP_at (by omega) (by omega)))) [0, 1, 4, 5, 10, 11, 21, 72, 76] [(0, pt q 0), (1, .slice A 64 C), (4, pt p3 0), (5, .int .i64 (i : Int)), (10, .int .u32 (((ssg0 ((wsN p i).getD (i - 15) 0)) : Nat) : Int)), (11, .int .u32 (((ssg1 ((wsN p i).getD (i - 2) 0)) : Nat) : Int)), (21, .int .i64 (i : Int)), (72, .int .i64 (i : Int)), (76, .int .u32 ((((wsN p i).getD (i - 16) 0) : Nat) : Int))] (by kernel_rfl) (by kernel_rfl) rfl rfl ?_
      refine GS.run (j := 9) 4 [0, 1, 4, 11, 21, 72, 78, 80] [(0, pt q 0), (1, .slice A 64 C), (4, pt p3 0), (11, .int .u32 (((ssg1 ((wsN p i).getD (i - 2) 0)) : Nat) : Int)), (21, .int .i64 (i : Int)), (72, .int .i64 (i : Int)), (78, .int .u32 (IntKind.u32.wrap (((((wsN p i).getD (i - 16) 0) : Nat) : Int) + (((ssg0 ((wsN p i).getD (i - 15) 0)) : Nat) : Int)))), (80, .int .i64 (IntKind.i64.wrap ((i : Int) - 7)))] (by kernel_rfl) rfl rfl ?_
      have e412 : (IntKind.u32.wrap (((((wsN p i).getD (i - 16) 0) : Nat) : Int) + (((ssg0 ((wsN p i).getD (i - 15) 0)) : Nat) : Int))) = (((((wsN p i).getD (i - 16) 0) + (ssg0 ((wsN p i).getD (i - 15) 0))) % W32 : Nat) : Int) := w_add _ _
      have e413 : (IntKind.i64.wrap ((i : Int) - 7)) = (((i - 7) : Nat) : Int) := by rw [in_i64 (by omega)]; omega
      refine GS.eq (M' := [(0, pt q 0), (1, .slice A 64 C), (4, pt p3 0), (11, .int .u32 (((ssg1 ((wsN p i).getD (i - 2) 0)) : Nat) : Int)), (21, .int .i64 (i : Int)), (72, .int .i64 (i : Int)), (78, .int .u32 (((((wsN p i).getD (i - 16) 0) + (ssg0 ((wsN p i).getD (i - 15) 0))) % W32 : Nat) : Int)), (80, .int .i64 (((i - 7) : Nat) : Int))]) (by rw [e412, e413]) ?_
      clear e412 e413
      refine GS.sem (j := 10) (run_idxArr (P := Try.prog) (k := .i64) (t := 71) (len := 64) (sz := 1) (b := p3) (o := 0) (j := (i - 7)) (by kernel_rfl) rfl (by omega)) [0, 1, 4, 11, 21, 72, 78, 81] [(0, pt q 0), (1, .slice A 64 C), (4, pt p3 0), (11, .int .u32 (((ssg1 ((wsN p i).getD (i - 2) 0)) : Nat) : Int)), (21, .int .i64 (i : Int)), (72, .int .i64 (i : Int)), (78, .int .u32 (((((wsN p i).getD (i - 16) 0) + (ssg0 ((wsN p i).getD (i - 15) 0))) % W32 : Nat) : Int)), (81, pt p3 (0 + (i - 7) * 1))] (by kernel_rfl) (by kernel_rfl) rfl rfl ?_
      refine GS.sem (j := 11) (H409.ld (o := (0 + (i - 7) * 1)) (ty := 60) (v := .int .u32 ((((wsN p i).getD (i - 7) 0) : Nat) : Int)) 1 rfl (by kernel_rfl) (by rw [show (0 + (i - 7) * 1) = (i - 7) by omega]; exact u32s_at (wsP_at (by omega) (by omega)))) [0, 1, 4, 11, 21, 72, 78, 82] [(0, pt q 0), (1, .slice A 64 C), (4, pt p3 0), (11, .int .u32 (((ssg1 ((wsN p i).getD (i - 2) 0)) : Nat) : Int)), (21, .int .i64 (i : Int)), (72, .int .i64 (i : Int)), (78, .int .u32 (((((wsN p i).getD (i - 16) 0) + (ssg0 ((wsN p i).getD (i - 15) 0))) % W32 : Nat) : Int)), (82, .int .u32 ((((wsN p i).getD (i - 7) 0) : Nat) : Int))] (by kernel_rfl) (by kernel_rfl) rfl rfl ?_
      refine GS.run (j := 14) 3 [0, 1, 4, 21, 72, 85] [(0, pt q 0), (1, .slice A 64 C), (4, pt p3 0), (21, .int .i64 (i : Int)), (72, .int .i64 (i : Int)), (85, .int .u32 (IntKind.u32.wrap ((IntKind.u32.wrap ((((((wsN p i).getD (i - 16) 0) + (ssg0 ((wsN p i).getD (i - 15) 0))) % W32 : Nat) : Int) + ((((wsN p i).getD (i - 7) 0) : Nat) : Int))) + (((ssg1 ((wsN p i).getD (i - 2) 0)) : Nat) : Int))))] (by kernel_rfl) rfl rfl ?_
      have e414 : (IntKind.u32.wrap ((((((wsN p i).getD (i - 16) 0) + (ssg0 ((wsN p i).getD (i - 15) 0))) % W32 : Nat) : Int) + ((((wsN p i).getD (i - 7) 0) : Nat) : Int))) = (((((wsN p i).getD (i - 16) 0) + (ssg0 ((wsN p i).getD (i - 15) 0)) + ((wsN p i).getD (i - 7) 0)) % W32 : Nat) : Int) := w_addm _ _
      have e415 : (IntKind.u32.wrap ((((((wsN p i).getD (i - 16) 0) + (ssg0 ((wsN p i).getD (i - 15) 0)) + ((wsN p i).getD (i - 7) 0)) % W32 : Nat) : Int) + (((ssg1 ((wsN p i).getD (i - 2) 0)) : Nat) : Int))) = (((((wsN p i).getD (i - 16) 0) + (ssg0 ((wsN p i).getD (i - 15) 0)) + ((wsN p i).getD (i - 7) 0) + (ssg1 ((wsN p i).getD (i - 2) 0))) % W32 : Nat) : Int) := w_addm _ _
      refine GS.eq (M' := [(0, pt q 0), (1, .slice A 64 C), (4, pt p3 0), (21, .int .i64 (i : Int)), (72, .int .i64 (i : Int)), (85, .int .u32 (((((wsN p i).getD (i - 16) 0) + (ssg0 ((wsN p i).getD (i - 15) 0)) + ((wsN p i).getD (i - 7) 0) + (ssg1 ((wsN p i).getD (i - 2) 0))) % W32 : Nat) : Int))]) (by rw [e414, e415]) ?_
      clear e414 e415
      refine GS.sem (j := 15) (run_idxArr (P := Try.prog) (k := .i64) (t := 71) (len := 64) (sz := 1) (b := p3) (o := 0) (j := i) (by kernel_rfl) rfl (by omega)) [0, 1, 4, 21, 85, 86] [(0, pt q 0), (1, .slice A 64 C), (4, pt p3 0), (21, .int .i64 (i : Int)), (85, .int .u32 (((((wsN p i).getD (i - 16) 0) + (ssg0 ((wsN p i).getD (i - 15) 0)) + ((wsN p i).getD (i - 7) 0) + (ssg1 ((wsN p i).getD (i - 2) 0))) % W32 : Nat) : Int)), (86, pt p3 (0 + i * 1))] (by kernel_rfl) (by kernel_rfl) rfl rfl ?_
      refine GS.tail rfl ?_
      obtain ⟨w416, r417, H418⟩ := H409.st (P := Try.prog) (o := (0 + i * 1)) (ty := 60) (v := .int .u32 (((((wsN p i).getD (i - 16) 0) + (ssg0 ((wsN p i).getD (i - 15) 0)) + ((wsN p i).getD (i - 7) 0) + (ssg1 ((wsN p i).getD (i - 2) 0))) % W32 : Nat) : Int)) 1 rfl (by kernel_rfl) (by rw [u32s_length, wsP_length (by omega)]; omega) rfl
      rw [show (0 + i * 1) = i by omega, u32s_set] at H418
      have H418 : Hp w S [.blk q (c8 s0 s1 s2 s3 s4 s5 s6 s7) 62, .blk p3 (u32s (List.set (wsP p i) i ((((wsN p i).getD (i - 16) 0) + (ssg0 ((wsN p i).getD (i - 15) 0)) + ((wsN p i).getD (i - 7) 0) + (ssg1 ((wsN p i).getD (i - 2) 0))) % W32))) 71] w416 := H418
      refine GL.semU (j := 16) r417 [0, 1, 4, 21] [(0, pt q 0), (1, .slice A 64 C), (4, pt p3 0), (21, .int .i64 (i : Int))] (by kernel_rfl) rfl rfl rfl ?_
      refine GL.k rfl hK373 (fun _ _ h => h) ?_
      refine G.region ?_
      refine GL.run (j := 2) 2 [0, 1, 4, 21] [(0, pt q 0), (1, .slice A 64 C), (4, pt p3 0), (21, .int .i64 (IntKind.i64.wrap ((i : Int) + 1)))] (by kernel_rfl) rfl ?_
      have e419 : (IntKind.i64.wrap ((i : Int) + 1)) = ((i + 1 : Nat) : Int) := by rw [in_i64 (by omega)]; omega
      refine GL.eq (M' := [(0, pt q 0), (1, .slice A 64 C), (4, pt p3 0), (21, .int .i64 ((i + 1 : Nat) : Int))]) (by rw [e419]) ?_
      clear e419
      have H420 : Hp w S [.blk q (c8 s0 s1 s2 s3 s4 s5 s6 s7) 62, .blk p3 (u32s (wsP p (i + 1))) 71] w416 := by rw [← wsP_set (v := ((((wsN p i).getD (i - 16) 0) + (ssg0 ((wsN p i).getD (i - 15) 0)) + ((wsN p i).getD (i - 7) 0) + (ssg1 ((wsN p i).getD (i - 2) 0))) % W32)) (by omega) (by rw [if_neg (by omega)])]; exact H418
      refine GL.fit (ts := [0, 1, 4, 21]) (M' := [(0, pt q 0), (1, .slice A 64 C), (4, pt p3 0), (21, .int .i64 ((i + 1 : Nat) : Int))]) (by kernel_rfl) ?_
      refine GL.eq (M' := [(0, pt q 0), (1, .slice A 64 C), (4, pt p3 0), (21, .int .i64 (((i + 1) : Nat) : Int))]) (by rfl) ?_
      exact GL.again (i + 1) [0, 1, 4, 21] rfl (by kernel_rfl) (by show 64 - (i + 1) < 64 - i; omega) ⟨by omega, H420⟩
    · skip
      have hb380f := of_decide_eq_true hb380
      refine G.yes rfl ?_
      refine G.seqK fun K422 hK423 => ?_
      refine G.seqK fun K424 hK425 => ?_
      refine G.region ?_
      refine GL.run (j := 6) 6 [0, 1, 4, 5, 21, 26, 28, 31] [(0, pt q 0), (1, .slice A 64 C), (4, pt p3 0), (5, .int .i64 (i : Int)), (21, .int .i64 (i : Int)), (26, .slice A 64 C), (28, .int .i64 (IntKind.i64.wrap (4 * (i : Int)))), (31, .int .i64 (IntKind.i64.wrap ((IntKind.i64.wrap (4 * (i : Int))) + 4)))] (by kernel_rfl) rfl ?_
      have e426 : (IntKind.i64.wrap (4 * (i : Int))) = ((4 * i : Nat) : Int) := by rw [in_i64 (by omega)]; omega
      have e427 : (IntKind.i64.wrap (((4 * i : Nat) : Int) + 4)) = (((4 * i) + 4 : Nat) : Int) := by rw [in_i64 (by omega)]; omega
      refine GL.eq (M' := [(0, pt q 0), (1, .slice A 64 C), (4, pt p3 0), (5, .int .i64 (i : Int)), (21, .int .i64 (i : Int)), (26, .slice A 64 C), (28, .int .i64 ((4 * i : Nat) : Int)), (31, .int .i64 (((4 * i) + 4 : Nat) : Int))]) (by rw [e426, e427]) ?_
      clear e426 e427
      refine GL.sem (j := 7) (run_sliceN (P := Try.prog) (t := 49) (len := 64) (A := A) (k1 := .i64) (k2 := .i64) (cap := C) (l := 4 * i) (h := (4 * i) + 4) (n := 4) (by kernel_rfl) rfl (by omega) _) [0, 1, 4, 5, 21, 32] [(0, pt q 0), (1, .slice A 64 C), (4, pt p3 0), (5, .int .i64 (i : Int)), (21, .int .i64 (i : Int)), (32, .slice (if C = (4 * i) then A else Option.map (fun x => Addr.add x (4 * i)) A) 4 (C - 4 * i))] (by kernel_rfl) (by kernel_rfl) rfl ?_
      refine GL.run (j := 9) 2 [0, 1, 4, 5, 21, 32, 33, 34] [(0, pt q 0), (1, .slice A 64 C), (4, pt p3 0), (5, .int .i64 (i : Int)), (21, .int .i64 (i : Int)), (32, .slice (if C = (4 * i) then A else Option.map (fun x => Addr.add x (4 * i)) A) 4 (C - 4 * i)), (33, .int .i64 4), (34, .int .i64 0)] (by kernel_rfl) rfl ?_
      refine GL.k rfl hK425 (fun _ _ h => h) ?_
      refine G.block ?_
      have H428 : Hp w S [.blk q (c8 s0 s1 s2 s3 s4 s5 s6 s7) 62, .blk p3 (u32s (List.set (wsP p i) i (beF p (4 * i) 0))) 71] w11 := by rw [show beF p (4 * i) 0 = 0 from rfl, wsP_none (by omega)]; exact H13
      refine G.fit [0, 1, 4, 5, 21, 32, 33, 34] (M' := [(0, pt q 0), (1, .slice A 64 C), (4, pt p3 0), (5, .int .i64 (i : Int)), (21, .int .i64 (i : Int)), (32, .slice (if C = (4 * i) then A else Option.map (fun x => Addr.add x (4 * i)) A) 4 (C - 4 * i)), (33, .int .i64 4), (34, .int .i64 0)]) (by kernel_rfl) ?_
      refine G.loop (X := Nat) (fun k => [(0, pt q 0), (1, .slice A 64 C), (4, pt p3 0), (5, .int .i64 (i : Int)), (21, .int .i64 (i : Int)), (32, .slice (if C = (4 * i) then A else Option.map (fun x => Addr.add x (4 * i)) A) 4 (C - 4 * i)), (33, .int .i64 4), (34, .int .i64 (k : Int))]) (fun k w_ => (k ≤ 4) ∧ Hp w S [.blk q (c8 s0 s1 s2 s3 s4 s5 s6 s7) 62, .blk p3 (u32s (List.set (wsP p i) i (beF p (4 * i) k))) 71] w_) (fun k => 4 - k) 0 [0, 1, 4, 5, 21, 32, 33, 34] (by kernel_rfl) ⟨by omega, H428⟩ ?_
      rintro k w429 ⟨hi430, H431⟩
      refine G.eq (M' := [(0, pt q 0), (1, .slice A 64 C), (4, pt p3 0), (5, .int .i64 (i : Int)), (21, .int .i64 (i : Int)), (32, .slice (if C = (4 * i) then A else Option.map (fun x => Addr.add x (4 * i)) A) 4 (C - 4 * i)), (33, .int .i64 4), (34, .int .i64 (k : Int))]) rfl ?_
      have H431 : Hp w S [.blk q (c8 s0 s1 s2 s3 s4 s5 s6 s7) 62, .blk p3 (u32s (List.set (wsP p i) i (beF p (4 * i) k))) 71] w429 := H431
      have hk4 := hi430
      refine G.seqK fun K432 hK433 => ?_
      refine G.region ?_
      refine GL.run (j := 1) 1 [0, 1, 4, 5, 21, 32, 33, 34, 35] [(0, pt q 0), (1, .slice A 64 C), (4, pt p3 0), (5, .int .i64 (i : Int)), (21, .int .i64 (i : Int)), (32, .slice (if C = (4 * i) then A else Option.map (fun x => Addr.add x (4 * i)) A) 4 (C - 4 * i)), (33, .int .i64 4), (34, .int .i64 (k : Int)), (35, .bool (decide ((k : Int) < 4)))] (by kernel_rfl) rfl ?_
      refine GL.k rfl hK433 (fun _ _ h => h) ?_
      refine G.seqK fun K434 hK435 => ?_
      cases hb436 : (decide ((k : Int) < 4))
      · skip
        have hb436f := of_decide_eq_false hb436
        refine G.no rfl ?_
        refine G.exitK hK423 (fun _ _ h => h) ?_
        refine G.exitK hK373 (fun _ _ h => h) ?_
        refine G.region ?_
        refine GL.run (j := 2) 2 [0, 1, 4, 21] [(0, pt q 0), (1, .slice A 64 C), (4, pt p3 0), (21, .int .i64 (IntKind.i64.wrap ((i : Int) + 1)))] (by kernel_rfl) rfl ?_
        have e437 : (IntKind.i64.wrap ((i : Int) + 1)) = ((i + 1 : Nat) : Int) := by rw [in_i64 (by omega)]; omega
        refine GL.eq (M' := [(0, pt q 0), (1, .slice A 64 C), (4, pt p3 0), (21, .int .i64 ((i + 1 : Nat) : Int))]) (by rw [e437]) ?_
        clear e437
        have H438 : Hp w S [.blk q (c8 s0 s1 s2 s3 s4 s5 s6 s7) 62, .blk p3 (u32s (wsP p (i + 1))) 71] w429 := by rw [← wsP_set (v := (beF p (4 * i) k)) (by omega) (by rw [if_pos (by omega), show k = 4 by omega])]; exact H431
        refine GL.fit (ts := [0, 1, 4, 21]) (M' := [(0, pt q 0), (1, .slice A 64 C), (4, pt p3 0), (21, .int .i64 ((i + 1 : Nat) : Int))]) (by kernel_rfl) ?_
        refine GL.eq (M' := [(0, pt q 0), (1, .slice A 64 C), (4, pt p3 0), (21, .int .i64 (((i + 1) : Nat) : Int))]) (by rfl) ?_
        exact GL.again (i + 1) [0, 1, 4, 21] rfl (by kernel_rfl) (by show 64 - (i + 1) < 64 - i; omega) ⟨by omega, H438⟩
      · skip
        have hb436f := of_decide_eq_true hb436
        refine G.yes rfl ?_
        refine G.skipK hK435 (fun _ _ h => h) ?_
        refine G.seqK fun K440 hK441 => ?_
        refine G.block ?_
        refine G.seqK fun K442 hK443 => ?_
        refine G.region ?_
        refine GL.sem (j := 1) (run_idxRd (P := Try.prog) (k := .i64) (t := 49) (A := (if C = (4 * i) then A else Option.map (fun x => Addr.add x (4 * i)) A)) (len := 4) (cap := (C - 4 * i)) (j := k) (by kernel_rfl) rfl (RdS.cut8 (cap := C) (hx.hp H431) (4 * i) (4 * i + 4) (cs := ((p.take (4 * i + 4)).drop (4 * i))) (by omega) rfl) (by rw [by8_length]; rw [List.length_drop, List.length_take]; omega) (by omega)) [0, 1, 4, 5, 21, 32, 33, 34, 36] [(0, pt q 0), (1, .slice A 64 C), (4, pt p3 0), (5, .int .i64 (i : Int)), (21, .int .i64 (i : Int)), (32, .slice (if C = (4 * i) then A else Option.map (fun x => Addr.add x (4 * i)) A) 4 (C - 4 * i)), (33, .int .i64 4), (34, .int .i64 (k : Int)), (36, .pointer (Option.map (fun x => Addr.add x k) (if C = (4 * i) then A else Option.map (fun x => Addr.add x (4 * i)) A)))] (by kernel_rfl) (by kernel_rfl) rfl ?_
        refine GL.sem (j := 2) (run_ldRd (P := Try.prog) (ty := 5) (A := (if C = (4 * i) then A else Option.map (fun x => Addr.add x (4 * i)) A)) (j := k) (v := .int .u8 ((((p.take (4 * i + 4)).drop (4 * i)).getD k 0).toNat : Int)) (by kernel_rfl) (RdS.cut8 (cap := C) (hx.hp H431) (4 * i) (4 * i + 4) (cs := ((p.take (4 * i + 4)).drop (4 * i))) (by omega) rfl) (by8_at (getD8 (by rw [List.length_drop, List.length_take]; omega)))) [0, 1, 4, 5, 21, 32, 33, 34, 37] [(0, pt q 0), (1, .slice A 64 C), (4, pt p3 0), (5, .int .i64 (i : Int)), (21, .int .i64 (i : Int)), (32, .slice (if C = (4 * i) then A else Option.map (fun x => Addr.add x (4 * i)) A) 4 (C - 4 * i)), (33, .int .i64 4), (34, .int .i64 (k : Int)), (37, .int .u8 ((((p.take (4 * i + 4)).drop (4 * i)).getD k 0).toNat : Int))] (by kernel_rfl) (by kernel_rfl) rfl ?_
        refine GL.run (j := 3) 1 [0, 1, 4, 5, 7, 21, 32, 33, 34] [(0, pt q 0), (1, .slice A 64 C), (4, pt p3 0), (5, .int .i64 (i : Int)), (7, .int .u8 ((((p.take (4 * i + 4)).drop (4 * i)).getD k 0).toNat : Int)), (21, .int .i64 (i : Int)), (32, .slice (if C = (4 * i) then A else Option.map (fun x => Addr.add x (4 * i)) A) 4 (C - 4 * i)), (33, .int .i64 4), (34, .int .i64 (k : Int))] (by kernel_rfl) rfl ?_
        refine GL.k rfl hK443 (fun _ _ h => h) ?_
        refine G.region ?_
        refine GL.run (j := 2) 2 [0, 1, 4, 5, 7, 21, 32, 33, 34, 38, 39] [(0, pt q 0), (1, .slice A 64 C), (4, pt p3 0), (5, .int .i64 (i : Int)), (7, .int .u8 ((((p.take (4 * i + 4)).drop (4 * i)).getD k 0).toNat : Int)), (21, .int .i64 (i : Int)), (32, .slice (if C = (4 * i) then A else Option.map (fun x => Addr.add x (4 * i)) A) 4 (C - 4 * i)), (33, .int .i64 4), (34, .int .i64 (k : Int)), (38, .int .i64 (i : Int)), (39, .int .i64 (i : Int))] (by kernel_rfl) rfl ?_
        refine GL.sem (j := 3) (run_idxArr (P := Try.prog) (k := .i64) (t := 71) (len := 64) (sz := 1) (b := p3) (o := 0) (j := i) (by kernel_rfl) rfl (by omega)) [0, 1, 4, 5, 7, 21, 32, 33, 34, 38, 40] [(0, pt q 0), (1, .slice A 64 C), (4, pt p3 0), (5, .int .i64 (i : Int)), (7, .int .u8 ((((p.take (4 * i + 4)).drop (4 * i)).getD k 0).toNat : Int)), (21, .int .i64 (i : Int)), (32, .slice (if C = (4 * i) then A else Option.map (fun x => Addr.add x (4 * i)) A) 4 (C - 4 * i)), (33, .int .i64 4), (34, .int .i64 (k : Int)), (38, .int .i64 (i : Int)), (40, pt p3 (0 + i * 1))] (by kernel_rfl) (by kernel_rfl) rfl ?_
        have hbk : (beF p (4 * i) k) < 16777216 := Nat.lt_of_lt_of_le (beF_lt p (4 * i) k) (Nat.pow_le_pow_right (n := 256) (by decide) (show k ≤ 3 by omega))
        refine GL.sem (j := 4) (H431.ld (o := (0 + i * 1)) (ty := 60) (v := .int .u32 (((beF p (4 * i) k) : Nat) : Int)) 1 rfl (by kernel_rfl) (by rw [show (0 + i * 1) = i by omega]; exact u32s_at (wsP_put (by omega)))) [0, 1, 4, 5, 7, 21, 32, 33, 34, 38, 41] [(0, pt q 0), (1, .slice A 64 C), (4, pt p3 0), (5, .int .i64 (i : Int)), (7, .int .u8 ((((p.take (4 * i + 4)).drop (4 * i)).getD k 0).toNat : Int)), (21, .int .i64 (i : Int)), (32, .slice (if C = (4 * i) then A else Option.map (fun x => Addr.add x (4 * i)) A) 4 (C - 4 * i)), (33, .int .i64 4), (34, .int .i64 (k : Int)), (38, .int .i64 (i : Int)), (41, .int .u32 (((beF p (4 * i) k) : Nat) : Int))] (by kernel_rfl) (by kernel_rfl) rfl ?_
        refine GL.run (j := 8) 4 [0, 1, 4, 5, 21, 32, 33, 34, 38, 45] [(0, pt q 0), (1, .slice A 64 C), (4, pt p3 0), (5, .int .i64 (i : Int)), (21, .int .i64 (i : Int)), (32, .slice (if C = (4 * i) then A else Option.map (fun x => Addr.add x (4 * i)) A) 4 (C - 4 * i)), (33, .int .i64 4), (34, .int .i64 (k : Int)), (38, .int .i64 (i : Int)), (45, .int .u32 (Go.bits .or .u32 (IntKind.u32.wrap ((((beF p (4 * i) k) : Nat) : Int) * 2 ^ 8)) (IntKind.u32.wrap ((((p.take (4 * i + 4)).drop (4 * i)).getD k 0).toNat : Int))))] (by kernel_rfl) rfl ?_
        have e444 : (IntKind.u32.wrap ((((beF p (4 * i) k) : Nat) : Int) * 2 ^ 8)) = ((((beF p (4 * i) k) * 256) : Nat) : Int) := w_shl8 hbk
        have e445 : (IntKind.u32.wrap ((((p.take (4 * i + 4)).drop (4 * i)).getD k 0).toNat : Int)) = ((((p.take (4 * i + 4)).drop (4 * i)).getD k 0).toNat : Int) := u8_up_u32 _
        have e446 : (Go.bits .or .u32 ((((beF p (4 * i) k) * 256) : Nat) : Int) ((((p.take (4 * i + 4)).drop (4 * i)).getD k 0).toNat : Int)) = (((((beF p (4 * i) k) * 256) + ((((p.take (4 * i + 4)).drop (4 * i)).getD k 0).toNat)) : Nat) : Int) := w_orbyte hbk (UInt8.toNat_lt _)
        refine GL.eq (M' := [(0, pt q 0), (1, .slice A 64 C), (4, pt p3 0), (5, .int .i64 (i : Int)), (21, .int .i64 (i : Int)), (32, .slice (if C = (4 * i) then A else Option.map (fun x => Addr.add x (4 * i)) A) 4 (C - 4 * i)), (33, .int .i64 4), (34, .int .i64 (k : Int)), (38, .int .i64 (i : Int)), (45, .int .u32 (((((beF p (4 * i) k) * 256) + ((((p.take (4 * i + 4)).drop (4 * i)).getD k 0).toNat)) : Nat) : Int))]) (by rw [e444, e445, e446]) ?_
        clear e444 e445 e446
        refine GL.sem (j := 9) (run_idxArr (P := Try.prog) (k := .i64) (t := 71) (len := 64) (sz := 1) (b := p3) (o := 0) (j := i) (by kernel_rfl) rfl (by omega)) [0, 1, 4, 5, 21, 32, 33, 34, 45, 46] [(0, pt q 0), (1, .slice A 64 C), (4, pt p3 0), (5, .int .i64 (i : Int)), (21, .int .i64 (i : Int)), (32, .slice (if C = (4 * i) then A else Option.map (fun x => Addr.add x (4 * i)) A) 4 (C - 4 * i)), (33, .int .i64 4), (34, .int .i64 (k : Int)), (45, .int .u32 (((((beF p (4 * i) k) * 256) + ((((p.take (4 * i + 4)).drop (4 * i)).getD k 0).toNat)) : Nat) : Int)), (46, pt p3 (0 + i * 1))] (by kernel_rfl) (by kernel_rfl) rfl ?_
        obtain ⟨w447, r448, H449⟩ := H431.st (P := Try.prog) (o := (0 + i * 1)) (ty := 60) (v := .int .u32 (((((beF p (4 * i) k) * 256) + ((((p.take (4 * i + 4)).drop (4 * i)).getD k 0).toNat)) : Nat) : Int)) 1 rfl (by kernel_rfl) (by rw [u32s_length, List.length_set, wsP_length (by omega)]; omega) rfl
        rw [show (0 + i * 1) = i by omega, u32s_set, List.set_set] at H449
        have H449 : Hp w S [.blk q (c8 s0 s1 s2 s3 s4 s5 s6 s7) 62, .blk p3 (u32s (List.set (wsP p i) i (((beF p (4 * i) k) * 256) + ((((p.take (4 * i + 4)).drop (4 * i)).getD k 0).toNat)))) 71] w447 := H449
        refine GL.semU (j := 10) r448 [0, 1, 4, 5, 21, 32, 33, 34] [(0, pt q 0), (1, .slice A 64 C), (4, pt p3 0), (5, .int .i64 (i : Int)), (21, .int .i64 (i : Int)), (32, .slice (if C = (4 * i) then A else Option.map (fun x => Addr.add x (4 * i)) A) 4 (C - 4 * i)), (33, .int .i64 4), (34, .int .i64 (k : Int))] (by kernel_rfl) rfl rfl rfl ?_
        refine GL.k rfl hK441 (fun _ _ h => h) ?_
        refine G.region ?_
        refine GL.run (j := 2) 2 [0, 1, 4, 5, 21, 32, 33, 34] [(0, pt q 0), (1, .slice A 64 C), (4, pt p3 0), (5, .int .i64 (i : Int)), (21, .int .i64 (i : Int)), (32, .slice (if C = (4 * i) then A else Option.map (fun x => Addr.add x (4 * i)) A) 4 (C - 4 * i)), (33, .int .i64 4), (34, .int .i64 (IntKind.i64.wrap ((k : Int) + 1)))] (by kernel_rfl) rfl ?_
        have e450 : (IntKind.i64.wrap ((k : Int) + 1)) = ((k + 1 : Nat) : Int) := by rw [in_i64 (by omega)]; omega
        refine GL.eq (M' := [(0, pt q 0), (1, .slice A 64 C), (4, pt p3 0), (5, .int .i64 (i : Int)), (21, .int .i64 (i : Int)), (32, .slice (if C = (4 * i) then A else Option.map (fun x => Addr.add x (4 * i)) A) 4 (C - 4 * i)), (33, .int .i64 4), (34, .int .i64 ((k + 1 : Nat) : Int))]) (by rw [e450]) ?_
        clear e450
        have H451 : Hp w S [.blk q (c8 s0 s1 s2 s3 s4 s5 s6 s7) 62, .blk p3 (u32s (List.set (wsP p i) i (beF p (4 * i) (k + 1)))) 71] w447 := by rw [beF, ← cut_getD (p := p) (l := 4 * i) (n := 4) (k := k) (by omega)]; exact H449
        refine GL.fit (ts := [0, 1, 4, 5, 21, 32, 33, 34]) (M' := [(0, pt q 0), (1, .slice A 64 C), (4, pt p3 0), (5, .int .i64 (i : Int)), (21, .int .i64 (i : Int)), (32, .slice (if C = (4 * i) then A else Option.map (fun x => Addr.add x (4 * i)) A) 4 (C - 4 * i)), (33, .int .i64 4), (34, .int .i64 ((k + 1 : Nat) : Int))]) (by kernel_rfl) ?_
        refine GL.eq (M' := [(0, pt q 0), (1, .slice A 64 C), (4, pt p3 0), (5, .int .i64 (i : Int)), (21, .int .i64 (i : Int)), (32, .slice (if C = (4 * i) then A else Option.map (fun x => Addr.add x (4 * i)) A) 4 (C - 4 * i)), (33, .int .i64 4), (34, .int .i64 (((k + 1) : Nat) : Int))]) (by rfl) ?_
        exact GL.again (k + 1) [0, 1, 4, 5, 21, 32, 33, 34] rfl (by kernel_rfl) (by show 4 - (k + 1) < 4 - k; omega) ⟨by omega, H451⟩
end Go.Proofs.Ytgmggjnoegelgaa
