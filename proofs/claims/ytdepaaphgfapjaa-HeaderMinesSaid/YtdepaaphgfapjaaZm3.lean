/- Part 3 of what headerMines_proved stands on. -/
import Derived.Test.YtdepaaphgfapjaaZm2
set_option linter.unusedVariables false
namespace Go.Proofs.Ytdepaaphgfapjaa
open Go.RowKit
theorem getD8 {bs : List UInt8} {k : Nat} (h : k < bs.length) : bs[k]? = some (bs.getD k 0) := by rw [List.getD_eq_getElem?_getD, List.getElem?_eq_getElem h]; rfl
theorem st_whole {cs vs : List Value} {m : Nat} (h : cs.length = m) : cs.take 0 ++ vs ++ cs.drop (0 + m) = vs := by
 rw [List.take_zero, List.nil_append, Nat.zero_add, List.drop_of_length_le (Nat.le_of_eq h), List.append_nil]
theorem run_sliceN {P : Program} {t len cap : Nat} {A : Option Addr} {k1 k2 : IntKind} {l h n : Nat} (ht : slcOf P t = some 1) (hn : h = l + n) (hh : h ≤ cap) (w : World) :
   (Instr.sliceAt t (.slice A len cap) (some (.int k1 (l : Int))) (some (.int k2 (h : Int))) none).run P w = .ok (.slice (if cap = l then A else A.map (·.add l)) n (cap - l)) w := by
 have e := run_sliceSl (P := P) (w := w) (t := t) (len := len) (cap := cap) (A := A) (lo := some (.int k1 (l : Int))) (hi := some (.int k2 (h : Int))) (l := l) (h := h) ht (Or.inr ⟨_, _, rfl, rfl⟩) (Or.inr ⟨_, _, rfl, rfl⟩) (by omega) hh
 rw [show h - l = n by omega] at e
 exact e
theorem Rot2_calls (x : Nat) (hx : x < W32) (w : World) : Calls Try.prog 76 #[.int .u32 (x : Int), .int .i64 (-2)] w fun e w' => e = .returned (.int .u32 ((rt x 2 : Nat) : Int)) ∧ Hp w [] [] w' := by
 refine calls_G (args := [vw x, li (-2)]) Try.func76 rfl Try.ntmps76 rfl ?_
 intro Q0 hRet hNor hPan
 have H := Hp.start w
 refine G.sr fun K1 hK2 => ?_
 refine GL.r 1 1 [(0, vw x), (1, li (-2))] ?_
 refine GL.q hK2 ?_
 refine G.sr fun K3 hK4 => ?_
 refine GL.r 4 4 [(0, vw x), (5, lu 30)] ?_
 refine GL.q hK4 ?_
 refine G.sr fun K5 hK6 => ?_
 refine GL.r 9 9 [(4, lw (Go.bits .or .u32 (IntKind.u32.wrap ((x : Int) * 2 ^ 30)) (Int.fdiv (x : Int) (2 ^ 2))))] ?_
 have e7 : (IntKind.u32.wrap ((x : Int) * 2 ^ 30)) = ((x * 2 ^ 30 % W32 : Nat) : Int) := w_shl x 30
 have e8 : (Int.fdiv (x : Int) (2 ^ 2)) = ((x / 2 ^ 2 : Nat) : Int) := n_shr x 2
 have e9 : (Go.bits .or .u32 ((x * 2 ^ 30 % W32 : Nat) : Int) ((x / 2 ^ 2 : Nat) : Int)) = ((rt x 2 : Nat) : Int) := w_or (Nat.mod_lt _ (by decide)) (Nat.lt_of_le_of_lt (Nat.div_le_self _ _) hx)
 rw [e7, e8, e9]
 clear e7 e8 e9
 refine GL.q hK6 ?_
 refine G.ret fun F_ hF_ hM_ => hRet _ _ (bodyPost_1 rfl (RV.tmp rfl) ?_ F_ hF_ hM_)
 exact ⟨rfl, H⟩
theorem Turn2_calls (x : Nat) (hx : x < W32) (w : World) : Calls Try.prog 73 #[.int .u32 (x : Int), .int .i64 2] w fun e w' => e = .returned (.int .u32 ((rt x 2 : Nat) : Int)) ∧ Hp w [] [] w' := by
 refine calls_G (args := [vw x, li 2]) Try.func73 rfl Try.ntmps73 rfl ?_
 intro Q0 hRet hNor hPan
 have H := Hp.start w
 refine G.sr fun K1 hK2 => ?_
 refine GL.r 1 1 [(0, vw x), (1, li 2)] ?_
 refine GL.q hK2 ?_
 refine G.sr fun K3 hK4 => ?_
 refine GL.r 3 3 [(5, vw x), (7, li (-2))] ?_
 refine GL.call (j := 4) (Rot2_calls x hx w) (by kernel_rfl) rfl (fun e_ w5 hR => ?_)
 obtain ⟨rfl, H7⟩ := hR
 have H6 : Hp w [] [] w5 := H.callNil H7
 refine ⟨_, rfl, [8], [(8, vw (rt x 2))], by kernel_rfl, ?_⟩
 refine GL.r 5 1 [(4, vw (rt x 2))] ?_
 refine GL.q hK4 ?_
 refine G.ret fun F_ hF_ hM_ => hRet _ _ (bodyPost_1 rfl (RV.tmp rfl) ?_ F_ hF_ hM_)
 exact ⟨rfl, H6⟩
theorem Rot6_calls (x : Nat) (hx : x < W32) (w : World) : Calls Try.prog 76 #[.int .u32 (x : Int), .int .i64 (-6)] w fun e w' => e = .returned (.int .u32 ((rt x 6 : Nat) : Int)) ∧ Hp w [] [] w' := by
 refine calls_G (args := [vw x, li (-6)]) Try.func76 rfl Try.ntmps76 rfl ?_
 intro Q0 hRet hNor hPan
 have H := Hp.start w
 refine G.sr fun K1 hK2 => ?_
 refine GL.r 1 1 [(0, vw x), (1, li (-6))] ?_
 refine GL.q hK2 ?_
 refine G.sr fun K3 hK4 => ?_
 refine GL.r 4 4 [(0, vw x), (5, lu 26)] ?_
 refine GL.q hK4 ?_
 refine G.sr fun K5 hK6 => ?_
 refine GL.r 9 9 [(4, lw (Go.bits .or .u32 (IntKind.u32.wrap ((x : Int) * 2 ^ 26)) (Int.fdiv (x : Int) (2 ^ 6))))] ?_
 have e7 : (IntKind.u32.wrap ((x : Int) * 2 ^ 26)) = ((x * 2 ^ 26 % W32 : Nat) : Int) := w_shl x 26
 have e8 : (Int.fdiv (x : Int) (2 ^ 6)) = ((x / 2 ^ 6 : Nat) : Int) := n_shr x 6
 have e9 : (Go.bits .or .u32 ((x * 2 ^ 26 % W32 : Nat) : Int) ((x / 2 ^ 6 : Nat) : Int)) = ((rt x 6 : Nat) : Int) := w_or (Nat.mod_lt _ (by decide)) (Nat.lt_of_le_of_lt (Nat.div_le_self _ _) hx)
 rw [e7, e8, e9]
 clear e7 e8 e9
 refine GL.q hK6 ?_
 refine G.ret fun F_ hF_ hM_ => hRet _ _ (bodyPost_1 rfl (RV.tmp rfl) ?_ F_ hF_ hM_)
 exact ⟨rfl, H⟩
theorem Turn6_calls (x : Nat) (hx : x < W32) (w : World) : Calls Try.prog 73 #[.int .u32 (x : Int), .int .i64 6] w fun e w' => e = .returned (.int .u32 ((rt x 6 : Nat) : Int)) ∧ Hp w [] [] w' := by
 refine calls_G (args := [vw x, li 6]) Try.func73 rfl Try.ntmps73 rfl ?_
 intro Q0 hRet hNor hPan
 have H := Hp.start w
 refine G.sr fun K1 hK2 => ?_
 refine GL.r 1 1 [(0, vw x), (1, li 6)] ?_
 refine GL.q hK2 ?_
 refine G.sr fun K3 hK4 => ?_
 refine GL.r 3 3 [(5, vw x), (7, li (-6))] ?_
 refine GL.call (j := 4) (Rot6_calls x hx w) (by kernel_rfl) rfl (fun e_ w5 hR => ?_)
 obtain ⟨rfl, H7⟩ := hR
 have H6 : Hp w [] [] w5 := H.callNil H7
 refine ⟨_, rfl, [8], [(8, vw (rt x 6))], by kernel_rfl, ?_⟩
 refine GL.r 5 1 [(4, vw (rt x 6))] ?_
 refine GL.q hK4 ?_
 refine G.ret fun F_ hF_ hM_ => hRet _ _ (bodyPost_1 rfl (RV.tmp rfl) ?_ F_ hF_ hM_)
 exact ⟨rfl, H6⟩
theorem Rot7_calls (x : Nat) (hx : x < W32) (w : World) : Calls Try.prog 76 #[.int .u32 (x : Int), .int .i64 (-7)] w fun e w' => e = .returned (.int .u32 ((rt x 7 : Nat) : Int)) ∧ Hp w [] [] w' := by
 refine calls_G (args := [vw x, li (-7)]) Try.func76 rfl Try.ntmps76 rfl ?_
 intro Q0 hRet hNor hPan
 have H := Hp.start w
 refine G.sr fun K1 hK2 => ?_
 refine GL.r 1 1 [(0, vw x), (1, li (-7))] ?_
 refine GL.q hK2 ?_
 refine G.sr fun K3 hK4 => ?_
 refine GL.r 4 4 [(0, vw x), (5, lu 25)] ?_
 refine GL.q hK4 ?_
 refine G.sr fun K5 hK6 => ?_
 refine GL.r 9 9 [(4, lw (Go.bits .or .u32 (IntKind.u32.wrap ((x : Int) * 2 ^ 25)) (Int.fdiv (x : Int) (2 ^ 7))))] ?_
 have e7 : (IntKind.u32.wrap ((x : Int) * 2 ^ 25)) = ((x * 2 ^ 25 % W32 : Nat) : Int) := w_shl x 25
 have e8 : (Int.fdiv (x : Int) (2 ^ 7)) = ((x / 2 ^ 7 : Nat) : Int) := n_shr x 7
 have e9 : (Go.bits .or .u32 ((x * 2 ^ 25 % W32 : Nat) : Int) ((x / 2 ^ 7 : Nat) : Int)) = ((rt x 7 : Nat) : Int) := w_or (Nat.mod_lt _ (by decide)) (Nat.lt_of_le_of_lt (Nat.div_le_self _ _) hx)
 rw [e7, e8, e9]
 clear e7 e8 e9
 refine GL.q hK6 ?_
 refine G.ret fun F_ hF_ hM_ => hRet _ _ (bodyPost_1 rfl (RV.tmp rfl) ?_ F_ hF_ hM_)
 exact ⟨rfl, H⟩
theorem Turn7_calls (x : Nat) (hx : x < W32) (w : World) : Calls Try.prog 73 #[.int .u32 (x : Int), .int .i64 7] w fun e w' => e = .returned (.int .u32 ((rt x 7 : Nat) : Int)) ∧ Hp w [] [] w' := by
 refine calls_G (args := [vw x, li 7]) Try.func73 rfl Try.ntmps73 rfl ?_
 intro Q0 hRet hNor hPan
 have H := Hp.start w
 refine G.sr fun K1 hK2 => ?_
 refine GL.r 1 1 [(0, vw x), (1, li 7)] ?_
 refine GL.q hK2 ?_
 refine G.sr fun K3 hK4 => ?_
 refine GL.r 3 3 [(5, vw x), (7, li (-7))] ?_
 refine GL.call (j := 4) (Rot7_calls x hx w) (by kernel_rfl) rfl (fun e_ w5 hR => ?_)
 obtain ⟨rfl, H7⟩ := hR
 have H6 : Hp w [] [] w5 := H.callNil H7
 refine ⟨_, rfl, [8], [(8, vw (rt x 7))], by kernel_rfl, ?_⟩
 refine GL.r 5 1 [(4, vw (rt x 7))] ?_
 refine GL.q hK4 ?_
 refine G.ret fun F_ hF_ hM_ => hRet _ _ (bodyPost_1 rfl (RV.tmp rfl) ?_ F_ hF_ hM_)
 exact ⟨rfl, H6⟩
theorem Rot11_calls (x : Nat) (hx : x < W32) (w : World) : Calls Try.prog 76 #[.int .u32 (x : Int), .int .i64 (-11)] w fun e w' => e = .returned (.int .u32 ((rt x 11 : Nat) : Int)) ∧ Hp w [] [] w' := by
 refine calls_G (args := [vw x, li (-11)]) Try.func76 rfl Try.ntmps76 rfl ?_
 intro Q0 hRet hNor hPan
 have H := Hp.start w
 refine G.sr fun K1 hK2 => ?_
 refine GL.r 1 1 [(0, vw x), (1, li (-11))] ?_
 refine GL.q hK2 ?_
 refine G.sr fun K3 hK4 => ?_
 refine GL.r 4 4 [(0, vw x), (5, lu 21)] ?_
 refine GL.q hK4 ?_
 refine G.sr fun K5 hK6 => ?_
 refine GL.r 9 9 [(4, lw (Go.bits .or .u32 (IntKind.u32.wrap ((x : Int) * 2 ^ 21)) (Int.fdiv (x : Int) (2 ^ 11))))] ?_
 have e7 : (IntKind.u32.wrap ((x : Int) * 2 ^ 21)) = ((x * 2 ^ 21 % W32 : Nat) : Int) := w_shl x 21
 have e8 : (Int.fdiv (x : Int) (2 ^ 11)) = ((x / 2 ^ 11 : Nat) : Int) := n_shr x 11
 have e9 : (Go.bits .or .u32 ((x * 2 ^ 21 % W32 : Nat) : Int) ((x / 2 ^ 11 : Nat) : Int)) = ((rt x 11 : Nat) : Int) := w_or (Nat.mod_lt _ (by decide)) (Nat.lt_of_le_of_lt (Nat.div_le_self _ _) hx)
 rw [e7, e8, e9]
 clear e7 e8 e9
 refine GL.q hK6 ?_
 refine G.ret fun F_ hF_ hM_ => hRet _ _ (bodyPost_1 rfl (RV.tmp rfl) ?_ F_ hF_ hM_)
 exact ⟨rfl, H⟩
theorem Turn11_calls (x : Nat) (hx : x < W32) (w : World) : Calls Try.prog 73 #[.int .u32 (x : Int), .int .i64 11] w fun e w' => e = .returned (.int .u32 ((rt x 11 : Nat) : Int)) ∧ Hp w [] [] w' := by
 refine calls_G (args := [vw x, li 11]) Try.func73 rfl Try.ntmps73 rfl ?_
 intro Q0 hRet hNor hPan
 have H := Hp.start w
 refine G.sr fun K1 hK2 => ?_
 refine GL.r 1 1 [(0, vw x), (1, li 11)] ?_
 refine GL.q hK2 ?_
 refine G.sr fun K3 hK4 => ?_
 refine GL.r 3 3 [(5, vw x), (7, li (-11))] ?_
 refine GL.call (j := 4) (Rot11_calls x hx w) (by kernel_rfl) rfl (fun e_ w5 hR => ?_)
 obtain ⟨rfl, H7⟩ := hR
 have H6 : Hp w [] [] w5 := H.callNil H7
 refine ⟨_, rfl, [8], [(8, vw (rt x 11))], by kernel_rfl, ?_⟩
 refine GL.r 5 1 [(4, vw (rt x 11))] ?_
 refine GL.q hK4 ?_
 refine G.ret fun F_ hF_ hM_ => hRet _ _ (bodyPost_1 rfl (RV.tmp rfl) ?_ F_ hF_ hM_)
 exact ⟨rfl, H6⟩
theorem Rot13_calls (x : Nat) (hx : x < W32) (w : World) : Calls Try.prog 76 #[.int .u32 (x : Int), .int .i64 (-13)] w fun e w' => e = .returned (.int .u32 ((rt x 13 : Nat) : Int)) ∧ Hp w [] [] w' := by
 refine calls_G (args := [vw x, li (-13)]) Try.func76 rfl Try.ntmps76 rfl ?_
 intro Q0 hRet hNor hPan
 have H := Hp.start w
 refine G.sr fun K1 hK2 => ?_
 refine GL.r 1 1 [(0, vw x), (1, li (-13))] ?_
 refine GL.q hK2 ?_
 refine G.sr fun K3 hK4 => ?_
 refine GL.r 4 4 [(0, vw x), (5, lu 19)] ?_
 refine GL.q hK4 ?_
 refine G.sr fun K5 hK6 => ?_
 refine GL.r 9 9 [(4, lw (Go.bits .or .u32 (IntKind.u32.wrap ((x : Int) * 2 ^ 19)) (Int.fdiv (x : Int) (2 ^ 13))))] ?_
 have e7 : (IntKind.u32.wrap ((x : Int) * 2 ^ 19)) = ((x * 2 ^ 19 % W32 : Nat) : Int) := w_shl x 19
 have e8 : (Int.fdiv (x : Int) (2 ^ 13)) = ((x / 2 ^ 13 : Nat) : Int) := n_shr x 13
 have e9 : (Go.bits .or .u32 ((x * 2 ^ 19 % W32 : Nat) : Int) ((x / 2 ^ 13 : Nat) : Int)) = ((rt x 13 : Nat) : Int) := w_or (Nat.mod_lt _ (by decide)) (Nat.lt_of_le_of_lt (Nat.div_le_self _ _) hx)
 rw [e7, e8, e9]
 clear e7 e8 e9
 refine GL.q hK6 ?_
 refine G.ret fun F_ hF_ hM_ => hRet _ _ (bodyPost_1 rfl (RV.tmp rfl) ?_ F_ hF_ hM_)
 exact ⟨rfl, H⟩
theorem Turn13_calls (x : Nat) (hx : x < W32) (w : World) : Calls Try.prog 73 #[.int .u32 (x : Int), .int .i64 13] w fun e w' => e = .returned (.int .u32 ((rt x 13 : Nat) : Int)) ∧ Hp w [] [] w' := by
 refine calls_G (args := [vw x, li 13]) Try.func73 rfl Try.ntmps73 rfl ?_
 intro Q0 hRet hNor hPan
 have H := Hp.start w
 refine G.sr fun K1 hK2 => ?_
 refine GL.r 1 1 [(0, vw x), (1, li 13)] ?_
 refine GL.q hK2 ?_
 refine G.sr fun K3 hK4 => ?_
 refine GL.r 3 3 [(5, vw x), (7, li (-13))] ?_
 refine GL.call (j := 4) (Rot13_calls x hx w) (by kernel_rfl) rfl (fun e_ w5 hR => ?_)
 obtain ⟨rfl, H7⟩ := hR
 have H6 : Hp w [] [] w5 := H.callNil H7
 refine ⟨_, rfl, [8], [(8, vw (rt x 13))], by kernel_rfl, ?_⟩
 refine GL.r 5 1 [(4, vw (rt x 13))] ?_
 refine GL.q hK4 ?_
 refine G.ret fun F_ hF_ hM_ => hRet _ _ (bodyPost_1 rfl (RV.tmp rfl) ?_ F_ hF_ hM_)
 exact ⟨rfl, H6⟩
theorem Rot17_calls (x : Nat) (hx : x < W32) (w : World) : Calls Try.prog 76 #[.int .u32 (x : Int), .int .i64 (-17)] w fun e w' => e = .returned (.int .u32 ((rt x 17 : Nat) : Int)) ∧ Hp w [] [] w' := by
 refine calls_G (args := [vw x, li (-17)]) Try.func76 rfl Try.ntmps76 rfl ?_
 intro Q0 hRet hNor hPan
 have H := Hp.start w
 refine G.sr fun K1 hK2 => ?_
 refine GL.r 1 1 [(0, vw x), (1, li (-17))] ?_
 refine GL.q hK2 ?_
 refine G.sr fun K3 hK4 => ?_
 refine GL.r 4 4 [(0, vw x), (5, lu 15)] ?_
 refine GL.q hK4 ?_
 refine G.sr fun K5 hK6 => ?_
 refine GL.r 9 9 [(4, lw (Go.bits .or .u32 (IntKind.u32.wrap ((x : Int) * 2 ^ 15)) (Int.fdiv (x : Int) (2 ^ 17))))] ?_
 have e7 : (IntKind.u32.wrap ((x : Int) * 2 ^ 15)) = ((x * 2 ^ 15 % W32 : Nat) : Int) := w_shl x 15
 have e8 : (Int.fdiv (x : Int) (2 ^ 17)) = ((x / 2 ^ 17 : Nat) : Int) := n_shr x 17
 have e9 : (Go.bits .or .u32 ((x * 2 ^ 15 % W32 : Nat) : Int) ((x / 2 ^ 17 : Nat) : Int)) = ((rt x 17 : Nat) : Int) := w_or (Nat.mod_lt _ (by decide)) (Nat.lt_of_le_of_lt (Nat.div_le_self _ _) hx)
 rw [e7, e8, e9]
 clear e7 e8 e9
 refine GL.q hK6 ?_
 refine G.ret fun F_ hF_ hM_ => hRet _ _ (bodyPost_1 rfl (RV.tmp rfl) ?_ F_ hF_ hM_)
 exact ⟨rfl, H⟩
theorem Turn17_calls (x : Nat) (hx : x < W32) (w : World) : Calls Try.prog 73 #[.int .u32 (x : Int), .int .i64 17] w fun e w' => e = .returned (.int .u32 ((rt x 17 : Nat) : Int)) ∧ Hp w [] [] w' := by
 refine calls_G (args := [vw x, li 17]) Try.func73 rfl Try.ntmps73 rfl ?_
 intro Q0 hRet hNor hPan
 have H := Hp.start w
 refine G.sr fun K1 hK2 => ?_
 refine GL.r 1 1 [(0, vw x), (1, li 17)] ?_
 refine GL.q hK2 ?_
 refine G.sr fun K3 hK4 => ?_
 refine GL.r 3 3 [(5, vw x), (7, li (-17))] ?_
 refine GL.call (j := 4) (Rot17_calls x hx w) (by kernel_rfl) rfl (fun e_ w5 hR => ?_)
 obtain ⟨rfl, H7⟩ := hR
 have H6 : Hp w [] [] w5 := H.callNil H7
 refine ⟨_, rfl, [8], [(8, vw (rt x 17))], by kernel_rfl, ?_⟩
 refine GL.r 5 1 [(4, vw (rt x 17))] ?_
 refine GL.q hK4 ?_
 refine G.ret fun F_ hF_ hM_ => hRet _ _ (bodyPost_1 rfl (RV.tmp rfl) ?_ F_ hF_ hM_)
 exact ⟨rfl, H6⟩
theorem Rot18_calls (x : Nat) (hx : x < W32) (w : World) : Calls Try.prog 76 #[.int .u32 (x : Int), .int .i64 (-18)] w fun e w' => e = .returned (.int .u32 ((rt x 18 : Nat) : Int)) ∧ Hp w [] [] w' := by
 refine calls_G (args := [vw x, li (-18)]) Try.func76 rfl Try.ntmps76 rfl ?_
 intro Q0 hRet hNor hPan
 have H := Hp.start w
 refine G.sr fun K1 hK2 => ?_
 refine GL.r 1 1 [(0, vw x), (1, li (-18))] ?_
 refine GL.q hK2 ?_
 refine G.sr fun K3 hK4 => ?_
 refine GL.r 4 4 [(0, vw x), (5, lu 14)] ?_
 refine GL.q hK4 ?_
 refine G.sr fun K5 hK6 => ?_
 refine GL.r 9 9 [(4, lw (Go.bits .or .u32 (IntKind.u32.wrap ((x : Int) * 2 ^ 14)) (Int.fdiv (x : Int) (2 ^ 18))))] ?_
 have e7 : (IntKind.u32.wrap ((x : Int) * 2 ^ 14)) = ((x * 2 ^ 14 % W32 : Nat) : Int) := w_shl x 14
 have e8 : (Int.fdiv (x : Int) (2 ^ 18)) = ((x / 2 ^ 18 : Nat) : Int) := n_shr x 18
 have e9 : (Go.bits .or .u32 ((x * 2 ^ 14 % W32 : Nat) : Int) ((x / 2 ^ 18 : Nat) : Int)) = ((rt x 18 : Nat) : Int) := w_or (Nat.mod_lt _ (by decide)) (Nat.lt_of_le_of_lt (Nat.div_le_self _ _) hx)
 rw [e7, e8, e9]
 clear e7 e8 e9
 refine GL.q hK6 ?_
 refine G.ret fun F_ hF_ hM_ => hRet _ _ (bodyPost_1 rfl (RV.tmp rfl) ?_ F_ hF_ hM_)
 exact ⟨rfl, H⟩
theorem Turn18_calls (x : Nat) (hx : x < W32) (w : World) : Calls Try.prog 73 #[.int .u32 (x : Int), .int .i64 18] w fun e w' => e = .returned (.int .u32 ((rt x 18 : Nat) : Int)) ∧ Hp w [] [] w' := by
 refine calls_G (args := [vw x, li 18]) Try.func73 rfl Try.ntmps73 rfl ?_
 intro Q0 hRet hNor hPan
 have H := Hp.start w
 refine G.sr fun K1 hK2 => ?_
 refine GL.r 1 1 [(0, vw x), (1, li 18)] ?_
 refine GL.q hK2 ?_
 refine G.sr fun K3 hK4 => ?_
 refine GL.r 3 3 [(5, vw x), (7, li (-18))] ?_
 refine GL.call (j := 4) (Rot18_calls x hx w) (by kernel_rfl) rfl (fun e_ w5 hR => ?_)
 obtain ⟨rfl, H7⟩ := hR
 have H6 : Hp w [] [] w5 := H.callNil H7
 refine ⟨_, rfl, [8], [(8, vw (rt x 18))], by kernel_rfl, ?_⟩
 refine GL.r 5 1 [(4, vw (rt x 18))] ?_
 refine GL.q hK4 ?_
 refine G.ret fun F_ hF_ hM_ => hRet _ _ (bodyPost_1 rfl (RV.tmp rfl) ?_ F_ hF_ hM_)
 exact ⟨rfl, H6⟩
theorem Rot19_calls (x : Nat) (hx : x < W32) (w : World) : Calls Try.prog 76 #[.int .u32 (x : Int), .int .i64 (-19)] w fun e w' => e = .returned (.int .u32 ((rt x 19 : Nat) : Int)) ∧ Hp w [] [] w' := by
 refine calls_G (args := [vw x, li (-19)]) Try.func76 rfl Try.ntmps76 rfl ?_
 intro Q0 hRet hNor hPan
 have H := Hp.start w
 refine G.sr fun K1 hK2 => ?_
 refine GL.r 1 1 [(0, vw x), (1, li (-19))] ?_
 refine GL.q hK2 ?_
 refine G.sr fun K3 hK4 => ?_
 refine GL.r 4 4 [(0, vw x), (5, lu 13)] ?_
 refine GL.q hK4 ?_
 refine G.sr fun K5 hK6 => ?_
 refine GL.r 9 9 [(4, lw (Go.bits .or .u32 (IntKind.u32.wrap ((x : Int) * 2 ^ 13)) (Int.fdiv (x : Int) (2 ^ 19))))] ?_
 have e7 : (IntKind.u32.wrap ((x : Int) * 2 ^ 13)) = ((x * 2 ^ 13 % W32 : Nat) : Int) := w_shl x 13
 have e8 : (Int.fdiv (x : Int) (2 ^ 19)) = ((x / 2 ^ 19 : Nat) : Int) := n_shr x 19
 have e9 : (Go.bits .or .u32 ((x * 2 ^ 13 % W32 : Nat) : Int) ((x / 2 ^ 19 : Nat) : Int)) = ((rt x 19 : Nat) : Int) := w_or (Nat.mod_lt _ (by decide)) (Nat.lt_of_le_of_lt (Nat.div_le_self _ _) hx)
 rw [e7, e8, e9]
 clear e7 e8 e9
 refine GL.q hK6 ?_
 refine G.ret fun F_ hF_ hM_ => hRet _ _ (bodyPost_1 rfl (RV.tmp rfl) ?_ F_ hF_ hM_)
 exact ⟨rfl, H⟩
theorem Turn19_calls (x : Nat) (hx : x < W32) (w : World) : Calls Try.prog 73 #[.int .u32 (x : Int), .int .i64 19] w fun e w' => e = .returned (.int .u32 ((rt x 19 : Nat) : Int)) ∧ Hp w [] [] w' := by
 refine calls_G (args := [vw x, li 19]) Try.func73 rfl Try.ntmps73 rfl ?_
 intro Q0 hRet hNor hPan
 have H := Hp.start w
 refine G.sr fun K1 hK2 => ?_
 refine GL.r 1 1 [(0, vw x), (1, li 19)] ?_
 refine GL.q hK2 ?_
 refine G.sr fun K3 hK4 => ?_
 refine GL.r 3 3 [(5, vw x), (7, li (-19))] ?_
 refine GL.call (j := 4) (Rot19_calls x hx w) (by kernel_rfl) rfl (fun e_ w5 hR => ?_)
 obtain ⟨rfl, H7⟩ := hR
 have H6 : Hp w [] [] w5 := H.callNil H7
 refine ⟨_, rfl, [8], [(8, vw (rt x 19))], by kernel_rfl, ?_⟩
 refine GL.r 5 1 [(4, vw (rt x 19))] ?_
 refine GL.q hK4 ?_
 refine G.ret fun F_ hF_ hM_ => hRet _ _ (bodyPost_1 rfl (RV.tmp rfl) ?_ F_ hF_ hM_)
 exact ⟨rfl, H6⟩
theorem Rot22_calls (x : Nat) (hx : x < W32) (w : World) : Calls Try.prog 76 #[.int .u32 (x : Int), .int .i64 (-22)] w fun e w' => e = .returned (.int .u32 ((rt x 22 : Nat) : Int)) ∧ Hp w [] [] w' := by
 refine calls_G (args := [vw x, li (-22)]) Try.func76 rfl Try.ntmps76 rfl ?_
 intro Q0 hRet hNor hPan
 have H := Hp.start w
 refine G.sr fun K1 hK2 => ?_
 refine GL.r 1 1 [(0, vw x), (1, li (-22))] ?_
 refine GL.q hK2 ?_
 refine G.sr fun K3 hK4 => ?_
 refine GL.r 4 4 [(0, vw x), (5, lu 10)] ?_
 refine GL.q hK4 ?_
 refine G.sr fun K5 hK6 => ?_
 refine GL.r 9 9 [(4, lw (Go.bits .or .u32 (IntKind.u32.wrap ((x : Int) * 2 ^ 10)) (Int.fdiv (x : Int) (2 ^ 22))))] ?_
 have e7 : (IntKind.u32.wrap ((x : Int) * 2 ^ 10)) = ((x * 2 ^ 10 % W32 : Nat) : Int) := w_shl x 10
 have e8 : (Int.fdiv (x : Int) (2 ^ 22)) = ((x / 2 ^ 22 : Nat) : Int) := n_shr x 22
 have e9 : (Go.bits .or .u32 ((x * 2 ^ 10 % W32 : Nat) : Int) ((x / 2 ^ 22 : Nat) : Int)) = ((rt x 22 : Nat) : Int) := w_or (Nat.mod_lt _ (by decide)) (Nat.lt_of_le_of_lt (Nat.div_le_self _ _) hx)
 rw [e7, e8, e9]
 clear e7 e8 e9
 refine GL.q hK6 ?_
 refine G.ret fun F_ hF_ hM_ => hRet _ _ (bodyPost_1 rfl (RV.tmp rfl) ?_ F_ hF_ hM_)
 exact ⟨rfl, H⟩
theorem Turn22_calls (x : Nat) (hx : x < W32) (w : World) : Calls Try.prog 73 #[.int .u32 (x : Int), .int .i64 22] w fun e w' => e = .returned (.int .u32 ((rt x 22 : Nat) : Int)) ∧ Hp w [] [] w' := by
 refine calls_G (args := [vw x, li 22]) Try.func73 rfl Try.ntmps73 rfl ?_
 intro Q0 hRet hNor hPan
 have H := Hp.start w
 refine G.sr fun K1 hK2 => ?_
 refine GL.r 1 1 [(0, vw x), (1, li 22)] ?_
 refine GL.q hK2 ?_
 refine G.sr fun K3 hK4 => ?_
 refine GL.r 3 3 [(5, vw x), (7, li (-22))] ?_
 refine GL.call (j := 4) (Rot22_calls x hx w) (by kernel_rfl) rfl (fun e_ w5 hR => ?_)
 obtain ⟨rfl, H7⟩ := hR
 have H6 : Hp w [] [] w5 := H.callNil H7
 refine ⟨_, rfl, [8], [(8, vw (rt x 22))], by kernel_rfl, ?_⟩
 refine GL.r 5 1 [(4, vw (rt x 22))] ?_
 refine GL.q hK4 ?_
 refine G.ret fun F_ hF_ hM_ => hRet _ _ (bodyPost_1 rfl (RV.tmp rfl) ?_ F_ hF_ hM_)
 exact ⟨rfl, H6⟩
theorem Rot25_calls (x : Nat) (hx : x < W32) (w : World) : Calls Try.prog 76 #[.int .u32 (x : Int), .int .i64 (-25)] w fun e w' => e = .returned (.int .u32 ((rt x 25 : Nat) : Int)) ∧ Hp w [] [] w' := by
 refine calls_G (args := [vw x, li (-25)]) Try.func76 rfl Try.ntmps76 rfl ?_
 intro Q0 hRet hNor hPan
 have H := Hp.start w
 refine G.sr fun K1 hK2 => ?_
 refine GL.r 1 1 [(0, vw x), (1, li (-25))] ?_
 refine GL.q hK2 ?_
 refine G.sr fun K3 hK4 => ?_
 refine GL.r 4 4 [(0, vw x), (5, lu 7)] ?_
 refine GL.q hK4 ?_
 refine G.sr fun K5 hK6 => ?_
 refine GL.r 9 9 [(4, lw (Go.bits .or .u32 (IntKind.u32.wrap ((x : Int) * 2 ^ 7)) (Int.fdiv (x : Int) (2 ^ 25))))] ?_
 have e7 : (IntKind.u32.wrap ((x : Int) * 2 ^ 7)) = ((x * 2 ^ 7 % W32 : Nat) : Int) := w_shl x 7
 have e8 : (Int.fdiv (x : Int) (2 ^ 25)) = ((x / 2 ^ 25 : Nat) : Int) := n_shr x 25
 have e9 : (Go.bits .or .u32 ((x * 2 ^ 7 % W32 : Nat) : Int) ((x / 2 ^ 25 : Nat) : Int)) = ((rt x 25 : Nat) : Int) := w_or (Nat.mod_lt _ (by decide)) (Nat.lt_of_le_of_lt (Nat.div_le_self _ _) hx)
 rw [e7, e8, e9]
 clear e7 e8 e9
 refine GL.q hK6 ?_
 refine G.ret fun F_ hF_ hM_ => hRet _ _ (bodyPost_1 rfl (RV.tmp rfl) ?_ F_ hF_ hM_)
 exact ⟨rfl, H⟩
theorem Turn25_calls (x : Nat) (hx : x < W32) (w : World) : Calls Try.prog 73 #[.int .u32 (x : Int), .int .i64 25] w fun e w' => e = .returned (.int .u32 ((rt x 25 : Nat) : Int)) ∧ Hp w [] [] w' := by
 refine calls_G (args := [vw x, li 25]) Try.func73 rfl Try.ntmps73 rfl ?_
 intro Q0 hRet hNor hPan
 have H := Hp.start w
 refine G.sr fun K1 hK2 => ?_
 refine GL.r 1 1 [(0, vw x), (1, li 25)] ?_
 refine GL.q hK2 ?_
 refine G.sr fun K3 hK4 => ?_
 refine GL.r 3 3 [(5, vw x), (7, li (-25))] ?_
 refine GL.call (j := 4) (Rot25_calls x hx w) (by kernel_rfl) rfl (fun e_ w5 hR => ?_)
 obtain ⟨rfl, H7⟩ := hR
 have H6 : Hp w [] [] w5 := H.callNil H7
 refine ⟨_, rfl, [8], [(8, vw (rt x 25))], by kernel_rfl, ?_⟩
 refine GL.r 5 1 [(4, vw (rt x 25))] ?_
 refine GL.q hK4 ?_
 refine G.ret fun F_ hF_ hM_ => hRet _ _ (bodyPost_1 rfl (RV.tmp rfl) ?_ F_ hF_ hM_)
 exact ⟨rfl, H6⟩
abbrev lz1 : List Value := [lw 1116352408, lw 1899447441, lw 3049323471, lw 3921009573, lw 961987163, lw 1508970993, lw 2453635748, lw 2870763221, lw 3624381080, lw 310598401, lw 607225278, lw 1426881987, lw 1925078388, lw 2162078206, lw 2614888103, lw 3248222580, lw 3835390401, lw 4022224774, lw 264347078, lw 604807628, lw 770255983, lw 1249150122, lw 1555081692, lw 1996064986, lw 2554220882, lw 2821834349, lw 2952996808, lw 3210313671, lw 3336571891, lw 3584528711, lw 113926993, lw 338241895, lw 666307205, lw 773529912, lw 1294757372, lw 1396182291, lw 1695183700, lw 1986661051, lw 2177026350, lw 2456956037, lw 2730485921, lw 2820302411, lw 3259730800, lw 3345764771, lw 3516065817, lw 3600352804, lw 4094571909, lw 275423344, lw 430227734, lw 506948616, lw 659060556, lw 883997877, lw 958139571, lw 1322822218, lw 1537002063, lw 1747873779, lw 1955562222, lw 2024104815, lw 2227730452, lw 2361852424, lw 2428436474, lw 2756734187, lw 3204031479, lw 3329325298]
theorem Constants_calls (w : World) : Calls Try.prog 74 #[] w fun e w' => e = .returned (.agg (u32s KT).toArray) ∧ Hp w [] [] w' := by
 refine calls_G (args := []) Try.func74 rfl Try.ntmps74 rfl ?_
 intro Q0 hRet hNor hPan
 have H := Hp.start w
 refine G.sr fun K1 hK2 => ?_
 obtain ⟨p3, w4, r5, H6⟩ := H.alloc (P := Try.prog) 96 [lw 0, lw 0, lw 0, lw 0, lw 0, lw 0, lw 0, lw 0, lw 0, lw 0, lw 0, lw 0, lw 0, lw 0, lw 0, lw 0, lw 0, lw 0, lw 0, lw 0, lw 0, lw 0, lw 0, lw 0, lw 0, lw 0, lw 0, lw 0, lw 0, lw 0, lw 0, lw 0, lw 0, lw 0, lw 0, lw 0, lw 0, lw 0, lw 0, lw 0, lw 0, lw 0, lw 0, lw 0, lw 0, lw 0, lw 0, lw 0, lw 0, lw 0, lw 0, lw 0, lw 0, lw 0, lw 0, lw 0, lw 0, lw 0, lw 0, lw 0, lw 0, lw 0, lw 0, lw 0] (by kernel_rfl)
 refine GL.s 1 (r5) [(0, pt p3 0)] ?_
 refine GL.q hK2 ?_
 refine G.sr fun K7 hK8 => ?_
 refine GL.r 1 1 [(0, pt p3 0), (1, .agg lz1.toArray)] ?_
 obtain ⟨w9, r10, H11⟩ := H6.stA (P := Try.prog) (o := 0) (vs := lz1) (ty := 96) (m := 64) 0 rfl (by kernel_rfl) rfl (by simp) (by simp [Value.oneCell'])
 refine GL.u 2 r10 [(0, pt p3 0)] ?_
 refine GL.q hK8 ?_
 refine G.ret fun F_ hF_ hM_ => hRet _ _ (bodyPost_1 rfl (RV.cell rfl (H11.ldA (o := 0) (ty := 96) (m := 64) (sub := lz1) 0 rfl (by kernel_rfl) rfl rfl)) ?_ F_ hF_ hM_)
 exact ⟨rfl, H11.sub (List.nil_sublist _)⟩
abbrev lz2 : List Value := [lw 0, lw 0, lw 0, lw 0, lw 0, lw 0, lw 0, lw 0]
theorem Block_calls (S : List Nat) (q : Nat) (A : Option Addr) (C : Nat) (p : List UInt8) (s : V8) (w : World) (h0 : Hp w S [.blk q (v8c s) 106] w) (hs : ok8 s) (hx : RdO w S A (by8 p)) (hp : p.length = 64) (hC : 64 ≤ C) : Calls Try.prog 68 #[pt q 0, .slice A 64 C] w fun e w' => e = .returned (.tuple #[]) ∧ Hp w S [.blk q (v8c (blockF s p)) 106] w' := by
 obtain ⟨s0, s1, s2, s3, s4, s5, s6, s7⟩ := s
 have ⟨h1, h2, h3, h4, h5, h6, h7, h8⟩ := hs
 refine calls_G (args := [pt q 0, .slice A 64 C]) Try.func68 rfl Try.ntmps68 rfl ?_
 intro Q0 hRet hNor hPan
 have H := h0
 refine G.sr fun K1 hK2 => ?_
 obtain ⟨p3, w4, r5, H6⟩ := H.alloc (P := Try.prog) 96 (u32s (wsP p 0)) (by kernel_rfl)
 refine GL.s 1 (r5) [(0, pt q 0), (1, .slice A 64 C), (4, pt p3 0)] ?_
 refine GL.q hK2 ?_
 refine G.seqK fun K7 hK8 => ?_
 refine G.sr fun K9 hK10 => ?_
 refine GL.r 1 1 [(0, pt q 0), (1, .slice A 64 C), (4, pt p3 0), (21, li 0)] ?_
 refine GL.q hK10 ?_
 refine G.block ?_
 refine G.fit [0, 1, 4, 21] (M' := [(0, pt q 0), (1, .slice A 64 C), (4, pt p3 0), (21, li 0)]) (by kernel_rfl) ?_
 refine G.loop (X := Nat) (fun i => [(0, pt q 0), (1, .slice A 64 C), (4, pt p3 0), (21, vi i)]) (fun i w_ => (i ≤ 64) ∧ Hp w S [.blk q (c8 s0 s1 s2 s3 s4 s5 s6 s7) 106, .blk p3 (u32s (wsP p i)) 96] w_) (fun i => 64 - i) 0 [0, 1, 4, 21] (by kernel_rfl) ⟨by omega, H6⟩ ?_
 rintro i w11 ⟨hi12, H13⟩
 refine G.eq (M' := [(0, pt q 0), (1, .slice A 64 C), (4, pt p3 0), (21, vi i)]) rfl ?_
 have hi64 := hi12
 refine G.sr fun K14 hK15 => ?_
 refine GL.r 1 1 [(0, pt q 0), (1, .slice A 64 C), (4, pt p3 0), (21, vi i), (22, .bool (decide ((i : Int) < 64)))] ?_
 refine GL.q hK15 ?_
 refine G.seqK fun K16 hK17 => ?_
 cases hb18 : (decide ((i : Int) < 64))
 · skip
   have hb18f := of_decide_eq_false hb18
   refine G.no rfl ?_
   refine G.exitK hK8 (fun _ _ h => h) ?_
   refine G.seqK fun K19 hK20 => ?_
   refine G.heldP (Hp w S [.blk q (c8 s0 s1 s2 s3 s4 s5 s6 s7) 106, .blk p3 (u32s (wsP p i)) 96]) (by kernel_rfl) (by kernel_rfl) (fun c_ a_ d_ v_ w_ h_ => hPan c_ a_ d_ v_ w_ h_) ?_
   have H21 := H13.drew
   generalize ({ w11 with drawn := w11.drawn + 1 } : World) = w22 at H21 ⊢
   have hS23 : Hp w S [.blk q (c8 s0 s1 s2 s3 s4 s5 s6 s7) 106, .blk p3 (u32s (wsP p i)) 96] w22 := H21.sub (List.Sublist.cons_cons _ (List.Sublist.cons_cons _ (List.Sublist.slnil)))
   refine GP.r [1, 2] [(0, pt q 0), (4, pt p3 0), (90, pt q 0)] [1, 2] hS23 ?_
   refine GP.s 3 (fun w_ H_ => H_.ldA (o := 0) (ty := 106) (m := 8) (sub := (c8 s0 s1 s2 s3 s4 s5 s6 s7)) 0 rfl (by kernel_rfl) rfl rfl) [(0, pt q 0), (4, pt p3 0), (91, .agg #[vw s0, vw s1, vw s2, vw s3, vw s4, vw s5, vw s6, vw s7])] hS23 ?_
   refine GP.named fun Xd_ hXd_ => ?_
   have st87 : ∀ (wD_ : World) (p38 : Nat) (p66 : Nat), Hp w S [.blk q (c8 s0 s1 s2 s3 s4 s5 s6 s7) 106, .blk p3 (u32s (wsP p i)) 96, .blk p38 (u32s (wsP p 0)) 96, .blk p66 [.int .u32 0, .int .u32 0, .int .u32 0, .int .u32 0, .int .u32 0, .int .u32 0, .int .u32 0, .int .u32 0] 106] wD_ → Xd_ [1, 2, 3, 0, 4, 5] [(0, pt q 0), (4, pt p3 0), (12, pt p38 0), (13, pt p66 0), (88, .agg (u32s KT).toArray), (91, .agg #[.int .u32 (s0 : Int), .int .u32 (s1 : Int), .int .u32 (s2 : Int), .int .u32 (s3 : Int), .int .u32 (s4 : Int), .int .u32 (s5 : Int), .int .u32 (s6 : Int), .int .u32 (s7 : Int)])] wD_ := by
     intro wD_ p38 p66 HD_
     rw [hXd_]
     have hS88 : Hp w S [.blk q (c8 s0 s1 s2 s3 s4 s5 s6 s7) 106, .blk p3 (u32s (wsP p i)) 96] wD_ := HD_.sub (List.Sublist.cons_cons _ (List.Sublist.cons_cons _ (List.Sublist.cons _ (List.Sublist.cons _ (List.Sublist.slnil)))))
     obtain ⟨w89, r90, H91⟩ := HD_.stA (P := Try.prog) (o := 0) (vs := u32s KT) (ty := 96) (m := 64) 2 rfl (by kernel_rfl) rfl (by rw [u32s_length, wsP_length (by omega)]; omega) (u32s_one _)
     rw [st_whole (by rw [u32s_length, wsP_length (by omega)])] at H91
     have hS92 : Hp w S [.blk q (c8 s0 s1 s2 s3 s4 s5 s6 s7) 106, .blk p3 (u32s (wsP p i)) 96] w89 := H91.sub (List.Sublist.cons_cons _ (List.Sublist.cons_cons _ (List.Sublist.cons _ (List.Sublist.cons _ (List.Sublist.slnil)))))
     refine GP.semU 6 r90 [0, 4, 12, 13, 91] [(0, pt q 0), (4, pt p3 0), (12, pt p38 0), (13, pt p66 0), (91, .agg #[vw s0, vw s1, vw s2, vw s3, vw s4, vw s5, vw s6, vw s7])] (by kernel_rfl) rfl rfl (by kernel_rfl) hS92 ?_
     obtain ⟨w93, r94, H95⟩ := H91.stA (P := Try.prog) (o := 0) (vs := (c8 s0 s1 s2 s3 s4 s5 s6 s7)) (ty := 106) (m := 8) 3 rfl (by kernel_rfl) rfl (by exact Nat.le_refl _) (c8_one)
     have hS96 : Hp w S [.blk q (c8 s0 s1 s2 s3 s4 s5 s6 s7) 106, .blk p3 (u32s (wsP p i)) 96] w93 := H95.sub (List.Sublist.cons_cons _ (List.Sublist.cons_cons _ (List.Sublist.cons _ (List.Sublist.cons _ (List.Sublist.slnil)))))
     refine GP.semU 7 r94 [0, 4, 12, 13] [(0, pt q 0), (4, pt p3 0), (12, pt p38 0), (13, pt p66 0)] (by kernel_rfl) rfl rfl (by kernel_rfl) hS96 ?_
     refine GP.k (by kernel_rfl) hK20 (fun _ _ h => h) ?_
     refine G.seqK fun K97 hK98 => ?_
     refine G.sr fun K99 hK100 => ?_
     refine GL.r 1 1 [(0, pt q 0), (4, pt p3 0), (12, pt p38 0), (13, pt p66 0), (92, li 0)] ?_
     refine GL.q hK100 ?_
     refine G.block ?_
     obtain rfl : i = 64 := by omega
     have H101 : Hp w S [.blk q (c8 s0 s1 s2 s3 s4 s5 s6 s7) 106, .blk p3 (u32s (wsP p 64)) 96, .blk p38 (u32s KT) 96, .blk p66 (c8 s0 s1 s2 s3 s4 s5 s6 s7) 106] w93 := (Hp.reorder (L' := [.blk q (c8 s0 s1 s2 s3 s4 s5 s6 s7) 106, .blk p3 (u32s (wsP p 64)) 96, .blk p38 (u32s KT) 96, .blk p66 (c8 s0 s1 s2 s3 s4 s5 s6 s7) 106]) H95 (List.Perm.refl _))
     refine G.fit [0, 4, 12, 13, 92] (M' := [(0, pt q 0), (4, pt p3 0), (12, pt p38 0), (13, pt p66 0), (92, li 0)]) (by kernel_rfl) ?_
     refine G.loop (X := Nat × Nat × Nat × Nat × Nat × Nat × Nat × Nat × Nat) (fun ⟨i, a, b, c_, d, e, f, g, h⟩ => [(0, pt q 0), (4, pt p3 0), (12, pt p38 0), (13, pt p66 0), (92, vi i)]) (fun ⟨i, a, b, c_, d, e, f, g, h⟩ w_ => (i ≤ 64 ∧ (a, b, c_, d, e, f, g, h) = shaR p (s0, s1, s2, s3, s4, s5, s6, s7) i) ∧ Hp w S [.blk q (c8 s0 s1 s2 s3 s4 s5 s6 s7) 106, .blk p3 (u32s (wsP p 64)) 96, .blk p38 (u32s KT) 96, .blk p66 (c8 a b c_ d e f g h) 106] w_) (fun ⟨i, a, b, c_, d, e, f, g, h⟩ => 64 - i) ⟨0, s0, s1, s2, s3, s4, s5, s6, s7⟩ [0, 4, 12, 13, 92] (by kernel_rfl) ⟨⟨by omega, rfl⟩, H101⟩ ?_
     rintro ⟨i, a, b, c_, d, e, f, g, h⟩ w102 ⟨hi103, H104⟩
     refine G.eq (M' := [(0, pt q 0), (4, pt p3 0), (12, pt p38 0), (13, pt p66 0), (92, vi i)]) rfl ?_
     have hi64 := hi103.1
     have hv8 := hi103.2
     have ho8 := ok8_rounds (p := p) hs i
     rw [← hv8] at ho8
     obtain ⟨ha, hb, hc, hd, he, hf, hg, hh⟩ := ho8
     refine G.sr fun K105 hK106 => ?_
     refine GL.r 1 1 [(0, pt q 0), (4, pt p3 0), (12, pt p38 0), (13, pt p66 0), (92, vi i), (93, .bool (decide ((i : Int) < 64)))] ?_
     refine GL.q hK106 ?_
     refine G.seqK fun K107 hK108 => ?_
     cases hb109 : (decide ((i : Int) < 64))
     · skip
       have hb109f := of_decide_eq_false hb109
       refine G.no rfl ?_
       refine G.exitK hK98 (fun _ _ h => h) ?_
       refine G.sr fun K110 hK111 => ?_
       refine GL.s 1 (H104.ldA (o := 0) (ty := 106) (m := 8) (sub := (c8 a b c_ d e f g h)) 3 rfl (by kernel_rfl) rfl rfl) [(0, pt q 0), (182, .agg #[vw a, vw b, vw c_, vw d, vw e, vw f, vw g, vw h])] ?_
       refine GL.r 2 1 [(0, pt q 0), (182, .agg #[vw a, vw b, vw c_, vw d, vw e, vw f, vw g, vw h]), (183, li 0)] ?_
       refine GL.q hK111 ?_
       refine G.block ?_
       refine G.unroll 9 ?_
       refine G.sr fun K112 hK113 => ?_
       refine GL.r 1 1 [(0, pt q 0), (182, .agg #[vw a, vw b, vw c_, vw d, vw e, vw f, vw g, vw h]), (183, li 0), (184, .bool true)] ?_
       refine GL.q hK113 ?_
       refine G.seqK fun K114 hK115 => ?_
       refine G.yes rfl ?_
       refine G.skipK hK115 (fun _ _ h => h) ?_
       refine G.seqK fun K116 hK117 => ?_
       refine G.block ?_
       refine G.sr fun K118 hK119 => ?_
       refine GL.r 4 4 [(0, pt q 0), (19, li 0), (20, vw a), (182, .agg #[vw a, vw b, vw c_, vw d, vw e, vw f, vw g, vw h]), (183, li 0)] ?_
       refine GL.q hK119 ?_
       refine G.tail 9 (by kernel_rfl) (by kernel_rfl) ?_
       have H120 := H104.drew
       generalize ({ w102 with drawn := w102.drawn + 1 } : World) = w121 at H120 ⊢
       refine GS.r 4 4 [(0, pt q 0), (20, vw a), (182, .agg #[vw a, vw b, vw c_, vw d, vw e, vw f, vw g, vw h]), (183, li 0), (187, pt q 0), (188, li 0), (190, pt q 0)] ?_
       refine GS.s 5 (H120.ld (o := 0) (ty := 22) (v := vw s0) 0 rfl (by kernel_rfl) rfl) [(0, pt q 0), (20, vw a), (182, .agg #[vw a, vw b, vw c_, vw d, vw e, vw f, vw g, vw h]), (183, li 0), (187, pt q 0), (188, li 0), (191, vw s0)] ?_
       refine GS.r 9 4 [(0, pt q 0), (182, .agg #[vw a, vw b, vw c_, vw d, vw e, vw f, vw g, vw h]), (183, li 0), (193, lw (IntKind.u32.wrap ((s0 : Int) + (a : Int)))), (195, pt q 0)] ?_
       have e122 : (IntKind.u32.wrap ((s0 : Int) + (a : Int))) = (((s0 + a) % W32 : Nat) : Int) := w_add _ _
       rw [e122]
       clear e122
       refine GS.tail rfl ?_
       obtain ⟨w123, r124, H125⟩ := H120.st (P := Try.prog) (o := 0) (ty := 22) (v := vw ((s0 + a) % W32)) 0 rfl (by kernel_rfl) (by show 0 < 8; decide) rfl
       refine GL.u 10 r124 [(0, pt q 0), (182, .agg #[vw a, vw b, vw c_, vw d, vw e, vw f, vw g, vw h]), (183, li 0)] ?_
       refine GL.q hK117 ?_
       refine G.region ?_
       refine GL.r 2 2 [(0, pt q 0), (182, .agg #[vw a, vw b, vw c_, vw d, vw e, vw f, vw g, vw h]), (183, li 1)] ?_
       refine GL.round rfl ?_
       refine G.sr fun K126 hK127 => ?_
       refine GL.r 1 1 [(0, pt q 0), (182, .agg #[vw a, vw b, vw c_, vw d, vw e, vw f, vw g, vw h]), (183, li 1), (184, .bool true)] ?_
       refine GL.q hK127 ?_
       refine G.seqK fun K128 hK129 => ?_
       refine G.yes rfl ?_
       refine G.skipK hK129 (fun _ _ h => h) ?_
       refine G.seqK fun K130 hK131 => ?_
       refine G.block ?_
       refine G.sr fun K132 hK133 => ?_
       refine GL.r 4 4 [(0, pt q 0), (19, li 1), (20, vw b), (182, .agg #[vw a, vw b, vw c_, vw d, vw e, vw f, vw g, vw h]), (183, li 1)] ?_
       refine GL.q hK133 ?_
       refine G.tail 9 (by kernel_rfl) (by kernel_rfl) ?_
       have H134 := H125.drew
       generalize ({ w123 with drawn := w123.drawn + 1 } : World) = w135 at H134 ⊢
       refine GS.r 4 4 [(0, pt q 0), (20, vw b), (182, .agg #[vw a, vw b, vw c_, vw d, vw e, vw f, vw g, vw h]), (183, li 1), (187, pt q 0), (188, li 1), (190, pt q 1)] ?_
       refine GS.s 5 (H134.ld (o := 1) (ty := 22) (v := vw s1) 0 rfl (by kernel_rfl) rfl) [(0, pt q 0), (20, vw b), (182, .agg #[vw a, vw b, vw c_, vw d, vw e, vw f, vw g, vw h]), (183, li 1), (187, pt q 0), (188, li 1), (191, vw s1)] ?_
       refine GS.r 9 4 [(0, pt q 0), (182, .agg #[vw a, vw b, vw c_, vw d, vw e, vw f, vw g, vw h]), (183, li 1), (193, lw (IntKind.u32.wrap ((s1 : Int) + (b : Int)))), (195, pt q 1)] ?_
       have e136 : (IntKind.u32.wrap ((s1 : Int) + (b : Int))) = (((s1 + b) % W32 : Nat) : Int) := w_add _ _
       rw [e136]
       clear e136
       refine GS.tail rfl ?_
       obtain ⟨w137, r138, H139⟩ := H134.st (P := Try.prog) (o := 1) (ty := 22) (v := vw ((s1 + b) % W32)) 0 rfl (by kernel_rfl) (by show 1 < 8; decide) rfl
       refine GL.u 10 r138 [(0, pt q 0), (182, .agg #[vw a, vw b, vw c_, vw d, vw e, vw f, vw g, vw h]), (183, li 1)] ?_
       refine GL.q hK131 ?_
       refine G.region ?_
       refine GL.r 2 2 [(0, pt q 0), (182, .agg #[vw a, vw b, vw c_, vw d, vw e, vw f, vw g, vw h]), (183, li 2)] ?_
       refine GL.round rfl ?_
       refine G.sr fun K140 hK141 => ?_
       refine GL.r 1 1 [(0, pt q 0), (182, .agg #[vw a, vw b, vw c_, vw d, vw e, vw f, vw g, vw h]), (183, li 2), (184, .bool true)] ?_
       refine GL.q hK141 ?_
       refine G.seqK fun K142 hK143 => ?_
       refine G.yes rfl ?_
       refine G.skipK hK143 (fun _ _ h => h) ?_
       refine G.seqK fun K144 hK145 => ?_
       refine G.block ?_
       refine G.sr fun K146 hK147 => ?_
       refine GL.r 4 4 [(0, pt q 0), (19, li 2), (20, vw c_), (182, .agg #[vw a, vw b, vw c_, vw d, vw e, vw f, vw g, vw h]), (183, li 2)] ?_
       refine GL.q hK147 ?_
       refine G.tail 9 (by kernel_rfl) (by kernel_rfl) ?_
       have H148 := H139.drew
       generalize ({ w137 with drawn := w137.drawn + 1 } : World) = w149 at H148 ⊢
       refine GS.r 4 4 [(0, pt q 0), (20, vw c_), (182, .agg #[vw a, vw b, vw c_, vw d, vw e, vw f, vw g, vw h]), (183, li 2), (187, pt q 0), (188, li 2), (190, pt q 2)] ?_
       refine GS.s 5 (H148.ld (o := 2) (ty := 22) (v := vw s2) 0 rfl (by kernel_rfl) rfl) [(0, pt q 0), (20, vw c_), (182, .agg #[vw a, vw b, vw c_, vw d, vw e, vw f, vw g, vw h]), (183, li 2), (187, pt q 0), (188, li 2), (191, vw s2)] ?_
       refine GS.r 9 4 [(0, pt q 0), (182, .agg #[vw a, vw b, vw c_, vw d, vw e, vw f, vw g, vw h]), (183, li 2), (193, lw (IntKind.u32.wrap ((s2 : Int) + (c_ : Int)))), (195, pt q 2)] ?_
       have e150 : (IntKind.u32.wrap ((s2 : Int) + (c_ : Int))) = (((s2 + c_) % W32 : Nat) : Int) := w_add _ _
       rw [e150]
       clear e150
       refine GS.tail rfl ?_
       obtain ⟨w151, r152, H153⟩ := H148.st (P := Try.prog) (o := 2) (ty := 22) (v := vw ((s2 + c_) % W32)) 0 rfl (by kernel_rfl) (by show 2 < 8; decide) rfl
       refine GL.u 10 r152 [(0, pt q 0), (182, .agg #[vw a, vw b, vw c_, vw d, vw e, vw f, vw g, vw h]), (183, li 2)] ?_
       refine GL.q hK145 ?_
       refine G.region ?_
       refine GL.r 2 2 [(0, pt q 0), (182, .agg #[vw a, vw b, vw c_, vw d, vw e, vw f, vw g, vw h]), (183, li 3)] ?_
       refine GL.round rfl ?_
       refine G.sr fun K154 hK155 => ?_
       refine GL.r 1 1 [(0, pt q 0), (182, .agg #[vw a, vw b, vw c_, vw d, vw e, vw f, vw g, vw h]), (183, li 3), (184, .bool true)] ?_
       refine GL.q hK155 ?_
       refine G.seqK fun K156 hK157 => ?_
       refine G.yes rfl ?_
       refine G.skipK hK157 (fun _ _ h => h) ?_
       refine G.seqK fun K158 hK159 => ?_
       refine G.block ?_
       refine G.sr fun K160 hK161 => ?_
       refine GL.r 4 4 [(0, pt q 0), (19, li 3), (20, vw d), (182, .agg #[vw a, vw b, vw c_, vw d, vw e, vw f, vw g, vw h]), (183, li 3)] ?_
       refine GL.q hK161 ?_
       refine G.tail 9 (by kernel_rfl) (by kernel_rfl) ?_
       have H162 := H153.drew
       generalize ({ w151 with drawn := w151.drawn + 1 } : World) = w163 at H162 ⊢
       refine GS.r 4 4 [(0, pt q 0), (20, vw d), (182, .agg #[vw a, vw b, vw c_, vw d, vw e, vw f, vw g, vw h]), (183, li 3), (187, pt q 0), (188, li 3), (190, pt q 3)] ?_
       refine GS.s 5 (H162.ld (o := 3) (ty := 22) (v := vw s3) 0 rfl (by kernel_rfl) rfl) [(0, pt q 0), (20, vw d), (182, .agg #[vw a, vw b, vw c_, vw d, vw e, vw f, vw g, vw h]), (183, li 3), (187, pt q 0), (188, li 3), (191, vw s3)] ?_
       refine GS.r 9 4 [(0, pt q 0), (182, .agg #[vw a, vw b, vw c_, vw d, vw e, vw f, vw g, vw h]), (183, li 3), (193, lw (IntKind.u32.wrap ((s3 : Int) + (d : Int)))), (195, pt q 3)] ?_
       have e164 : (IntKind.u32.wrap ((s3 : Int) + (d : Int))) = (((s3 + d) % W32 : Nat) : Int) := w_add _ _
       rw [e164]
       clear e164
       refine GS.tail rfl ?_
       obtain ⟨w165, r166, H167⟩ := H162.st (P := Try.prog) (o := 3) (ty := 22) (v := vw ((s3 + d) % W32)) 0 rfl (by kernel_rfl) (by show 3 < 8; decide) rfl
       refine GL.u 10 r166 [(0, pt q 0), (182, .agg #[vw a, vw b, vw c_, vw d, vw e, vw f, vw g, vw h]), (183, li 3)] ?_
       refine GL.q hK159 ?_
       refine G.region ?_
       refine GL.r 2 2 [(0, pt q 0), (182, .agg #[vw a, vw b, vw c_, vw d, vw e, vw f, vw g, vw h]), (183, li 4)] ?_
       refine GL.round rfl ?_
       refine G.sr fun K168 hK169 => ?_
       refine GL.r 1 1 [(0, pt q 0), (182, .agg #[vw a, vw b, vw c_, vw d, vw e, vw f, vw g, vw h]), (183, li 4), (184, .bool true)] ?_
       refine GL.q hK169 ?_
       refine G.seqK fun K170 hK171 => ?_
       refine G.yes rfl ?_
       refine G.skipK hK171 (fun _ _ h => h) ?_
       refine G.seqK fun K172 hK173 => ?_
       refine G.block ?_
       refine G.sr fun K174 hK175 => ?_
       refine GL.r 4 4 [(0, pt q 0), (19, li 4), (20, vw e), (182, .agg #[vw a, vw b, vw c_, vw d, vw e, vw f, vw g, vw h]), (183, li 4)] ?_
       refine GL.q hK175 ?_
       refine G.tail 9 (by kernel_rfl) (by kernel_rfl) ?_
       have H176 := H167.drew
       generalize ({ w165 with drawn := w165.drawn + 1 } : World) = w177 at H176 ⊢
       refine GS.r 4 4 [(0, pt q 0), (20, vw e), (182, .agg #[vw a, vw b, vw c_, vw d, vw e, vw f, vw g, vw h]), (183, li 4), (187, pt q 0), (188, li 4), (190, pt q 4)] ?_
       refine GS.s 5 (H176.ld (o := 4) (ty := 22) (v := vw s4) 0 rfl (by kernel_rfl) rfl) [(0, pt q 0), (20, vw e), (182, .agg #[vw a, vw b, vw c_, vw d, vw e, vw f, vw g, vw h]), (183, li 4), (187, pt q 0), (188, li 4), (191, vw s4)] ?_
       refine GS.r 9 4 [(0, pt q 0), (182, .agg #[vw a, vw b, vw c_, vw d, vw e, vw f, vw g, vw h]), (183, li 4), (193, lw (IntKind.u32.wrap ((s4 : Int) + (e : Int)))), (195, pt q 4)] ?_
       have e178 : (IntKind.u32.wrap ((s4 : Int) + (e : Int))) = (((s4 + e) % W32 : Nat) : Int) := w_add _ _
       rw [e178]
       clear e178
       refine GS.tail rfl ?_
       obtain ⟨w179, r180, H181⟩ := H176.st (P := Try.prog) (o := 4) (ty := 22) (v := vw ((s4 + e) % W32)) 0 rfl (by kernel_rfl) (by show 4 < 8; decide) rfl
       refine GL.u 10 r180 [(0, pt q 0), (182, .agg #[vw a, vw b, vw c_, vw d, vw e, vw f, vw g, vw h]), (183, li 4)] ?_
       refine GL.q hK173 ?_
       refine G.region ?_
       refine GL.r 2 2 [(0, pt q 0), (182, .agg #[vw a, vw b, vw c_, vw d, vw e, vw f, vw g, vw h]), (183, li 5)] ?_
       refine GL.round rfl ?_
       refine G.sr fun K182 hK183 => ?_
       refine GL.r 1 1 [(0, pt q 0), (182, .agg #[vw a, vw b, vw c_, vw d, vw e, vw f, vw g, vw h]), (183, li 5), (184, .bool true)] ?_
       refine GL.q hK183 ?_
       refine G.seqK fun K184 hK185 => ?_
       refine G.yes rfl ?_
       refine G.skipK hK185 (fun _ _ h => h) ?_
       refine G.seqK fun K186 hK187 => ?_
       refine G.block ?_
       refine G.sr fun K188 hK189 => ?_
       refine GL.r 4 4 [(0, pt q 0), (19, li 5), (20, vw f), (182, .agg #[vw a, vw b, vw c_, vw d, vw e, vw f, vw g, vw h]), (183, li 5)] ?_
       refine GL.q hK189 ?_
       refine G.tail 9 (by kernel_rfl) (by kernel_rfl) ?_
       have H190 := H181.drew
       generalize ({ w179 with drawn := w179.drawn + 1 } : World) = w191 at H190 ⊢
       refine GS.r 4 4 [(0, pt q 0), (20, vw f), (182, .agg #[vw a, vw b, vw c_, vw d, vw e, vw f, vw g, vw h]), (183, li 5), (187, pt q 0), (188, li 5), (190, pt q 5)] ?_
       refine GS.s 5 (H190.ld (o := 5) (ty := 22) (v := vw s5) 0 rfl (by kernel_rfl) rfl) [(0, pt q 0), (20, vw f), (182, .agg #[vw a, vw b, vw c_, vw d, vw e, vw f, vw g, vw h]), (183, li 5), (187, pt q 0), (188, li 5), (191, vw s5)] ?_
       refine GS.r 9 4 [(0, pt q 0), (182, .agg #[vw a, vw b, vw c_, vw d, vw e, vw f, vw g, vw h]), (183, li 5), (193, lw (IntKind.u32.wrap ((s5 : Int) + (f : Int)))), (195, pt q 5)] ?_
       have e192 : (IntKind.u32.wrap ((s5 : Int) + (f : Int))) = (((s5 + f) % W32 : Nat) : Int) := w_add _ _
       rw [e192]
       clear e192
       refine GS.tail rfl ?_
       obtain ⟨w193, r194, H195⟩ := H190.st (P := Try.prog) (o := 5) (ty := 22) (v := vw ((s5 + f) % W32)) 0 rfl (by kernel_rfl) (by show 5 < 8; decide) rfl
       refine GL.u 10 r194 [(0, pt q 0), (182, .agg #[vw a, vw b, vw c_, vw d, vw e, vw f, vw g, vw h]), (183, li 5)] ?_
       refine GL.q hK187 ?_
       refine G.region ?_
       refine GL.r 2 2 [(0, pt q 0), (182, .agg #[vw a, vw b, vw c_, vw d, vw e, vw f, vw g, vw h]), (183, li 6)] ?_
       refine GL.round rfl ?_
       refine G.sr fun K196 hK197 => ?_
       refine GL.r 1 1 [(0, pt q 0), (182, .agg #[vw a, vw b, vw c_, vw d, vw e, vw f, vw g, vw h]), (183, li 6), (184, .bool true)] ?_
       refine GL.q hK197 ?_
       refine G.seqK fun K198 hK199 => ?_
       refine G.yes rfl ?_
       refine G.skipK hK199 (fun _ _ h => h) ?_
       refine G.seqK fun K200 hK201 => ?_
       refine G.block ?_
       refine G.sr fun K202 hK203 => ?_
       refine GL.r 4 4 [(0, pt q 0), (19, li 6), (20, vw g), (182, .agg #[vw a, vw b, vw c_, vw d, vw e, vw f, vw g, vw h]), (183, li 6)] ?_
       refine GL.q hK203 ?_
       refine G.tail 9 (by kernel_rfl) (by kernel_rfl) ?_
       have H204 := H195.drew
       generalize ({ w193 with drawn := w193.drawn + 1 } : World) = w205 at H204 ⊢
       refine GS.r 4 4 [(0, pt q 0), (20, vw g), (182, .agg #[vw a, vw b, vw c_, vw d, vw e, vw f, vw g, vw h]), (183, li 6), (187, pt q 0), (188, li 6), (190, pt q 6)] ?_
       refine GS.s 5 (H204.ld (o := 6) (ty := 22) (v := vw s6) 0 rfl (by kernel_rfl) rfl) [(0, pt q 0), (20, vw g), (182, .agg #[vw a, vw b, vw c_, vw d, vw e, vw f, vw g, vw h]), (183, li 6), (187, pt q 0), (188, li 6), (191, vw s6)] ?_
       refine GS.r 9 4 [(0, pt q 0), (182, .agg #[vw a, vw b, vw c_, vw d, vw e, vw f, vw g, vw h]), (183, li 6), (193, lw (IntKind.u32.wrap ((s6 : Int) + (g : Int)))), (195, pt q 6)] ?_
       have e206 : (IntKind.u32.wrap ((s6 : Int) + (g : Int))) = (((s6 + g) % W32 : Nat) : Int) := w_add _ _
       rw [e206]
       clear e206
       refine GS.tail rfl ?_
       obtain ⟨w207, r208, H209⟩ := H204.st (P := Try.prog) (o := 6) (ty := 22) (v := vw ((s6 + g) % W32)) 0 rfl (by kernel_rfl) (by show 6 < 8; decide) rfl
       refine GL.u 10 r208 [(0, pt q 0), (182, .agg #[vw a, vw b, vw c_, vw d, vw e, vw f, vw g, vw h]), (183, li 6)] ?_
       refine GL.q hK201 ?_
       refine G.region ?_
       refine GL.r 2 2 [(0, pt q 0), (182, .agg #[vw a, vw b, vw c_, vw d, vw e, vw f, vw g, vw h]), (183, li 7)] ?_
       refine GL.round rfl ?_
       refine G.sr fun K210 hK211 => ?_
       refine GL.r 1 1 [(0, pt q 0), (182, .agg #[vw a, vw b, vw c_, vw d, vw e, vw f, vw g, vw h]), (183, li 7), (184, .bool true)] ?_
       refine GL.q hK211 ?_
       refine G.seqK fun K212 hK213 => ?_
       refine G.yes rfl ?_
       refine G.skipK hK213 (fun _ _ h => h) ?_
       refine G.seqK fun K214 hK215 => ?_
       refine G.block ?_
       refine G.sr fun K216 hK217 => ?_
       refine GL.r 4 4 [(0, pt q 0), (19, li 7), (20, vw h), (182, .agg #[vw a, vw b, vw c_, vw d, vw e, vw f, vw g, vw h]), (183, li 7)] ?_
       refine GL.q hK217 ?_
       refine G.tail 9 (by kernel_rfl) (by kernel_rfl) ?_
       have H218 := H209.drew
       generalize ({ w207 with drawn := w207.drawn + 1 } : World) = w219 at H218 ⊢
       refine GS.r 4 4 [(0, pt q 0), (20, vw h), (182, .agg #[vw a, vw b, vw c_, vw d, vw e, vw f, vw g, vw h]), (183, li 7), (187, pt q 0), (188, li 7), (190, pt q 7)] ?_
       refine GS.s 5 (H218.ld (o := 7) (ty := 22) (v := vw s7) 0 rfl (by kernel_rfl) rfl) [(0, pt q 0), (20, vw h), (182, .agg #[vw a, vw b, vw c_, vw d, vw e, vw f, vw g, vw h]), (183, li 7), (187, pt q 0), (188, li 7), (191, vw s7)] ?_
       refine GS.r 9 4 [(0, pt q 0), (182, .agg #[vw a, vw b, vw c_, vw d, vw e, vw f, vw g, vw h]), (183, li 7), (193, lw (IntKind.u32.wrap ((s7 : Int) + (h : Int)))), (195, pt q 7)] ?_
       have e220 : (IntKind.u32.wrap ((s7 : Int) + (h : Int))) = (((s7 + h) % W32 : Nat) : Int) := w_add _ _
       rw [e220]
       clear e220
       refine GS.tail rfl ?_
       obtain ⟨w221, r222, H223⟩ := H218.st (P := Try.prog) (o := 7) (ty := 22) (v := vw ((s7 + h) % W32)) 0 rfl (by kernel_rfl) (by show 7 < 8; decide) rfl
       refine GL.u 10 r222 [(0, pt q 0), (182, .agg #[vw a, vw b, vw c_, vw d, vw e, vw f, vw g, vw h]), (183, li 7)] ?_
       refine GL.q hK215 ?_
       refine G.region ?_
       refine GL.r 2 2 [(0, pt q 0), (182, .agg #[vw a, vw b, vw c_, vw d, vw e, vw f, vw g, vw h]), (183, li 8)] ?_
       refine GL.round rfl ?_
       refine G.sr fun K224 hK225 => ?_
       refine GL.r 1 1 [(0, pt q 0), (182, .agg #[vw a, vw b, vw c_, vw d, vw e, vw f, vw g, vw h]), (183, li 8), (184, .bool false)] ?_
       refine GL.q hK225 ?_
       refine G.seqK fun K226 hK227 => ?_
       refine G.no rfl ?_
       refine fun F_ hF_ hM_ => wp_exit ?_
       refine hNor _ _ (bodyPost_0 rfl  ?_ F_ hF_ hM_)
       have H228 : Hp w S [.blk q (c8 ((s0 + a) % W32) ((s1 + b) % W32) ((s2 + c_) % W32) ((s3 + d) % W32) ((s4 + e) % W32) ((s5 + f) % W32) ((s6 + g) % W32) ((s7 + h) % W32)) 106] w221 := H223.sub (List.Sublist.cons_cons _ (List.Sublist.cons _ (List.Sublist.cons _ (List.Sublist.cons _ (List.Sublist.slnil)))))
       have HF := H228
       have e64 : i = 64 := by omega
       have e8 : blockF (s0, s1, s2, s3, s4, s5, s6, s7) p = add8 (s0, s1, s2, s3, s4, s5, s6, s7) (a, b, c_, d, e, f, g, h) := by rw [blockF, hv8, e64]
       rw [e8]
       exact ⟨rfl, HF⟩
     · skip
       have hb109f := of_decide_eq_true hb109
       refine G.yes rfl ?_
       refine G.skipK hK108 (fun _ _ h => h) ?_
       refine G.seqK fun K229 hK230 => ?_
       refine G.block ?_
       refine G.sr fun K231 hK232 => ?_
       refine GL.r 2 2 [(0, pt q 0), (4, pt p3 0), (12, pt p38 0), (13, pt p66 0), (14, vi i), (92, vi i)] ?_
       refine GL.q hK232 ?_
       refine G.sr fun K233 hK234 => ?_
       refine GL.r 1 1 [(0, pt q 0), (4, pt p3 0), (12, pt p38 0), (13, pt p66 0), (14, vi i), (92, vi i), (95, pt p66 4)] ?_
       refine GL.s 2 (H104.ld (o := 4) (ty := 22) (v := vw e) 3 rfl (by kernel_rfl) rfl) [(0, pt q 0), (4, pt p3 0), (12, pt p38 0), (13, pt p66 0), (14, vi i), (92, vi i), (96, vw e)] ?_
       refine GL.r 3 1 [(0, pt q 0), (4, pt p3 0), (12, pt p38 0), (13, pt p66 0), (14, vi i), (92, vi i), (96, vw e), (97, pt p66 5)] ?_
       refine GL.s 4 (H104.ld (o := 5) (ty := 22) (v := vw f) 3 rfl (by kernel_rfl) rfl) [(0, pt q 0), (4, pt p3 0), (12, pt p38 0), (13, pt p66 0), (14, vi i), (92, vi i), (96, vw e), (98, vw f)] ?_
       refine GL.r 6 2 [(0, pt q 0), (4, pt p3 0), (12, pt p38 0), (13, pt p66 0), (14, vi i), (92, vi i), (99, lw (Go.bits .and .u32 (e : Int) (f : Int))), (100, pt p66 4)] ?_
       have e235 : (Go.bits .and .u32 (e : Int) (f : Int)) = (((e &&& f) : Nat) : Int) := w_and he hf
       rw [e235]
       clear e235
       refine GL.s 7 (H104.ld (o := 4) (ty := 22) (v := vw e) 3 rfl (by kernel_rfl) rfl) [(0, pt q 0), (4, pt p3 0), (12, pt p38 0), (13, pt p66 0), (14, vi i), (92, vi i), (99, vw (e &&& f)), (101, vw e)] ?_
       refine GL.r 9 2 [(0, pt q 0), (4, pt p3 0), (12, pt p38 0), (13, pt p66 0), (14, vi i), (92, vi i), (99, vw (e &&& f)), (102, lw (Go.bits .xor .u32 4294967295 (e : Int))), (103, pt p66 6)] ?_
       have e236 : (Go.bits .xor .u32 4294967295 (e : Int)) = (((4294967295 ^^^ e) : Nat) : Int) := w_xor (by decide) he
       rw [e236]
       clear e236
       refine GL.s 10 (H104.ld (o := 6) (ty := 22) (v := vw g) 3 rfl (by kernel_rfl) rfl) [(0, pt q 0), (4, pt p3 0), (12, pt p38 0), (13, pt p66 0), (14, vi i), (92, vi i), (99, vw (e &&& f)), (102, vw (4294967295 ^^^ e)), (104, vw g)] ?_
       refine GL.r 13 3 [(0, pt q 0), (4, pt p3 0), (12, pt p38 0), (13, pt p66 0), (14, vi i), (15, lw (Go.bits .xor .u32 (((e &&& f) : Nat) : Int) (Go.bits .and .u32 (((4294967295 ^^^ e) : Nat) : Int) (g : Int)))), (92, vi i)] ?_
       have e237 : (Go.bits .and .u32 (((4294967295 ^^^ e) : Nat) : Int) (g : Int)) = ((((4294967295 ^^^ e) &&& g) : Nat) : Int) := w_and (xor_lt32 (by decide) he) hg
       have e238 : (Go.bits .xor .u32 (((e &&& f) : Nat) : Int) ((((4294967295 ^^^ e) &&& g) : Nat) : Int)) = (((chf e f g) : Nat) : Int) := w_xor (and_lt32 he) (and_lt32 (xor_lt32 (by decide) he))
       rw [e237, e238]
       clear e237 e238
       refine GL.q hK234 ?_
       refine G.sr fun K239 hK240 => ?_
       refine GL.r 1 1 [(0, pt q 0), (4, pt p3 0), (12, pt p38 0), (13, pt p66 0), (14, vi i), (15, vw (chf e f g)), (92, vi i), (107, pt p66 0)] ?_
       refine GL.s 2 (H104.ld (o := 0) (ty := 22) (v := vw a) 3 rfl (by kernel_rfl) rfl) [(0, pt q 0), (4, pt p3 0), (12, pt p38 0), (13, pt p66 0), (14, vi i), (15, vw (chf e f g)), (92, vi i), (108, vw a)] ?_
       refine GL.r 3 1 [(0, pt q 0), (4, pt p3 0), (12, pt p38 0), (13, pt p66 0), (14, vi i), (15, vw (chf e f g)), (92, vi i), (108, vw a), (109, pt p66 1)] ?_
       refine GL.s 4 (H104.ld (o := 1) (ty := 22) (v := vw b) 3 rfl (by kernel_rfl) rfl) [(0, pt q 0), (4, pt p3 0), (12, pt p38 0), (13, pt p66 0), (14, vi i), (15, vw (chf e f g)), (92, vi i), (108, vw a), (110, vw b)] ?_
       refine GL.r 6 2 [(0, pt q 0), (4, pt p3 0), (12, pt p38 0), (13, pt p66 0), (14, vi i), (15, vw (chf e f g)), (92, vi i), (111, lw (Go.bits .and .u32 (a : Int) (b : Int))), (112, pt p66 0)] ?_
       have e241 : (Go.bits .and .u32 (a : Int) (b : Int)) = (((a &&& b) : Nat) : Int) := w_and ha hb
       rw [e241]
       clear e241
       refine GL.s 7 (H104.ld (o := 0) (ty := 22) (v := vw a) 3 rfl (by kernel_rfl) rfl) [(0, pt q 0), (4, pt p3 0), (12, pt p38 0), (13, pt p66 0), (14, vi i), (15, vw (chf e f g)), (92, vi i), (111, vw (a &&& b)), (113, vw a)] ?_
       refine GL.r 8 1 [(0, pt q 0), (4, pt p3 0), (12, pt p38 0), (13, pt p66 0), (14, vi i), (15, vw (chf e f g)), (92, vi i), (111, vw (a &&& b)), (113, vw a), (114, pt p66 2)] ?_
       refine GL.s 9 (H104.ld (o := 2) (ty := 22) (v := vw c_) 3 rfl (by kernel_rfl) rfl) [(0, pt q 0), (4, pt p3 0), (12, pt p38 0), (13, pt p66 0), (14, vi i), (15, vw (chf e f g)), (92, vi i), (111, vw (a &&& b)), (113, vw a), (115, vw c_)] ?_
       refine GL.r 12 3 [(0, pt q 0), (4, pt p3 0), (12, pt p38 0), (13, pt p66 0), (14, vi i), (15, vw (chf e f g)), (92, vi i), (117, lw (Go.bits .xor .u32 (((a &&& b) : Nat) : Int) (Go.bits .and .u32 (a : Int) (c_ : Int)))), (118, pt p66 1)] ?_
       have e242 : (Go.bits .and .u32 (a : Int) (c_ : Int)) = (((a &&& c_) : Nat) : Int) := w_and ha hc
       have e243 : (Go.bits .xor .u32 (((a &&& b) : Nat) : Int) (((a &&& c_) : Nat) : Int)) = ((((a &&& b) ^^^ (a &&& c_)) : Nat) : Int) := w_xor (and_lt32 ha) (and_lt32 ha)
       rw [e242, e243]
       clear e242 e243
       refine GL.s 13 (H104.ld (o := 1) (ty := 22) (v := vw b) 3 rfl (by kernel_rfl) rfl) [(0, pt q 0), (4, pt p3 0), (12, pt p38 0), (13, pt p66 0), (14, vi i), (15, vw (chf e f g)), (92, vi i), (117, vw ((a &&& b) ^^^ (a &&& c_))), (119, vw b)] ?_
       refine GL.r 14 1 [(0, pt q 0), (4, pt p3 0), (12, pt p38 0), (13, pt p66 0), (14, vi i), (15, vw (chf e f g)), (92, vi i), (117, vw ((a &&& b) ^^^ (a &&& c_))), (119, vw b), (120, pt p66 2)] ?_
       refine GL.s 15 (H104.ld (o := 2) (ty := 22) (v := vw c_) 3 rfl (by kernel_rfl) rfl) [(0, pt q 0), (4, pt p3 0), (12, pt p38 0), (13, pt p66 0), (14, vi i), (15, vw (chf e f g)), (92, vi i), (117, vw ((a &&& b) ^^^ (a &&& c_))), (119, vw b), (121, vw c_)] ?_
       refine GL.r 18 3 [(0, pt q 0), (4, pt p3 0), (12, pt p38 0), (13, pt p66 0), (14, vi i), (15, vw (chf e f g)), (16, lw (Go.bits .xor .u32 ((((a &&& b) ^^^ (a &&& c_)) : Nat) : Int) (Go.bits .and .u32 (b : Int) (c_ : Int)))), (92, vi i)] ?_
       have e244 : (Go.bits .and .u32 (b : Int) (c_ : Int)) = (((b &&& c_) : Nat) : Int) := w_and hb hc
       have e245 : (Go.bits .xor .u32 ((((a &&& b) ^^^ (a &&& c_)) : Nat) : Int) (((b &&& c_) : Nat) : Int)) = (((majf a b c_) : Nat) : Int) := w_xor (xor_lt32 (and_lt32 ha) (and_lt32 ha)) (and_lt32 hb)
       rw [e244, e245]
       clear e244 e245
       refine GL.q hK240 ?_
       refine G.seqK fun K246 hK247 => ?_
       refine G.heldP (Hp w S [.blk q (c8 s0 s1 s2 s3 s4 s5 s6 s7) 106, .blk p3 (u32s (wsP p 64)) 96, .blk p38 (u32s KT) 96, .blk p66 (c8 a b c_ d e f g h) 106]) (by kernel_rfl) (by kernel_rfl) (fun c_ a_ d_ v_ w_ h_ => hPan c_ a_ d_ v_ w_ h_) ?_
       have H248 := H104.drew
       generalize ({ w102 with drawn := w102.drawn + 1 } : World) = w249 at H248 ⊢
       have hS250 : Hp w S [.blk q (c8 s0 s1 s2 s3 s4 s5 s6 s7) 106, .blk p3 (u32s (wsP p 64)) 96, .blk p38 (u32s KT) 96, .blk p66 (c8 a b c_ d e f g h) 106] w249 := H248.sub (List.Sublist.cons_cons _ (List.Sublist.cons_cons _ (List.Sublist.cons_cons _ (List.Sublist.cons_cons _ (List.Sublist.slnil)))))
       refine GP.r [0] [(0, pt q 0), (4, pt p3 0), (12, pt p38 0), (13, pt p66 0), (14, vi i), (15, vw (chf e f g)), (16, vw (majf a b c_)), (92, vi i), (124, pt p66 7)] [0] hS250 ?_
       refine GP.s 1 (fun w_ H_ => H_.ld (o := 7) (ty := 22) (v := vw h) 3 rfl (by kernel_rfl) rfl) [(0, pt q 0), (4, pt p3 0), (12, pt p38 0), (13, pt p66 0), (14, vi i), (15, vw (chf e f g)), (16, vw (majf a b c_)), (92, vi i), (125, vw h)] hS250 ?_
       refine GP.r [2] [(0, pt q 0), (4, pt p3 0), (12, pt p38 0), (13, pt p66 0), (14, vi i), (15, vw (chf e f g)), (16, vw (majf a b c_)), (92, vi i), (125, vw h), (126, pt p66 4)] [0, 1, 2] hS250 ?_
       refine GP.s 3 (fun w_ H_ => H_.ld (o := 4) (ty := 22) (v := vw e) 3 rfl (by kernel_rfl) rfl) [(0, pt q 0), (4, pt p3 0), (12, pt p38 0), (13, pt p66 0), (14, vi i), (15, vw (chf e f g)), (16, vw (majf a b c_)), (92, vi i), (125, vw h), (127, vw e)] hS250 ?_
       refine GP.r [5] [(0, pt q 0), (4, pt p3 0), (12, pt p38 0), (13, pt p66 0), (14, vi i), (15, vw (chf e f g)), (16, vw (majf a b c_)), (92, vi i), (125, vw h), (127, vw e), (129, pt p66 4)] [0, 1, 2, 3, 5] hS250 ?_
       refine GP.s 6 (fun w_ H_ => H_.ld (o := 4) (ty := 22) (v := vw e) 3 rfl (by kernel_rfl) rfl) [(0, pt q 0), (4, pt p3 0), (12, pt p38 0), (13, pt p66 0), (14, vi i), (15, vw (chf e f g)), (16, vw (majf a b c_)), (92, vi i), (125, vw h), (127, vw e), (130, vw e)] hS250 ?_
       refine GP.r [9] [(0, pt q 0), (4, pt p3 0), (12, pt p38 0), (13, pt p66 0), (14, vi i), (15, vw (chf e f g)), (16, vw (majf a b c_)), (92, vi i), (125, vw h), (127, vw e), (130, vw e), (133, pt p66 4)] [0, 1, 2, 3, 5, 6, 9] hS250 ?_
       refine GP.s 10 (fun w_ H_ => H_.ld (o := 4) (ty := 22) (v := vw e) 3 rfl (by kernel_rfl) rfl) [(0, pt q 0), (4, pt p3 0), (12, pt p38 0), (13, pt p66 0), (14, vi i), (15, vw (chf e f g)), (16, vw (majf a b c_)), (92, vi i), (125, vw h), (127, vw e), (130, vw e), (134, vw e)] hS250 ?_
       refine GP.r [14, 16] [(0, pt q 0), (4, pt p3 0), (12, pt p38 0), (13, pt p66 0), (14, vi i), (16, vw (majf a b c_)), (92, vi i), (125, vw h), (127, vw e), (130, vw e), (134, vw e), (138, vw (chf e f g)), (140, vi i)] [0, 1, 2, 3, 5, 6, 9, 10, 14, 16] hS250 ?_
       refine GP.s 17 (fun w_ H_ => run_idxArr (P := Try.prog) (k := .i64) (t := 96) (len := 64) (sz := 1) (b := p38) (o := 0) (j := i) (by kernel_rfl) rfl (by omega)) [(0, pt q 0), (4, pt p3 0), (12, pt p38 0), (13, pt p66 0), (14, vi i), (16, vw (majf a b c_)), (92, vi i), (125, vw h), (127, vw e), (130, vw e), (134, vw e), (138, vw (chf e f g)), (141, pt p38 (0 + i * 1))] hS250 ?_
       refine GP.s 18 (fun w_ H_ => H_.ld (o := (0 + i * 1)) (ty := 22) (v := vw (KT.getD i 0)) 2 rfl (by kernel_rfl) (by rw [show (0 + i * 1) = i by omega]; exact u32s_at (getD_at (by rw [KT_length]; omega)))) [(0, pt q 0), (4, pt p3 0), (12, pt p38 0), (13, pt p66 0), (14, vi i), (16, vw (majf a b c_)), (92, vi i), (125, vw h), (127, vw e), (130, vw e), (134, vw e), (138, vw (chf e f g)), (142, vw (KT.getD i 0))] hS250 ?_
       refine GP.r [20] [(0, pt q 0), (4, pt p3 0), (12, pt p38 0), (13, pt p66 0), (16, vw (majf a b c_)), (92, vi i), (125, vw h), (127, vw e), (130, vw e), (134, vw e), (138, vw (chf e f g)), (142, vw (KT.getD i 0)), (144, vi i)] [0, 1, 2, 3, 5, 6, 9, 10, 14, 16, 17, 18, 20] hS250 ?_
       refine GP.s 21 (fun w_ H_ => run_idxArr (P := Try.prog) (k := .i64) (t := 96) (len := 64) (sz := 1) (b := p3) (o := 0) (j := i) (by kernel_rfl) rfl (by omega)) [(0, pt q 0), (4, pt p3 0), (12, pt p38 0), (13, pt p66 0), (16, vw (majf a b c_)), (92, vi i), (125, vw h), (127, vw e), (130, vw e), (134, vw e), (138, vw (chf e f g)), (142, vw (KT.getD i 0)), (145, pt p3 (0 + i * 1))] hS250 ?_
       refine GP.s 22 (fun w_ H_ => H_.ld (o := (0 + i * 1)) (ty := 22) (v := vw ((wsN p 64).getD i 0)) 1 rfl (by kernel_rfl) (by rw [show (0 + i * 1) = i by omega]; exact u32s_at (wsP_at (by omega) (by omega)))) [(0, pt q 0), (4, pt p3 0), (12, pt p38 0), (13, pt p66 0), (16, vw (majf a b c_)), (92, vi i), (125, vw h), (127, vw e), (130, vw e), (134, vw e), (138, vw (chf e f g)), (142, vw (KT.getD i 0)), (146, vw ((wsN p 64).getD i 0))] hS250 ?_
       refine GP.call 4 (Turn6_calls e he w249) (by kernel_rfl) (by kernel_rfl) (fun e_ w251 hR => ?_)
       obtain ⟨rfl, H253⟩ := hR
       have H252 : Hp w S [.blk q (c8 s0 s1 s2 s3 s4 s5 s6 s7) 106, .blk p3 (u32s (wsP p 64)) 96, .blk p38 (u32s KT) 96, .blk p66 (c8 a b c_ d e f g h) 106] w251 := H248.callNil H253
       have hS254 : Hp w S [.blk q (c8 s0 s1 s2 s3 s4 s5 s6 s7) 106, .blk p3 (u32s (wsP p 64)) 96, .blk p38 (u32s KT) 96, .blk p66 (c8 a b c_ d e f g h) 106] w251 := H252.sub (List.Sublist.cons_cons _ (List.Sublist.cons_cons _ (List.Sublist.cons_cons _ (List.Sublist.cons_cons _ (List.Sublist.slnil)))))
       refine ⟨_, rfl, hS254, [0, 4, 12, 13, 16, 92, 125, 128, 130, 134, 138, 142, 146], [(0, pt q 0), (4, pt p3 0), (12, pt p38 0), (13, pt p66 0), (16, vw (majf a b c_)), (92, vi i), (125, vw h), (128, vw (rt e 6)), (130, vw e), (134, vw e), (138, vw (chf e f g)), (142, vw (KT.getD i 0)), (146, vw ((wsN p 64).getD i 0))], by kernel_rfl, ?_⟩
       refine GP.call 7 (Turn11_calls e he w251) (by kernel_rfl) (by kernel_rfl) (fun e_ w255 hR => ?_)
       obtain ⟨rfl, H257⟩ := hR
       have H256 : Hp w S [.blk q (c8 s0 s1 s2 s3 s4 s5 s6 s7) 106, .blk p3 (u32s (wsP p 64)) 96, .blk p38 (u32s KT) 96, .blk p66 (c8 a b c_ d e f g h) 106] w255 := H252.callNil H257
       have hS258 : Hp w S [.blk q (c8 s0 s1 s2 s3 s4 s5 s6 s7) 106, .blk p3 (u32s (wsP p 64)) 96, .blk p38 (u32s KT) 96, .blk p66 (c8 a b c_ d e f g h) 106] w255 := H256.sub (List.Sublist.cons_cons _ (List.Sublist.cons_cons _ (List.Sublist.cons_cons _ (List.Sublist.cons_cons _ (List.Sublist.slnil)))))
       refine ⟨_, rfl, hS258, [0, 4, 12, 13, 16, 92, 125, 128, 131, 134, 138, 142, 146], [(0, pt q 0), (4, pt p3 0), (12, pt p38 0), (13, pt p66 0), (16, vw (majf a b c_)), (92, vi i), (125, vw h), (128, vw (rt e 6)), (131, vw (rt e 11)), (134, vw e), (138, vw (chf e f g)), (142, vw (KT.getD i 0)), (146, vw ((wsN p 64).getD i 0))], by kernel_rfl, ?_⟩
       refine GP.r [8] [(0, pt q 0), (4, pt p3 0), (12, pt p38 0), (13, pt p66 0), (16, vw (majf a b c_)), (92, vi i), (125, vw h), (132, lw (Go.bits .xor .u32 (((rt e 6) : Nat) : Int) (((rt e 11) : Nat) : Int))), (134, vw e), (138, vw (chf e f g)), (142, vw (KT.getD i 0)), (146, vw ((wsN p 64).getD i 0))] [0, 1, 2, 3, 5, 6, 9, 10, 14, 16, 17, 18, 20, 21, 22, 4, 7, 8] hS258 ?_
       have e259 : (Go.bits .xor .u32 (((rt e 6) : Nat) : Int) (((rt e 11) : Nat) : Int)) = ((((rt e 6) ^^^ (rt e 11)) : Nat) : Int) := w_xor (rt_lt he) (rt_lt he)
       refine GP.eq (M' := [(0, pt q 0), (4, pt p3 0), (12, pt p38 0), (13, pt p66 0), (16, vw (majf a b c_)), (92, vi i), (125, vw h), (132, vw ((rt e 6) ^^^ (rt e 11))), (134, vw e), (138, vw (chf e f g)), (142, vw (KT.getD i 0)), (146, vw ((wsN p 64).getD i 0))]) (by rw [e259]) ?_
       clear e259
       refine GP.call 11 (Turn25_calls e he w255) (by kernel_rfl) (by kernel_rfl) (fun e_ w260 hR => ?_)
       obtain ⟨rfl, H262⟩ := hR
       have H261 : Hp w S [.blk q (c8 s0 s1 s2 s3 s4 s5 s6 s7) 106, .blk p3 (u32s (wsP p 64)) 96, .blk p38 (u32s KT) 96, .blk p66 (c8 a b c_ d e f g h) 106] w260 := H256.callNil H262
       have hS263 : Hp w S [.blk q (c8 s0 s1 s2 s3 s4 s5 s6 s7) 106, .blk p3 (u32s (wsP p 64)) 96, .blk p38 (u32s KT) 96, .blk p66 (c8 a b c_ d e f g h) 106] w260 := H261.sub (List.Sublist.cons_cons _ (List.Sublist.cons_cons _ (List.Sublist.cons_cons _ (List.Sublist.cons_cons _ (List.Sublist.slnil)))))
       refine ⟨_, rfl, hS263, [0, 4, 12, 13, 16, 92, 125, 132, 135, 138, 142, 146], [(0, pt q 0), (4, pt p3 0), (12, pt p38 0), (13, pt p66 0), (16, vw (majf a b c_)), (92, vi i), (125, vw h), (132, vw ((rt e 6) ^^^ (rt e 11))), (135, vw (rt e 25)), (138, vw (chf e f g)), (142, vw (KT.getD i 0)), (146, vw ((wsN p 64).getD i 0))], by kernel_rfl, ?_⟩
       refine GP.r [12, 13, 15, 19, 23, 24] [(0, pt q 0), (4, pt p3 0), (12, pt p38 0), (13, pt p66 0), (16, vw (majf a b c_)), (17, lw (IntKind.u32.wrap ((IntKind.u32.wrap ((IntKind.u32.wrap ((IntKind.u32.wrap ((h : Int) + (Go.bits .xor .u32 ((((rt e 6) ^^^ (rt e 11)) : Nat) : Int) (((rt e 25) : Nat) : Int)))) + (((chf e f g) : Nat) : Int))) + (((KT.getD i 0) : Nat) : Int))) + ((((wsN p 64).getD i 0) : Nat) : Int)))), (92, vi i)] [0, 1, 2, 3, 5, 6, 9, 10, 14, 16, 17, 18, 20, 21, 22, 4, 7, 8, 11, 12, 13, 15, 19, 23, 24] hS263 ?_
       have e264 : (Go.bits .xor .u32 ((((rt e 6) ^^^ (rt e 11)) : Nat) : Int) (((rt e 25) : Nat) : Int)) = (((bsg1 e) : Nat) : Int) := w_xor (xor_lt32 (rt_lt he) (rt_lt he)) (rt_lt he)
       have e265 : (IntKind.u32.wrap ((h : Int) + (((bsg1 e) : Nat) : Int))) = (((h + (bsg1 e)) % W32 : Nat) : Int) := w_add _ _
       have e266 : (IntKind.u32.wrap ((((h + (bsg1 e)) % W32 : Nat) : Int) + (((chf e f g) : Nat) : Int))) = (((h + (bsg1 e) + (chf e f g)) % W32 : Nat) : Int) := w_addm _ _
       have e267 : (IntKind.u32.wrap ((((h + (bsg1 e) + (chf e f g)) % W32 : Nat) : Int) + (((KT.getD i 0) : Nat) : Int))) = (((h + (bsg1 e) + (chf e f g) + (KT.getD i 0)) % W32 : Nat) : Int) := w_addm _ _
       have e268 : (IntKind.u32.wrap ((((h + (bsg1 e) + (chf e f g) + (KT.getD i 0)) % W32 : Nat) : Int) + ((((wsN p 64).getD i 0) : Nat) : Int))) = (((h + (bsg1 e) + (chf e f g) + (KT.getD i 0) + ((wsN p 64).getD i 0)) % W32 : Nat) : Int) := w_addm _ _
       refine GP.eq (M' := [(0, pt q 0), (4, pt p3 0), (12, pt p38 0), (13, pt p66 0), (16, vw (majf a b c_)), (17, vw ((h + (bsg1 e) + (chf e f g) + (KT.getD i 0) + ((wsN p 64).getD i 0)) % W32)), (92, vi i)]) (by rw [e264, e265, e266, e267, e268]) ?_
       clear e264 e265 e266 e267 e268
       refine GP.k (by kernel_rfl) hK247 (fun _ _ h => h) ?_
       refine G.seqK fun K269 hK270 => ?_
       refine G.heldP (Hp w S [.blk q (c8 s0 s1 s2 s3 s4 s5 s6 s7) 106, .blk p3 (u32s (wsP p 64)) 96, .blk p38 (u32s KT) 96, .blk p66 (c8 a b c_ d e f g h) 106]) (by kernel_rfl) (by kernel_rfl) (fun c_ a_ d_ v_ w_ h_ => hPan c_ a_ d_ v_ w_ h_) ?_
       have H271 := H261.drew
       generalize ({ w260 with drawn := w260.drawn + 1 } : World) = w272 at H271 ⊢
       have hS273 : Hp w S [.blk q (c8 s0 s1 s2 s3 s4 s5 s6 s7) 106, .blk p3 (u32s (wsP p 64)) 96, .blk p38 (u32s KT) 96, .blk p66 (c8 a b c_ d e f g h) 106] w272 := H271.sub (List.Sublist.cons_cons _ (List.Sublist.cons_cons _ (List.Sublist.cons_cons _ (List.Sublist.cons_cons _ (List.Sublist.slnil)))))
       refine GP.r [0] [(0, pt q 0), (4, pt p3 0), (12, pt p38 0), (13, pt p66 0), (16, vw (majf a b c_)), (17, vw ((h + (bsg1 e) + (chf e f g) + (KT.getD i 0) + ((wsN p 64).getD i 0)) % W32)), (92, vi i), (148, pt p66 0)] [0] hS273 ?_
       refine GP.s 1 (fun w_ H_ => H_.ld (o := 0) (ty := 22) (v := vw a) 3 rfl (by kernel_rfl) rfl) [(0, pt q 0), (4, pt p3 0), (12, pt p38 0), (13, pt p66 0), (16, vw (majf a b c_)), (17, vw ((h + (bsg1 e) + (chf e f g) + (KT.getD i 0) + ((wsN p 64).getD i 0)) % W32)), (92, vi i), (149, vw a)] hS273 ?_
       refine GP.r [3] [(0, pt q 0), (4, pt p3 0), (12, pt p38 0), (13, pt p66 0), (16, vw (majf a b c_)), (17, vw ((h + (bsg1 e) + (chf e f g) + (KT.getD i 0) + ((wsN p 64).getD i 0)) % W32)), (92, vi i), (149, vw a), (151, pt p66 0)] [0, 1, 3] hS273 ?_
       refine GP.s 4 (fun w_ H_ => H_.ld (o := 0) (ty := 22) (v := vw a) 3 rfl (by kernel_rfl) rfl) [(0, pt q 0), (4, pt p3 0), (12, pt p38 0), (13, pt p66 0), (16, vw (majf a b c_)), (17, vw ((h + (bsg1 e) + (chf e f g) + (KT.getD i 0) + ((wsN p 64).getD i 0)) % W32)), (92, vi i), (149, vw a), (152, vw a)] hS273 ?_
       refine GP.r [7] [(0, pt q 0), (4, pt p3 0), (12, pt p38 0), (13, pt p66 0), (16, vw (majf a b c_)), (17, vw ((h + (bsg1 e) + (chf e f g) + (KT.getD i 0) + ((wsN p 64).getD i 0)) % W32)), (92, vi i), (149, vw a), (152, vw a), (155, pt p66 0)] [0, 1, 3, 4, 7] hS273 ?_
       refine GP.s 8 (fun w_ H_ => H_.ld (o := 0) (ty := 22) (v := vw a) 3 rfl (by kernel_rfl) rfl) [(0, pt q 0), (4, pt p3 0), (12, pt p38 0), (13, pt p66 0), (16, vw (majf a b c_)), (17, vw ((h + (bsg1 e) + (chf e f g) + (KT.getD i 0) + ((wsN p 64).getD i 0)) % W32)), (92, vi i), (149, vw a), (152, vw a), (156, vw a)] hS273 ?_
       refine GP.r [11] [(0, pt q 0), (4, pt p3 0), (12, pt p38 0), (13, pt p66 0), (17, vw ((h + (bsg1 e) + (chf e f g) + (KT.getD i 0) + ((wsN p 64).getD i 0)) % W32)), (92, vi i), (149, vw a), (152, vw a), (156, vw a), (159, vw (majf a b c_))] [0, 1, 3, 4, 7, 8, 11] hS273 ?_
       refine GP.call 2 (Turn2_calls a ha w272) (by kernel_rfl) (by kernel_rfl) (fun e_ w274 hR => ?_)
       obtain ⟨rfl, H276⟩ := hR
       have H275 : Hp w S [.blk q (c8 s0 s1 s2 s3 s4 s5 s6 s7) 106, .blk p3 (u32s (wsP p 64)) 96, .blk p38 (u32s KT) 96, .blk p66 (c8 a b c_ d e f g h) 106] w274 := H271.callNil H276
       have hS277 : Hp w S [.blk q (c8 s0 s1 s2 s3 s4 s5 s6 s7) 106, .blk p3 (u32s (wsP p 64)) 96, .blk p38 (u32s KT) 96, .blk p66 (c8 a b c_ d e f g h) 106] w274 := H275.sub (List.Sublist.cons_cons _ (List.Sublist.cons_cons _ (List.Sublist.cons_cons _ (List.Sublist.cons_cons _ (List.Sublist.slnil)))))
       refine ⟨_, rfl, hS277, [0, 4, 12, 13, 17, 92, 150, 152, 156, 159], [(0, pt q 0), (4, pt p3 0), (12, pt p38 0), (13, pt p66 0), (17, vw ((h + (bsg1 e) + (chf e f g) + (KT.getD i 0) + ((wsN p 64).getD i 0)) % W32)), (92, vi i), (150, vw (rt a 2)), (152, vw a), (156, vw a), (159, vw (majf a b c_))], by kernel_rfl, ?_⟩
       refine GP.call 5 (Turn13_calls a ha w274) (by kernel_rfl) (by kernel_rfl) (fun e_ w278 hR => ?_)
       obtain ⟨rfl, H280⟩ := hR
       have H279 : Hp w S [.blk q (c8 s0 s1 s2 s3 s4 s5 s6 s7) 106, .blk p3 (u32s (wsP p 64)) 96, .blk p38 (u32s KT) 96, .blk p66 (c8 a b c_ d e f g h) 106] w278 := H275.callNil H280
       have hS281 : Hp w S [.blk q (c8 s0 s1 s2 s3 s4 s5 s6 s7) 106, .blk p3 (u32s (wsP p 64)) 96, .blk p38 (u32s KT) 96, .blk p66 (c8 a b c_ d e f g h) 106] w278 := H279.sub (List.Sublist.cons_cons _ (List.Sublist.cons_cons _ (List.Sublist.cons_cons _ (List.Sublist.cons_cons _ (List.Sublist.slnil)))))
       refine ⟨_, rfl, hS281, [0, 4, 12, 13, 17, 92, 150, 153, 156, 159], [(0, pt q 0), (4, pt p3 0), (12, pt p38 0), (13, pt p66 0), (17, vw ((h + (bsg1 e) + (chf e f g) + (KT.getD i 0) + ((wsN p 64).getD i 0)) % W32)), (92, vi i), (150, vw (rt a 2)), (153, vw (rt a 13)), (156, vw a), (159, vw (majf a b c_))], by kernel_rfl, ?_⟩
       refine GP.r [6] [(0, pt q 0), (4, pt p3 0), (12, pt p38 0), (13, pt p66 0), (17, vw ((h + (bsg1 e) + (chf e f g) + (KT.getD i 0) + ((wsN p 64).getD i 0)) % W32)), (92, vi i), (154, lw (Go.bits .xor .u32 (((rt a 2) : Nat) : Int) (((rt a 13) : Nat) : Int))), (156, vw a), (159, vw (majf a b c_))] [0, 1, 3, 4, 7, 8, 11, 2, 5, 6] hS281 ?_
       have e282 : (Go.bits .xor .u32 (((rt a 2) : Nat) : Int) (((rt a 13) : Nat) : Int)) = ((((rt a 2) ^^^ (rt a 13)) : Nat) : Int) := w_xor (rt_lt ha) (rt_lt ha)
       refine GP.eq (M' := [(0, pt q 0), (4, pt p3 0), (12, pt p38 0), (13, pt p66 0), (17, vw ((h + (bsg1 e) + (chf e f g) + (KT.getD i 0) + ((wsN p 64).getD i 0)) % W32)), (92, vi i), (154, vw ((rt a 2) ^^^ (rt a 13))), (156, vw a), (159, vw (majf a b c_))]) (by rw [e282]) ?_
       clear e282
       refine GP.call 9 (Turn22_calls a ha w278) (by kernel_rfl) (by kernel_rfl) (fun e_ w283 hR => ?_)
       obtain ⟨rfl, H285⟩ := hR
       have H284 : Hp w S [.blk q (c8 s0 s1 s2 s3 s4 s5 s6 s7) 106, .blk p3 (u32s (wsP p 64)) 96, .blk p38 (u32s KT) 96, .blk p66 (c8 a b c_ d e f g h) 106] w283 := H279.callNil H285
       have hS286 : Hp w S [.blk q (c8 s0 s1 s2 s3 s4 s5 s6 s7) 106, .blk p3 (u32s (wsP p 64)) 96, .blk p38 (u32s KT) 96, .blk p66 (c8 a b c_ d e f g h) 106] w283 := H284.sub (List.Sublist.cons_cons _ (List.Sublist.cons_cons _ (List.Sublist.cons_cons _ (List.Sublist.cons_cons _ (List.Sublist.slnil)))))
       refine ⟨_, rfl, hS286, [0, 4, 12, 13, 17, 92, 154, 157, 159], [(0, pt q 0), (4, pt p3 0), (12, pt p38 0), (13, pt p66 0), (17, vw ((h + (bsg1 e) + (chf e f g) + (KT.getD i 0) + ((wsN p 64).getD i 0)) % W32)), (92, vi i), (154, vw ((rt a 2) ^^^ (rt a 13))), (157, vw (rt a 22)), (159, vw (majf a b c_))], by kernel_rfl, ?_⟩
       refine GP.r [10, 12, 13] [(0, pt q 0), (4, pt p3 0), (12, pt p38 0), (13, pt p66 0), (17, vw ((h + (bsg1 e) + (chf e f g) + (KT.getD i 0) + ((wsN p 64).getD i 0)) % W32)), (18, lw (IntKind.u32.wrap ((Go.bits .xor .u32 ((((rt a 2) ^^^ (rt a 13)) : Nat) : Int) (((rt a 22) : Nat) : Int)) + (((majf a b c_) : Nat) : Int)))), (92, vi i)] [0, 1, 3, 4, 7, 8, 11, 2, 5, 6, 9, 10, 12, 13] hS286 ?_
       have e287 : (Go.bits .xor .u32 ((((rt a 2) ^^^ (rt a 13)) : Nat) : Int) (((rt a 22) : Nat) : Int)) = (((bsg0 a) : Nat) : Int) := w_xor (xor_lt32 (rt_lt ha) (rt_lt ha)) (rt_lt ha)
       have e288 : (IntKind.u32.wrap ((((bsg0 a) : Nat) : Int) + (((majf a b c_) : Nat) : Int))) = ((((bsg0 a) + (majf a b c_)) % W32 : Nat) : Int) := w_add _ _
       refine GP.eq (M' := [(0, pt q 0), (4, pt p3 0), (12, pt p38 0), (13, pt p66 0), (17, vw ((h + (bsg1 e) + (chf e f g) + (KT.getD i 0) + ((wsN p 64).getD i 0)) % W32)), (18, vw (((bsg0 a) + (majf a b c_)) % W32)), (92, vi i)]) (by rw [e287, e288]) ?_
       clear e287 e288
       refine GP.k (by kernel_rfl) hK270 (fun _ _ h => h) ?_
       refine G.region ?_
       refine GL.r 4 4 [(0, pt q 0), (4, pt p3 0), (12, pt p38 0), (13, pt p66 0), (17, vw ((h + (bsg1 e) + (chf e f g) + (KT.getD i 0) + ((wsN p 64).getD i 0)) % W32)), (92, vi i), (163, lw (IntKind.u32.wrap ((((h + (bsg1 e) + (chf e f g) + (KT.getD i 0) + ((wsN p 64).getD i 0)) % W32 : Nat) : Int) + ((((bsg0 a) + (majf a b c_)) % W32 : Nat) : Int)))), (164, pt p66 0)] ?_
       have e289 : (IntKind.u32.wrap ((((h + (bsg1 e) + (chf e f g) + (KT.getD i 0) + ((wsN p 64).getD i 0)) % W32 : Nat) : Int) + ((((bsg0 a) + (majf a b c_)) % W32 : Nat) : Int))) = (((((h + (bsg1 e) + (chf e f g) + (KT.getD i 0) + ((wsN p 64).getD i 0)) % W32) + (((bsg0 a) + (majf a b c_)) % W32)) % W32 : Nat) : Int) := w_add _ _
       rw [e289]
       clear e289
       refine GL.s 5 (H284.ld (o := 0) (ty := 22) (v := vw a) 3 rfl (by kernel_rfl) rfl) [(0, pt q 0), (4, pt p3 0), (12, pt p38 0), (13, pt p66 0), (17, vw ((h + (bsg1 e) + (chf e f g) + (KT.getD i 0) + ((wsN p 64).getD i 0)) % W32)), (92, vi i), (163, vw ((((h + (bsg1 e) + (chf e f g) + (KT.getD i 0) + ((wsN p 64).getD i 0)) % W32) + (((bsg0 a) + (majf a b c_)) % W32)) % W32)), (165, vw a)] ?_
       refine GL.r 6 1 [(0, pt q 0), (4, pt p3 0), (12, pt p38 0), (13, pt p66 0), (17, vw ((h + (bsg1 e) + (chf e f g) + (KT.getD i 0) + ((wsN p 64).getD i 0)) % W32)), (92, vi i), (163, vw ((((h + (bsg1 e) + (chf e f g) + (KT.getD i 0) + ((wsN p 64).getD i 0)) % W32) + (((bsg0 a) + (majf a b c_)) % W32)) % W32)), (165, vw a), (166, pt p66 1)] ?_
       refine GL.s 7 (H284.ld (o := 1) (ty := 22) (v := vw b) 3 rfl (by kernel_rfl) rfl) [(0, pt q 0), (4, pt p3 0), (12, pt p38 0), (13, pt p66 0), (17, vw ((h + (bsg1 e) + (chf e f g) + (KT.getD i 0) + ((wsN p 64).getD i 0)) % W32)), (92, vi i), (163, vw ((((h + (bsg1 e) + (chf e f g) + (KT.getD i 0) + ((wsN p 64).getD i 0)) % W32) + (((bsg0 a) + (majf a b c_)) % W32)) % W32)), (165, vw a), (167, vw b)] ?_
       refine GL.r 8 1 [(0, pt q 0), (4, pt p3 0), (12, pt p38 0), (13, pt p66 0), (17, vw ((h + (bsg1 e) + (chf e f g) + (KT.getD i 0) + ((wsN p 64).getD i 0)) % W32)), (92, vi i), (163, vw ((((h + (bsg1 e) + (chf e f g) + (KT.getD i 0) + ((wsN p 64).getD i 0)) % W32) + (((bsg0 a) + (majf a b c_)) % W32)) % W32)), (165, vw a), (167, vw b), (168, pt p66 2)] ?_
       refine GL.s 9 (H284.ld (o := 2) (ty := 22) (v := vw c_) 3 rfl (by kernel_rfl) rfl) [(0, pt q 0), (4, pt p3 0), (12, pt p38 0), (13, pt p66 0), (17, vw ((h + (bsg1 e) + (chf e f g) + (KT.getD i 0) + ((wsN p 64).getD i 0)) % W32)), (92, vi i), (163, vw ((((h + (bsg1 e) + (chf e f g) + (KT.getD i 0) + ((wsN p 64).getD i 0)) % W32) + (((bsg0 a) + (majf a b c_)) % W32)) % W32)), (165, vw a), (167, vw b), (169, vw c_)] ?_
       refine GL.r 10 1 [(0, pt q 0), (4, pt p3 0), (12, pt p38 0), (13, pt p66 0), (17, vw ((h + (bsg1 e) + (chf e f g) + (KT.getD i 0) + ((wsN p 64).getD i 0)) % W32)), (92, vi i), (163, vw ((((h + (bsg1 e) + (chf e f g) + (KT.getD i 0) + ((wsN p 64).getD i 0)) % W32) + (((bsg0 a) + (majf a b c_)) % W32)) % W32)), (165, vw a), (167, vw b), (169, vw c_), (170, pt p66 3)] ?_
       refine GL.s 11 (H284.ld (o := 3) (ty := 22) (v := vw d) 3 rfl (by kernel_rfl) rfl) [(0, pt q 0), (4, pt p3 0), (12, pt p38 0), (13, pt p66 0), (17, vw ((h + (bsg1 e) + (chf e f g) + (KT.getD i 0) + ((wsN p 64).getD i 0)) % W32)), (92, vi i), (163, vw ((((h + (bsg1 e) + (chf e f g) + (KT.getD i 0) + ((wsN p 64).getD i 0)) % W32) + (((bsg0 a) + (majf a b c_)) % W32)) % W32)), (165, vw a), (167, vw b), (169, vw c_), (171, vw d)] ?_
       refine GL.r 14 3 [(0, pt q 0), (4, pt p3 0), (12, pt p38 0), (13, pt p66 0), (92, vi i), (163, vw ((((h + (bsg1 e) + (chf e f g) + (KT.getD i 0) + ((wsN p 64).getD i 0)) % W32) + (((bsg0 a) + (majf a b c_)) % W32)) % W32)), (165, vw a), (167, vw b), (169, vw c_), (173, lw (IntKind.u32.wrap ((d : Int) + (((h + (bsg1 e) + (chf e f g) + (KT.getD i 0) + ((wsN p 64).getD i 0)) % W32 : Nat) : Int)))), (174, pt p66 4)] ?_
       have e290 : (IntKind.u32.wrap ((d : Int) + (((h + (bsg1 e) + (chf e f g) + (KT.getD i 0) + ((wsN p 64).getD i 0)) % W32 : Nat) : Int))) = (((d + ((h + (bsg1 e) + (chf e f g) + (KT.getD i 0) + ((wsN p 64).getD i 0)) % W32)) % W32 : Nat) : Int) := w_add _ _
       rw [e290]
       clear e290
       refine GL.s 15 (H284.ld (o := 4) (ty := 22) (v := vw e) 3 rfl (by kernel_rfl) rfl) [(0, pt q 0), (4, pt p3 0), (12, pt p38 0), (13, pt p66 0), (92, vi i), (163, vw ((((h + (bsg1 e) + (chf e f g) + (KT.getD i 0) + ((wsN p 64).getD i 0)) % W32) + (((bsg0 a) + (majf a b c_)) % W32)) % W32)), (165, vw a), (167, vw b), (169, vw c_), (173, vw ((d + ((h + (bsg1 e) + (chf e f g) + (KT.getD i 0) + ((wsN p 64).getD i 0)) % W32)) % W32)), (175, vw e)] ?_
       refine GL.r 16 1 [(0, pt q 0), (4, pt p3 0), (12, pt p38 0), (13, pt p66 0), (92, vi i), (163, vw ((((h + (bsg1 e) + (chf e f g) + (KT.getD i 0) + ((wsN p 64).getD i 0)) % W32) + (((bsg0 a) + (majf a b c_)) % W32)) % W32)), (165, vw a), (167, vw b), (169, vw c_), (173, vw ((d + ((h + (bsg1 e) + (chf e f g) + (KT.getD i 0) + ((wsN p 64).getD i 0)) % W32)) % W32)), (175, vw e), (176, pt p66 5)] ?_
       refine GL.s 17 (H284.ld (o := 5) (ty := 22) (v := vw f) 3 rfl (by kernel_rfl) rfl) [(0, pt q 0), (4, pt p3 0), (12, pt p38 0), (13, pt p66 0), (92, vi i), (163, vw ((((h + (bsg1 e) + (chf e f g) + (KT.getD i 0) + ((wsN p 64).getD i 0)) % W32) + (((bsg0 a) + (majf a b c_)) % W32)) % W32)), (165, vw a), (167, vw b), (169, vw c_), (173, vw ((d + ((h + (bsg1 e) + (chf e f g) + (KT.getD i 0) + ((wsN p 64).getD i 0)) % W32)) % W32)), (175, vw e), (177, vw f)] ?_
       refine GL.r 18 1 [(0, pt q 0), (4, pt p3 0), (12, pt p38 0), (13, pt p66 0), (92, vi i), (163, vw ((((h + (bsg1 e) + (chf e f g) + (KT.getD i 0) + ((wsN p 64).getD i 0)) % W32) + (((bsg0 a) + (majf a b c_)) % W32)) % W32)), (165, vw a), (167, vw b), (169, vw c_), (173, vw ((d + ((h + (bsg1 e) + (chf e f g) + (KT.getD i 0) + ((wsN p 64).getD i 0)) % W32)) % W32)), (175, vw e), (177, vw f), (178, pt p66 6)] ?_
       refine GL.s 19 (H284.ld (o := 6) (ty := 22) (v := vw g) 3 rfl (by kernel_rfl) rfl) [(0, pt q 0), (4, pt p3 0), (12, pt p38 0), (13, pt p66 0), (92, vi i), (163, vw ((((h + (bsg1 e) + (chf e f g) + (KT.getD i 0) + ((wsN p 64).getD i 0)) % W32) + (((bsg0 a) + (majf a b c_)) % W32)) % W32)), (165, vw a), (167, vw b), (169, vw c_), (173, vw ((d + ((h + (bsg1 e) + (chf e f g) + (KT.getD i 0) + ((wsN p 64).getD i 0)) % W32)) % W32)), (175, vw e), (177, vw f), (179, vw g)] ?_
       refine GL.r 20 1 [(0, pt q 0), (4, pt p3 0), (12, pt p38 0), (13, pt p66 0), (92, vi i), (180, .agg #[vw ((((h + (bsg1 e) + (chf e f g) + (KT.getD i 0) + ((wsN p 64).getD i 0)) % W32) + (((bsg0 a) + (majf a b c_)) % W32)) % W32), vw a, vw b, vw c_, vw ((d + ((h + (bsg1 e) + (chf e f g) + (KT.getD i 0) + ((wsN p 64).getD i 0)) % W32)) % W32), vw e, vw f, vw g])] ?_
       obtain ⟨w291, r292, H293⟩ := H284.stA (P := Try.prog) (o := 0) (vs := (c8 ((((h + (bsg1 e) + (chf e f g) + (KT.getD i 0) + ((wsN p 64).getD i 0)) % W32) + (((bsg0 a) + (majf a b c_)) % W32)) % W32) a b c_ ((d + ((h + (bsg1 e) + (chf e f g) + (KT.getD i 0) + ((wsN p 64).getD i 0)) % W32)) % W32) e f g)) (ty := 106) (m := 8) 3 rfl (by kernel_rfl) rfl (by exact Nat.le_refl _) (c8_one)
       refine GL.u 21 r292 [(0, pt q 0), (4, pt p3 0), (12, pt p38 0), (13, pt p66 0), (92, vi i)] ?_
       refine GL.q hK230 ?_
       refine G.region ?_
       refine GL.r 2 2 [(0, pt q 0), (4, pt p3 0), (12, pt p38 0), (13, pt p66 0), (92, li (IntKind.i64.wrap ((i : Int) + 1)))] ?_
       have e294 : (IntKind.i64.wrap ((i : Int) + 1)) = ((i + 1 : Nat) : Int) := by rw [in_i64 (by omega)]; omega
       rw [e294]
       clear e294
       refine GL.fit (ts := [0, 4, 12, 13, 92]) (M' := [(0, pt q 0), (4, pt p3 0), (12, pt p38 0), (13, pt p66 0), (92, vi (i + 1))]) (by kernel_rfl) ?_
       refine GL.eq (M' := [(0, pt q 0), (4, pt p3 0), (12, pt p38 0), (13, pt p66 0), (92, vi (i + 1))]) (by rfl) ?_
       exact GL.again ⟨(i + 1), (((h + (bsg1 e) + (chf e f g) + (KT.getD i 0) + ((wsN p 64).getD i 0)) % W32) + (((bsg0 a) + (majf a b c_)) % W32)) % W32, a, b, c_, (d + ((h + (bsg1 e) + (chf e f g) + (KT.getD i 0) + ((wsN p 64).getD i 0)) % W32)) % W32, e, f, g⟩ [0, 4, 12, 13, 92] rfl (by kernel_rfl) (by show 64 - (i + 1) < 64 - i; omega) ⟨⟨by omega, by rw [shaR, ← hv8]; rfl⟩, H293⟩
   have st84 : ∀ (wD_ : World) (p38 : Nat), Hp w S [.blk q (c8 s0 s1 s2 s3 s4 s5 s6 s7) 106, .blk p3 (u32s (wsP p i)) 96, .blk p38 (u32s (wsP p 0)) 96] wD_ → Xd_ [1, 2, 3, 0, 4] [(0, pt q 0), (4, pt p3 0), (12, pt p38 0), (88, .agg (u32s KT).toArray), (91, .agg #[.int .u32 (s0 : Int), .int .u32 (s1 : Int), .int .u32 (s2 : Int), .int .u32 (s3 : Int), .int .u32 (s4 : Int), .int .u32 (s5 : Int), .int .u32 (s6 : Int), .int .u32 (s7 : Int)])] wD_ := by
     intro wD_ p38 HD_
     rw [hXd_]
     have hS295 : Hp w S [.blk q (c8 s0 s1 s2 s3 s4 s5 s6 s7) 106, .blk p3 (u32s (wsP p i)) 96] wD_ := HD_.sub (List.Sublist.cons_cons _ (List.Sublist.cons_cons _ (List.Sublist.cons _ (List.Sublist.slnil))))
     refine GP.all1 5 (by kernel_rfl) ?_
     · skip
       have hS296 : Hp w S [.blk q (c8 s0 s1 s2 s3 s4 s5 s6 s7) 106, .blk p3 (u32s (wsP p i)) 96] wD_ := HD_.sub (List.Sublist.cons_cons _ (List.Sublist.cons_cons _ (List.Sublist.cons _ (List.Sublist.slnil))))
       obtain ⟨p297, w298, r299, H300⟩ := HD_.alloc (P := Try.prog) 106 lz2 (by kernel_rfl)
       have hS301 : Hp w S [.blk q (c8 s0 s1 s2 s3 s4 s5 s6 s7) 106, .blk p3 (u32s (wsP p i)) 96] w298 := H300.sub (List.Sublist.cons_cons _ (List.Sublist.cons_cons _ (List.Sublist.cons _ (List.Sublist.cons _ (List.Sublist.slnil)))))
       refine GO.made r299 [0, 4, 12, 13, 88, 91] [(0, pt q 0), (4, pt p3 0), (12, pt p38 0), (13, pt p297 0), (88, .agg (u32s KT).toArray), (91, .agg #[vw s0, vw s1, vw s2, vw s3, vw s4, vw s5, vw s6, vw s7])] (by kernel_rfl) (by kernel_rfl) hS301 ?_
       refine GP.perm [1, 2, 3, 0, 4, 5] (by kernel_rfl) rfl ?_
       rw [← hXd_]
       exact st87 _ p38 p297 H300
   have st85 : ∀ (wD_ : World) (p43 : Nat), Hp w S [.blk q (c8 s0 s1 s2 s3 s4 s5 s6 s7) 106, .blk p3 (u32s (wsP p i)) 96, .blk p43 [.int .u32 0, .int .u32 0, .int .u32 0, .int .u32 0, .int .u32 0, .int .u32 0, .int .u32 0, .int .u32 0] 106] wD_ → Xd_ [1, 2, 3, 0, 5] [(0, pt q 0), (4, pt p3 0), (13, pt p43 0), (88, .agg (u32s KT).toArray), (91, .agg #[.int .u32 (s0 : Int), .int .u32 (s1 : Int), .int .u32 (s2 : Int), .int .u32 (s3 : Int), .int .u32 (s4 : Int), .int .u32 (s5 : Int), .int .u32 (s6 : Int), .int .u32 (s7 : Int)])] wD_ := by
     intro wD_ p43 HD_
     rw [hXd_]
     have hS302 : Hp w S [.blk q (c8 s0 s1 s2 s3 s4 s5 s6 s7) 106, .blk p3 (u32s (wsP p i)) 96] wD_ := HD_.sub (List.Sublist.cons_cons _ (List.Sublist.cons_cons _ (List.Sublist.cons _ (List.Sublist.slnil))))
     refine GP.all1 4 (by kernel_rfl) ?_
     · skip
       have hS303 : Hp w S [.blk q (c8 s0 s1 s2 s3 s4 s5 s6 s7) 106, .blk p3 (u32s (wsP p i)) 96] wD_ := HD_.sub (List.Sublist.cons_cons _ (List.Sublist.cons_cons _ (List.Sublist.cons _ (List.Sublist.slnil))))
       obtain ⟨p304, w305, r306, H307⟩ := HD_.alloc (P := Try.prog) 96 (u32s (wsP p 0)) (by kernel_rfl)
       have hS308 : Hp w S [.blk q (c8 s0 s1 s2 s3 s4 s5 s6 s7) 106, .blk p3 (u32s (wsP p i)) 96] w305 := H307.sub (List.Sublist.cons_cons _ (List.Sublist.cons_cons _ (List.Sublist.cons _ (List.Sublist.cons _ (List.Sublist.slnil)))))
       refine GO.made r306 [0, 4, 12, 13, 88, 91] [(0, pt q 0), (4, pt p3 0), (12, pt p304 0), (13, pt p43 0), (88, .agg (u32s KT).toArray), (91, .agg #[vw s0, vw s1, vw s2, vw s3, vw s4, vw s5, vw s6, vw s7])] (by kernel_rfl) (by kernel_rfl) hS308 ?_
       have H309 := (Hp.reorder (L' := [.blk q (c8 s0 s1 s2 s3 s4 s5 s6 s7) 106, .blk p3 (u32s (wsP p i)) 96, .blk p304 (u32s (wsP p 0)) 96, .blk p43 lz2 106]) H307 (List.Perm.cons _ (List.Perm.cons _ (List.Perm.trans (List.Perm.swap _ _ _) (List.Perm.refl _)))))
       refine GP.perm [1, 2, 3, 0, 4, 5] (by kernel_rfl) rfl ?_
       rw [← hXd_]
       exact st87 _ p304 p43 H309
   have st86 : ∀ (wD_ : World) (p28 : Nat) (p52 : Nat), Hp w S [.blk q (c8 s0 s1 s2 s3 s4 s5 s6 s7) 106, .blk p3 (u32s (wsP p i)) 96, .blk p28 (u32s (wsP p 0)) 96, .blk p52 [.int .u32 0, .int .u32 0, .int .u32 0, .int .u32 0, .int .u32 0, .int .u32 0, .int .u32 0, .int .u32 0] 106] wD_ → Xd_ [1, 2, 3, 4, 5] [(0, pt q 0), (4, pt p3 0), (12, pt p28 0), (13, pt p52 0), (91, .agg #[.int .u32 (s0 : Int), .int .u32 (s1 : Int), .int .u32 (s2 : Int), .int .u32 (s3 : Int), .int .u32 (s4 : Int), .int .u32 (s5 : Int), .int .u32 (s6 : Int), .int .u32 (s7 : Int)])] wD_ := by
     intro wD_ p28 p52 HD_
     rw [hXd_]
     have hS310 : Hp w S [.blk q (c8 s0 s1 s2 s3 s4 s5 s6 s7) 106, .blk p3 (u32s (wsP p i)) 96] wD_ := HD_.sub (List.Sublist.cons_cons _ (List.Sublist.cons_cons _ (List.Sublist.cons _ (List.Sublist.cons _ (List.Sublist.slnil)))))
     refine GP.all1 0 (by kernel_rfl) ?_
     · skip
       have hS311 : Hp w S [.blk q (c8 s0 s1 s2 s3 s4 s5 s6 s7) 106, .blk p3 (u32s (wsP p i)) 96] wD_ := HD_.sub (List.Sublist.cons_cons _ (List.Sublist.cons_cons _ (List.Sublist.cons _ (List.Sublist.cons _ (List.Sublist.slnil)))))
       refine GO.call (Constants_calls wD_) (by kernel_rfl) (fun e_ w312 hR => ?_)
       obtain ⟨rfl, H314⟩ := hR
       have H313 : Hp w S [.blk q (c8 s0 s1 s2 s3 s4 s5 s6 s7) 106, .blk p3 (u32s (wsP p i)) 96, .blk p28 (u32s (wsP p 0)) 96, .blk p52 lz2 106] w312 := HD_.callNil H314
       have hS315 : Hp w S [.blk q (c8 s0 s1 s2 s3 s4 s5 s6 s7) 106, .blk p3 (u32s (wsP p i)) 96] w312 := H313.sub (List.Sublist.cons_cons _ (List.Sublist.cons_cons _ (List.Sublist.cons _ (List.Sublist.cons _ (List.Sublist.slnil)))))
       refine ⟨_, rfl, hS315, [0, 4, 12, 13, 88, 91], [(0, pt q 0), (4, pt p3 0), (12, pt p28 0), (13, pt p52 0), (88, .agg (u32s KT).toArray), (91, .agg #[vw s0, vw s1, vw s2, vw s3, vw s4, vw s5, vw s6, vw s7])], by kernel_rfl, ?_⟩
       refine GP.perm [1, 2, 3, 0, 4, 5] (by kernel_rfl) rfl ?_
       rw [← hXd_]
       exact st87 _ p28 p52 H313
   have st81 : ∀ (wD_ : World), Hp w S [.blk q (c8 s0 s1 s2 s3 s4 s5 s6 s7) 106, .blk p3 (u32s (wsP p i)) 96] wD_ → Xd_ [1, 2, 3, 0] [(0, pt q 0), (4, pt p3 0), (88, .agg (u32s KT).toArray), (91, .agg #[.int .u32 (s0 : Int), .int .u32 (s1 : Int), .int .u32 (s2 : Int), .int .u32 (s3 : Int), .int .u32 (s4 : Int), .int .u32 (s5 : Int), .int .u32 (s6 : Int), .int .u32 (s7 : Int)])] wD_ := by
     intro wD_ HD_
     rw [hXd_]
     have hS316 : Hp w S [.blk q (c8 s0 s1 s2 s3 s4 s5 s6 s7) 106, .blk p3 (u32s (wsP p i)) 96] wD_ := HD_.sub (List.Sublist.cons_cons _ (List.Sublist.cons_cons _ (List.Sublist.slnil)))
     refine GP.all2 4 5 (by kernel_rfl) ?_ ?_
     · skip
       have hS317 : Hp w S [.blk q (c8 s0 s1 s2 s3 s4 s5 s6 s7) 106, .blk p3 (u32s (wsP p i)) 96] wD_ := HD_.sub (List.Sublist.cons_cons _ (List.Sublist.cons_cons _ (List.Sublist.slnil)))
       obtain ⟨p318, w319, r320, H321⟩ := HD_.alloc (P := Try.prog) 96 (u32s (wsP p 0)) (by kernel_rfl)
       have hS322 : Hp w S [.blk q (c8 s0 s1 s2 s3 s4 s5 s6 s7) 106, .blk p3 (u32s (wsP p i)) 96] w319 := H321.sub (List.Sublist.cons_cons _ (List.Sublist.cons_cons _ (List.Sublist.cons _ (List.Sublist.slnil))))
       refine GO.made r320 [0, 4, 12, 88, 91] [(0, pt q 0), (4, pt p3 0), (12, pt p318 0), (88, .agg (u32s KT).toArray), (91, .agg #[vw s0, vw s1, vw s2, vw s3, vw s4, vw s5, vw s6, vw s7])] (by kernel_rfl) (by kernel_rfl) hS322 ?_
       refine GP.perm [1, 2, 3, 0, 4] (by kernel_rfl) rfl ?_
       rw [← hXd_]
       exact st84 _ p318 H321
     · skip
       have hS323 : Hp w S [.blk q (c8 s0 s1 s2 s3 s4 s5 s6 s7) 106, .blk p3 (u32s (wsP p i)) 96] wD_ := HD_.sub (List.Sublist.cons_cons _ (List.Sublist.cons_cons _ (List.Sublist.slnil)))
       obtain ⟨p324, w325, r326, H327⟩ := HD_.alloc (P := Try.prog) 106 lz2 (by kernel_rfl)
       have hS328 : Hp w S [.blk q (c8 s0 s1 s2 s3 s4 s5 s6 s7) 106, .blk p3 (u32s (wsP p i)) 96] w325 := H327.sub (List.Sublist.cons_cons _ (List.Sublist.cons_cons _ (List.Sublist.cons _ (List.Sublist.slnil))))
       refine GO.made r326 [0, 4, 13, 88, 91] [(0, pt q 0), (4, pt p3 0), (13, pt p324 0), (88, .agg (u32s KT).toArray), (91, .agg #[vw s0, vw s1, vw s2, vw s3, vw s4, vw s5, vw s6, vw s7])] (by kernel_rfl) (by kernel_rfl) hS328 ?_
       refine GP.perm [1, 2, 3, 0, 5] (by kernel_rfl) rfl ?_
       rw [← hXd_]
       exact st85 _ p324 H327
   have st82 : ∀ (wD_ : World) (p28 : Nat), Hp w S [.blk q (c8 s0 s1 s2 s3 s4 s5 s6 s7) 106, .blk p3 (u32s (wsP p i)) 96, .blk p28 (u32s (wsP p 0)) 96] wD_ → Xd_ [1, 2, 3, 4] [(0, pt q 0), (4, pt p3 0), (12, pt p28 0), (91, .agg #[.int .u32 (s0 : Int), .int .u32 (s1 : Int), .int .u32 (s2 : Int), .int .u32 (s3 : Int), .int .u32 (s4 : Int), .int .u32 (s5 : Int), .int .u32 (s6 : Int), .int .u32 (s7 : Int)])] wD_ := by
     intro wD_ p28 HD_
     rw [hXd_]
     have hS329 : Hp w S [.blk q (c8 s0 s1 s2 s3 s4 s5 s6 s7) 106, .blk p3 (u32s (wsP p i)) 96] wD_ := HD_.sub (List.Sublist.cons_cons _ (List.Sublist.cons_cons _ (List.Sublist.cons _ (List.Sublist.slnil))))
     refine GP.all2 0 5 (by kernel_rfl) ?_ ?_
     · skip
       have hS330 : Hp w S [.blk q (c8 s0 s1 s2 s3 s4 s5 s6 s7) 106, .blk p3 (u32s (wsP p i)) 96] wD_ := HD_.sub (List.Sublist.cons_cons _ (List.Sublist.cons_cons _ (List.Sublist.cons _ (List.Sublist.slnil))))
       refine GO.call (Constants_calls wD_) (by kernel_rfl) (fun e_ w331 hR => ?_)
       obtain ⟨rfl, H333⟩ := hR
       have H332 : Hp w S [.blk q (c8 s0 s1 s2 s3 s4 s5 s6 s7) 106, .blk p3 (u32s (wsP p i)) 96, .blk p28 (u32s (wsP p 0)) 96] w331 := HD_.callNil H333
       have hS334 : Hp w S [.blk q (c8 s0 s1 s2 s3 s4 s5 s6 s7) 106, .blk p3 (u32s (wsP p i)) 96] w331 := H332.sub (List.Sublist.cons_cons _ (List.Sublist.cons_cons _ (List.Sublist.cons _ (List.Sublist.slnil))))
       refine ⟨_, rfl, hS334, [0, 4, 12, 88, 91], [(0, pt q 0), (4, pt p3 0), (12, pt p28 0), (88, .agg (u32s KT).toArray), (91, .agg #[vw s0, vw s1, vw s2, vw s3, vw s4, vw s5, vw s6, vw s7])], by kernel_rfl, ?_⟩
       refine GP.perm [1, 2, 3, 0, 4] (by kernel_rfl) rfl ?_
       rw [← hXd_]
       exact st84 _ p28 H332
     · skip
       have hS335 : Hp w S [.blk q (c8 s0 s1 s2 s3 s4 s5 s6 s7) 106, .blk p3 (u32s (wsP p i)) 96] wD_ := HD_.sub (List.Sublist.cons_cons _ (List.Sublist.cons_cons _ (List.Sublist.cons _ (List.Sublist.slnil))))
       obtain ⟨p336, w337, r338, H339⟩ := HD_.alloc (P := Try.prog) 106 lz2 (by kernel_rfl)
       have hS340 : Hp w S [.blk q (c8 s0 s1 s2 s3 s4 s5 s6 s7) 106, .blk p3 (u32s (wsP p i)) 96] w337 := H339.sub (List.Sublist.cons_cons _ (List.Sublist.cons_cons _ (List.Sublist.cons _ (List.Sublist.cons _ (List.Sublist.slnil)))))
       refine GO.made r338 [0, 4, 12, 13, 91] [(0, pt q 0), (4, pt p3 0), (12, pt p28 0), (13, pt p336 0), (91, .agg #[vw s0, vw s1, vw s2, vw s3, vw s4, vw s5, vw s6, vw s7])] (by kernel_rfl) (by kernel_rfl) hS340 ?_
       refine GP.perm [1, 2, 3, 4, 5] (by kernel_rfl) rfl ?_
       rw [← hXd_]
       exact st86 _ p28 p336 H339
   have st83 : ∀ (wD_ : World) (p33 : Nat), Hp w S [.blk q (c8 s0 s1 s2 s3 s4 s5 s6 s7) 106, .blk p3 (u32s (wsP p i)) 96, .blk p33 [.int .u32 0, .int .u32 0, .int .u32 0, .int .u32 0, .int .u32 0, .int .u32 0, .int .u32 0, .int .u32 0] 106] wD_ → Xd_ [1, 2, 3, 5] [(0, pt q 0), (4, pt p3 0), (13, pt p33 0), (91, .agg #[.int .u32 (s0 : Int), .int .u32 (s1 : Int), .int .u32 (s2 : Int), .int .u32 (s3 : Int), .int .u32 (s4 : Int), .int .u32 (s5 : Int), .int .u32 (s6 : Int), .int .u32 (s7 : Int)])] wD_ := by
     intro wD_ p33 HD_
     rw [hXd_]
     have hS341 : Hp w S [.blk q (c8 s0 s1 s2 s3 s4 s5 s6 s7) 106, .blk p3 (u32s (wsP p i)) 96] wD_ := HD_.sub (List.Sublist.cons_cons _ (List.Sublist.cons_cons _ (List.Sublist.cons _ (List.Sublist.slnil))))
     refine GP.all2 0 4 (by kernel_rfl) ?_ ?_
     · skip
       have hS342 : Hp w S [.blk q (c8 s0 s1 s2 s3 s4 s5 s6 s7) 106, .blk p3 (u32s (wsP p i)) 96] wD_ := HD_.sub (List.Sublist.cons_cons _ (List.Sublist.cons_cons _ (List.Sublist.cons _ (List.Sublist.slnil))))
       refine GO.call (Constants_calls wD_) (by kernel_rfl) (fun e_ w343 hR => ?_)
       obtain ⟨rfl, H345⟩ := hR
       have H344 : Hp w S [.blk q (c8 s0 s1 s2 s3 s4 s5 s6 s7) 106, .blk p3 (u32s (wsP p i)) 96, .blk p33 lz2 106] w343 := HD_.callNil H345
       have hS346 : Hp w S [.blk q (c8 s0 s1 s2 s3 s4 s5 s6 s7) 106, .blk p3 (u32s (wsP p i)) 96] w343 := H344.sub (List.Sublist.cons_cons _ (List.Sublist.cons_cons _ (List.Sublist.cons _ (List.Sublist.slnil))))
       refine ⟨_, rfl, hS346, [0, 4, 13, 88, 91], [(0, pt q 0), (4, pt p3 0), (13, pt p33 0), (88, .agg (u32s KT).toArray), (91, .agg #[vw s0, vw s1, vw s2, vw s3, vw s4, vw s5, vw s6, vw s7])], by kernel_rfl, ?_⟩
       refine GP.perm [1, 2, 3, 0, 5] (by kernel_rfl) rfl ?_
       rw [← hXd_]
       exact st85 _ p33 H344
     · skip
       have hS347 : Hp w S [.blk q (c8 s0 s1 s2 s3 s4 s5 s6 s7) 106, .blk p3 (u32s (wsP p i)) 96] wD_ := HD_.sub (List.Sublist.cons_cons _ (List.Sublist.cons_cons _ (List.Sublist.cons _ (List.Sublist.slnil))))
       obtain ⟨p348, w349, r350, H351⟩ := HD_.alloc (P := Try.prog) 96 (u32s (wsP p 0)) (by kernel_rfl)
       have hS352 : Hp w S [.blk q (c8 s0 s1 s2 s3 s4 s5 s6 s7) 106, .blk p3 (u32s (wsP p i)) 96] w349 := H351.sub (List.Sublist.cons_cons _ (List.Sublist.cons_cons _ (List.Sublist.cons _ (List.Sublist.cons _ (List.Sublist.slnil)))))
       refine GO.made r350 [0, 4, 12, 13, 91] [(0, pt q 0), (4, pt p3 0), (12, pt p348 0), (13, pt p33 0), (91, .agg #[vw s0, vw s1, vw s2, vw s3, vw s4, vw s5, vw s6, vw s7])] (by kernel_rfl) (by kernel_rfl) hS352 ?_
       have H353 := (Hp.reorder (L' := [.blk q (c8 s0 s1 s2 s3 s4 s5 s6 s7) 106, .blk p3 (u32s (wsP p i)) 96, .blk p348 (u32s (wsP p 0)) 96, .blk p33 lz2 106]) H351 (List.Perm.cons _ (List.Perm.cons _ (List.Perm.trans (List.Perm.swap _ _ _) (List.Perm.refl _)))))
       refine GP.perm [1, 2, 3, 4, 5] (by kernel_rfl) rfl ?_
       rw [← hXd_]
       exact st86 _ p348 p33 H353
   have st80 : ∀ (wD_ : World), Hp w S [.blk q (c8 s0 s1 s2 s3 s4 s5 s6 s7) 106, .blk p3 (u32s (wsP p i)) 96] wD_ → Xd_ [1, 2, 3] [(0, pt q 0), (4, pt p3 0), (91, .agg #[.int .u32 (s0 : Int), .int .u32 (s1 : Int), .int .u32 (s2 : Int), .int .u32 (s3 : Int), .int .u32 (s4 : Int), .int .u32 (s5 : Int), .int .u32 (s6 : Int), .int .u32 (s7 : Int)])] wD_ := by
     intro wD_ HD_
     rw [hXd_]
     have hS354 : Hp w S [.blk q (c8 s0 s1 s2 s3 s4 s5 s6 s7) 106, .blk p3 (u32s (wsP p i)) 96] wD_ := HD_.sub (List.Sublist.cons_cons _ (List.Sublist.cons_cons _ (List.Sublist.slnil)))
     refine GP.all3 0 4 5 (by kernel_rfl) ?_ ?_ ?_
     · skip
       have hS355 : Hp w S [.blk q (c8 s0 s1 s2 s3 s4 s5 s6 s7) 106, .blk p3 (u32s (wsP p i)) 96] wD_ := HD_.sub (List.Sublist.cons_cons _ (List.Sublist.cons_cons _ (List.Sublist.slnil)))
       refine GO.call (Constants_calls wD_) (by kernel_rfl) (fun e_ w356 hR => ?_)
       obtain ⟨rfl, H358⟩ := hR
       have H357 : Hp w S [.blk q (c8 s0 s1 s2 s3 s4 s5 s6 s7) 106, .blk p3 (u32s (wsP p i)) 96] w356 := HD_.callNil H358
       have hS359 : Hp w S [.blk q (c8 s0 s1 s2 s3 s4 s5 s6 s7) 106, .blk p3 (u32s (wsP p i)) 96] w356 := H357.sub (List.Sublist.cons_cons _ (List.Sublist.cons_cons _ (List.Sublist.slnil)))
       refine ⟨_, rfl, hS359, [0, 4, 88, 91], [(0, pt q 0), (4, pt p3 0), (88, .agg (u32s KT).toArray), (91, .agg #[vw s0, vw s1, vw s2, vw s3, vw s4, vw s5, vw s6, vw s7])], by kernel_rfl, ?_⟩
       refine GP.perm [1, 2, 3, 0] (by kernel_rfl) rfl ?_
       rw [← hXd_]
       exact st81 _ H357
     · skip
       have hS360 : Hp w S [.blk q (c8 s0 s1 s2 s3 s4 s5 s6 s7) 106, .blk p3 (u32s (wsP p i)) 96] wD_ := HD_.sub (List.Sublist.cons_cons _ (List.Sublist.cons_cons _ (List.Sublist.slnil)))
       obtain ⟨p361, w362, r363, H364⟩ := HD_.alloc (P := Try.prog) 96 (u32s (wsP p 0)) (by kernel_rfl)
       have hS365 : Hp w S [.blk q (c8 s0 s1 s2 s3 s4 s5 s6 s7) 106, .blk p3 (u32s (wsP p i)) 96] w362 := H364.sub (List.Sublist.cons_cons _ (List.Sublist.cons_cons _ (List.Sublist.cons _ (List.Sublist.slnil))))
       refine GO.made r363 [0, 4, 12, 91] [(0, pt q 0), (4, pt p3 0), (12, pt p361 0), (91, .agg #[vw s0, vw s1, vw s2, vw s3, vw s4, vw s5, vw s6, vw s7])] (by kernel_rfl) (by kernel_rfl) hS365 ?_
       refine GP.perm [1, 2, 3, 4] (by kernel_rfl) rfl ?_
       rw [← hXd_]
       exact st82 _ p361 H364
     · skip
       have hS366 : Hp w S [.blk q (c8 s0 s1 s2 s3 s4 s5 s6 s7) 106, .blk p3 (u32s (wsP p i)) 96] wD_ := HD_.sub (List.Sublist.cons_cons _ (List.Sublist.cons_cons _ (List.Sublist.slnil)))
       obtain ⟨p367, w368, r369, H370⟩ := HD_.alloc (P := Try.prog) 106 lz2 (by kernel_rfl)
       have hS371 : Hp w S [.blk q (c8 s0 s1 s2 s3 s4 s5 s6 s7) 106, .blk p3 (u32s (wsP p i)) 96] w368 := H370.sub (List.Sublist.cons_cons _ (List.Sublist.cons_cons _ (List.Sublist.cons _ (List.Sublist.slnil))))
       refine GO.made r369 [0, 4, 13, 91] [(0, pt q 0), (4, pt p3 0), (13, pt p367 0), (91, .agg #[vw s0, vw s1, vw s2, vw s3, vw s4, vw s5, vw s6, vw s7])] (by kernel_rfl) (by kernel_rfl) hS371 ?_
       refine GP.perm [1, 2, 3, 5] (by kernel_rfl) rfl ?_
       rw [← hXd_]
       exact st83 _ p367 H370
   exact st80 _ H21
 · skip
   have hb18f := of_decide_eq_true hb18
   refine G.yes rfl ?_
   refine G.skipK hK17 (fun _ _ h => h) ?_
   refine G.seqK fun K372 hK373 => ?_
   refine G.block ?_
   refine G.sr fun K374 hK375 => ?_
   refine GL.r 2 2 [(0, pt q 0), (1, .slice A 64 C), (4, pt p3 0), (5, vi i), (21, vi i)] ?_
   refine GL.q hK375 ?_
   refine G.seqK fun K376 hK377 => ?_
   refine G.sr fun K378 hK379 => ?_
   refine GL.r 2 2 [(0, pt q 0), (1, .slice A 64 C), (4, pt p3 0), (5, vi i), (21, vi i), (25, .bool (decide ((i : Int) < 16)))] ?_
   refine GL.q hK379 ?_
   cases hb380 : (decide ((i : Int) < 16))
   · skip
     have hb380f := of_decide_eq_false hb380
     refine G.no rfl ?_
     refine G.skipK hK377 (fun _ _ h => h) ?_
     refine G.seqK fun K381 hK382 => ?_
     refine G.draw H13 (by kernel_rfl) (by kernel_rfl) ?_
     refine GQ.r 2 2 [(0, pt q 0), (1, .slice A 64 C), (4, pt p3 0), (5, vi i), (21, vi i), (49, li (IntKind.i64.wrap ((i : Int) - 15)))] ?_
     have e383 : (IntKind.i64.wrap ((i : Int) - 15)) = (((i - 15) : Nat) : Int) := by rw [in_i64 (by omega)]; omega
     refine GQ.eq (M' := [(0, pt q 0), (1, .slice A 64 C), (4, pt p3 0), (5, vi i), (21, vi i), (49, vi (i - 15))]) (by rw [e383]) ?_
     clear e383
     refine GQ.s 3 (fun w_ H_ => run_idxArr (P := Try.prog) (k := .i64) (t := 96) (len := 64) (sz := 1) (b := p3) (o := 0) (j := (i - 15)) (by kernel_rfl) rfl (by omega)) [(0, pt q 0), (1, .slice A 64 C), (4, pt p3 0), (5, vi i), (21, vi i), (50, pt p3 (0 + (i - 15) * 1))] ?_
     refine GQ.s 4 (fun w_ H_ => H_.ld (o := (0 + (i - 15) * 1)) (ty := 22) (v := vw ((wsN p i).getD (i - 15) 0)) 1 rfl (by kernel_rfl) (by rw [show (0 + (i - 15) * 1) = (i - 15) by omega]; exact u32s_at (wsP_at (by omega) (by omega)))) [(0, pt q 0), (1, .slice A 64 C), (4, pt p3 0), (5, vi i), (21, vi i), (51, vw ((wsN p i).getD (i - 15) 0))] ?_
     refine GQ.r 6 2 [(0, pt q 0), (1, .slice A 64 C), (4, pt p3 0), (5, vi i), (21, vi i), (51, vw ((wsN p i).getD (i - 15) 0)), (53, li (IntKind.i64.wrap ((i : Int) - 2)))] ?_
     have e384 : (IntKind.i64.wrap ((i : Int) - 2)) = (((i - 2) : Nat) : Int) := by rw [in_i64 (by omega)]; omega
     refine GQ.eq (M' := [(0, pt q 0), (1, .slice A 64 C), (4, pt p3 0), (5, vi i), (21, vi i), (51, vw ((wsN p i).getD (i - 15) 0)), (53, vi (i - 2))]) (by rw [e384]) ?_
     clear e384
     refine GQ.s 7 (fun w_ H_ => run_idxArr (P := Try.prog) (k := .i64) (t := 96) (len := 64) (sz := 1) (b := p3) (o := 0) (j := (i - 2)) (by kernel_rfl) rfl (by omega)) [(0, pt q 0), (1, .slice A 64 C), (4, pt p3 0), (5, vi i), (21, vi i), (51, vw ((wsN p i).getD (i - 15) 0)), (54, pt p3 (0 + (i - 2) * 1))] ?_
     refine GQ.s 8 (fun w_ H_ => H_.ld (o := (0 + (i - 2) * 1)) (ty := 22) (v := vw ((wsN p i).getD (i - 2) 0)) 1 rfl (by kernel_rfl) (by rw [show (0 + (i - 2) * 1) = (i - 2) by omega]; exact u32s_at (wsP_at (by omega) (by omega)))) [(0, pt q 0), (1, .slice A 64 C), (4, pt p3 0), (5, vi i), (21, vi i), (51, vw ((wsN p i).getD (i - 15) 0)), (55, vw ((wsN p i).getD (i - 2) 0))] ?_
     refine GQ.r 10 2 [(0, pt q 0), (1, .slice A 64 C), (4, pt p3 0), (5, vi i), (8, vw ((wsN p i).getD (i - 15) 0)), (9, vw ((wsN p i).getD (i - 2) 0)), (21, vi i)] ?_
     refine GQ.k rfl hK382 (fun _ _ h => h) (fun w385 H386 => ?_)
     refine G.sr fun K387 hK388 => ?_
     refine GL.r 1 1 [(0, pt q 0), (1, .slice A 64 C), (4, pt p3 0), (5, vi i), (8, vw ((wsN p i).getD (i - 15) 0)), (9, vw ((wsN p i).getD (i - 2) 0)), (21, vi i), (56, vw ((wsN p i).getD (i - 15) 0))] ?_
     refine GL.call (j := 2) (Turn7_calls ((wsN p i).getD (i - 15) 0) (getD_lt (wsN_lt p i) _) w385) (by kernel_rfl) rfl (fun e_ w389 hR => ?_)
     obtain ⟨rfl, H391⟩ := hR
     have H390 : Hp w S [.blk q (c8 s0 s1 s2 s3 s4 s5 s6 s7) 106, .blk p3 (u32s (wsP p i)) 96] w389 := H386.callNil H391
     refine ⟨_, rfl, [0, 1, 4, 5, 8, 9, 21, 57], [(0, pt q 0), (1, .slice A 64 C), (4, pt p3 0), (5, vi i), (8, vw ((wsN p i).getD (i - 15) 0)), (9, vw ((wsN p i).getD (i - 2) 0)), (21, vi i), (57, vw (rt ((wsN p i).getD (i - 15) 0) 7))], by kernel_rfl, ?_⟩
     refine GL.r 3 1 [(0, pt q 0), (1, .slice A 64 C), (4, pt p3 0), (5, vi i), (8, vw ((wsN p i).getD (i - 15) 0)), (9, vw ((wsN p i).getD (i - 2) 0)), (21, vi i), (57, vw (rt ((wsN p i).getD (i - 15) 0) 7)), (58, vw ((wsN p i).getD (i - 15) 0))] ?_
     refine GL.call (j := 4) (Turn18_calls ((wsN p i).getD (i - 15) 0) (getD_lt (wsN_lt p i) _) w389) (by kernel_rfl) rfl (fun e_ w392 hR => ?_)
     obtain ⟨rfl, H394⟩ := hR
     have H393 : Hp w S [.blk q (c8 s0 s1 s2 s3 s4 s5 s6 s7) 106, .blk p3 (u32s (wsP p i)) 96] w392 := H390.callNil H394
     refine ⟨_, rfl, [0, 1, 4, 5, 8, 9, 21, 57, 59], [(0, pt q 0), (1, .slice A 64 C), (4, pt p3 0), (5, vi i), (8, vw ((wsN p i).getD (i - 15) 0)), (9, vw ((wsN p i).getD (i - 2) 0)), (21, vi i), (57, vw (rt ((wsN p i).getD (i - 15) 0) 7)), (59, vw (rt ((wsN p i).getD (i - 15) 0) 18))], by kernel_rfl, ?_⟩
     refine GL.r 9 5 [(0, pt q 0), (1, .slice A 64 C), (4, pt p3 0), (5, vi i), (9, vw ((wsN p i).getD (i - 2) 0)), (10, lw (Go.bits .xor .u32 (Go.bits .xor .u32 (((rt ((wsN p i).getD (i - 15) 0) 7) : Nat) : Int) (((rt ((wsN p i).getD (i - 15) 0) 18) : Nat) : Int)) (Int.fdiv ((((wsN p i).getD (i - 15) 0) : Nat) : Int) (2 ^ 3)))), (21, vi i)] ?_
     have e395 : (Go.bits .xor .u32 (((rt ((wsN p i).getD (i - 15) 0) 7) : Nat) : Int) (((rt ((wsN p i).getD (i - 15) 0) 18) : Nat) : Int)) = ((((rt ((wsN p i).getD (i - 15) 0) 7) ^^^ (rt ((wsN p i).getD (i - 15) 0) 18)) : Nat) : Int) := w_xor (rt_lt (getD_lt (wsN_lt p i) _)) (rt_lt (getD_lt (wsN_lt p i) _))
     have e396 : (Int.fdiv ((((wsN p i).getD (i - 15) 0) : Nat) : Int) (2 ^ 3)) = (((((wsN p i).getD (i - 15) 0) / 2 ^ 3) : Nat) : Int) := n_shr _ 3
     have e397 : (Go.bits .xor .u32 ((((rt ((wsN p i).getD (i - 15) 0) 7) ^^^ (rt ((wsN p i).getD (i - 15) 0) 18)) : Nat) : Int) (((((wsN p i).getD (i - 15) 0) / 2 ^ 3) : Nat) : Int)) = (((ssg0 ((wsN p i).getD (i - 15) 0)) : Nat) : Int) := w_xor (xor_lt32 (rt_lt (getD_lt (wsN_lt p i) _)) (rt_lt (getD_lt (wsN_lt p i) _))) (Nat.lt_of_le_of_lt (Nat.div_le_self _ _) (getD_lt (wsN_lt p i) _))
     rw [e395, e396, e397]
     clear e395 e396 e397
     refine GL.q hK388 ?_
     refine G.sr fun K398 hK399 => ?_
     refine GL.r 1 1 [(0, pt q 0), (1, .slice A 64 C), (4, pt p3 0), (5, vi i), (9, vw ((wsN p i).getD (i - 2) 0)), (10, vw (ssg0 ((wsN p i).getD (i - 15) 0))), (21, vi i), (64, vw ((wsN p i).getD (i - 2) 0))] ?_
     refine GL.call (j := 2) (Turn17_calls ((wsN p i).getD (i - 2) 0) (getD_lt (wsN_lt p i) _) w392) (by kernel_rfl) rfl (fun e_ w400 hR => ?_)
     obtain ⟨rfl, H402⟩ := hR
     have H401 : Hp w S [.blk q (c8 s0 s1 s2 s3 s4 s5 s6 s7) 106, .blk p3 (u32s (wsP p i)) 96] w400 := H393.callNil H402
     refine ⟨_, rfl, [0, 1, 4, 5, 9, 10, 21, 65], [(0, pt q 0), (1, .slice A 64 C), (4, pt p3 0), (5, vi i), (9, vw ((wsN p i).getD (i - 2) 0)), (10, vw (ssg0 ((wsN p i).getD (i - 15) 0))), (21, vi i), (65, vw (rt ((wsN p i).getD (i - 2) 0) 17))], by kernel_rfl, ?_⟩
     refine GL.r 3 1 [(0, pt q 0), (1, .slice A 64 C), (4, pt p3 0), (5, vi i), (9, vw ((wsN p i).getD (i - 2) 0)), (10, vw (ssg0 ((wsN p i).getD (i - 15) 0))), (21, vi i), (65, vw (rt ((wsN p i).getD (i - 2) 0) 17)), (66, vw ((wsN p i).getD (i - 2) 0))] ?_
     refine GL.call (j := 4) (Turn19_calls ((wsN p i).getD (i - 2) 0) (getD_lt (wsN_lt p i) _) w400) (by kernel_rfl) rfl (fun e_ w403 hR => ?_)
     obtain ⟨rfl, H405⟩ := hR
     have H404 : Hp w S [.blk q (c8 s0 s1 s2 s3 s4 s5 s6 s7) 106, .blk p3 (u32s (wsP p i)) 96] w403 := H401.callNil H405
     refine ⟨_, rfl, [0, 1, 4, 5, 9, 10, 21, 65, 67], [(0, pt q 0), (1, .slice A 64 C), (4, pt p3 0), (5, vi i), (9, vw ((wsN p i).getD (i - 2) 0)), (10, vw (ssg0 ((wsN p i).getD (i - 15) 0))), (21, vi i), (65, vw (rt ((wsN p i).getD (i - 2) 0) 17)), (67, vw (rt ((wsN p i).getD (i - 2) 0) 19))], by kernel_rfl, ?_⟩
     refine GL.r 9 5 [(0, pt q 0), (1, .slice A 64 C), (4, pt p3 0), (5, vi i), (10, vw (ssg0 ((wsN p i).getD (i - 15) 0))), (11, lw (Go.bits .xor .u32 (Go.bits .xor .u32 (((rt ((wsN p i).getD (i - 2) 0) 17) : Nat) : Int) (((rt ((wsN p i).getD (i - 2) 0) 19) : Nat) : Int)) (Int.fdiv ((((wsN p i).getD (i - 2) 0) : Nat) : Int) (2 ^ 10)))), (21, vi i)] ?_
     have e406 : (Go.bits .xor .u32 (((rt ((wsN p i).getD (i - 2) 0) 17) : Nat) : Int) (((rt ((wsN p i).getD (i - 2) 0) 19) : Nat) : Int)) = ((((rt ((wsN p i).getD (i - 2) 0) 17) ^^^ (rt ((wsN p i).getD (i - 2) 0) 19)) : Nat) : Int) := w_xor (rt_lt (getD_lt (wsN_lt p i) _)) (rt_lt (getD_lt (wsN_lt p i) _))
     have e407 : (Int.fdiv ((((wsN p i).getD (i - 2) 0) : Nat) : Int) (2 ^ 10)) = (((((wsN p i).getD (i - 2) 0) / 2 ^ 10) : Nat) : Int) := n_shr _ 10
     have e408 : (Go.bits .xor .u32 ((((rt ((wsN p i).getD (i - 2) 0) 17) ^^^ (rt ((wsN p i).getD (i - 2) 0) 19)) : Nat) : Int) (((((wsN p i).getD (i - 2) 0) / 2 ^ 10) : Nat) : Int)) = (((ssg1 ((wsN p i).getD (i - 2) 0)) : Nat) : Int) := w_xor (xor_lt32 (rt_lt (getD_lt (wsN_lt p i) _)) (rt_lt (getD_lt (wsN_lt p i) _))) (Nat.lt_of_le_of_lt (Nat.div_le_self _ _) (getD_lt (wsN_lt p i) _))
     rw [e406, e407, e408]
     clear e406 e407 e408
     refine GL.q hK399 ?_
     refine G.tail 15 (by kernel_rfl) (by kernel_rfl) ?_
     have H409 := H404.drew
     generalize ({ w403 with drawn := w403.drawn + 1 } : World) = w410 at H409 ⊢
     refine GS.r 3 3 [(0, pt q 0), (1, .slice A 64 C), (4, pt p3 0), (5, vi i), (10, vw (ssg0 ((wsN p i).getD (i - 15) 0))), (11, vw (ssg1 ((wsN p i).getD (i - 2) 0))), (21, vi i), (72, vi i), (74, li (IntKind.i64.wrap ((i : Int) - 16)))] ?_
     have e411 : (IntKind.i64.wrap ((i : Int) - 16)) = (((i - 16) : Nat) : Int) := by rw [in_i64 (by omega)]; omega
     rw [e411]
     clear e411
     refine GS.s 4 (run_idxArr (P := Try.prog) (k := .i64) (t := 96) (len := 64) (sz := 1) (b := p3) (o := 0) (j := (i - 16)) (by kernel_rfl) rfl (by omega)) [(0, pt q 0), (1, .slice A 64 C), (4, pt p3 0), (5, vi i), (10, vw (ssg0 ((wsN p i).getD (i - 15) 0))), (11, vw (ssg1 ((wsN p i).getD (i - 2) 0))), (21, vi i), (72, vi i), (75, pt p3 (0 + (i - 16) * 1))] ?_
     refine GS.s 5 (H409.ld (o := (0 + (i - 16) * 1)) (ty := 22) (v := vw ((wsN p i).getD (i - 16) 0)) 1 rfl (by kernel_rfl) (by rw [show (0 + (i - 16) * 1) = (i - 16) by omega]; exact u32s_at (wsP_at (by omega) (by omega)))) [(0, pt q 0), (1, .slice A 64 C), (4, pt p3 0), (5, vi i), (10, vw (ssg0 ((wsN p i).getD (i - 15) 0))), (11, vw (ssg1 ((wsN p i).getD (i - 2) 0))), (21, vi i), (72, vi i), (76, vw ((wsN p i).getD (i - 16) 0))] ?_
     refine GS.r 9 4 [(0, pt q 0), (1, .slice A 64 C), (4, pt p3 0), (11, vw (ssg1 ((wsN p i).getD (i - 2) 0))), (21, vi i), (72, vi i), (78, lw (IntKind.u32.wrap (((((wsN p i).getD (i - 16) 0) : Nat) : Int) + (((ssg0 ((wsN p i).getD (i - 15) 0)) : Nat) : Int)))), (80, li (IntKind.i64.wrap ((i : Int) - 7)))] ?_
     have e412 : (IntKind.u32.wrap (((((wsN p i).getD (i - 16) 0) : Nat) : Int) + (((ssg0 ((wsN p i).getD (i - 15) 0)) : Nat) : Int))) = (((((wsN p i).getD (i - 16) 0) + (ssg0 ((wsN p i).getD (i - 15) 0))) % W32 : Nat) : Int) := w_add _ _
     have e413 : (IntKind.i64.wrap ((i : Int) - 7)) = (((i - 7) : Nat) : Int) := by rw [in_i64 (by omega)]; omega
     rw [e412, e413]
     clear e412 e413
     refine GS.s 10 (run_idxArr (P := Try.prog) (k := .i64) (t := 96) (len := 64) (sz := 1) (b := p3) (o := 0) (j := (i - 7)) (by kernel_rfl) rfl (by omega)) [(0, pt q 0), (1, .slice A 64 C), (4, pt p3 0), (11, vw (ssg1 ((wsN p i).getD (i - 2) 0))), (21, vi i), (72, vi i), (78, vw ((((wsN p i).getD (i - 16) 0) + (ssg0 ((wsN p i).getD (i - 15) 0))) % W32)), (81, pt p3 (0 + (i - 7) * 1))] ?_
     refine GS.s 11 (H409.ld (o := (0 + (i - 7) * 1)) (ty := 22) (v := vw ((wsN p i).getD (i - 7) 0)) 1 rfl (by kernel_rfl) (by rw [show (0 + (i - 7) * 1) = (i - 7) by omega]; exact u32s_at (wsP_at (by omega) (by omega)))) [(0, pt q 0), (1, .slice A 64 C), (4, pt p3 0), (11, vw (ssg1 ((wsN p i).getD (i - 2) 0))), (21, vi i), (72, vi i), (78, vw ((((wsN p i).getD (i - 16) 0) + (ssg0 ((wsN p i).getD (i - 15) 0))) % W32)), (82, vw ((wsN p i).getD (i - 7) 0))] ?_
     refine GS.r 14 3 [(0, pt q 0), (1, .slice A 64 C), (4, pt p3 0), (21, vi i), (72, vi i), (85, lw (IntKind.u32.wrap ((IntKind.u32.wrap ((((((wsN p i).getD (i - 16) 0) + (ssg0 ((wsN p i).getD (i - 15) 0))) % W32 : Nat) : Int) + ((((wsN p i).getD (i - 7) 0) : Nat) : Int))) + (((ssg1 ((wsN p i).getD (i - 2) 0)) : Nat) : Int))))] ?_
     have e414 : (IntKind.u32.wrap ((((((wsN p i).getD (i - 16) 0) + (ssg0 ((wsN p i).getD (i - 15) 0))) % W32 : Nat) : Int) + ((((wsN p i).getD (i - 7) 0) : Nat) : Int))) = (((((wsN p i).getD (i - 16) 0) + (ssg0 ((wsN p i).getD (i - 15) 0)) + ((wsN p i).getD (i - 7) 0)) % W32 : Nat) : Int) := w_addm _ _
     have e415 : (IntKind.u32.wrap ((((((wsN p i).getD (i - 16) 0) + (ssg0 ((wsN p i).getD (i - 15) 0)) + ((wsN p i).getD (i - 7) 0)) % W32 : Nat) : Int) + (((ssg1 ((wsN p i).getD (i - 2) 0)) : Nat) : Int))) = (((((wsN p i).getD (i - 16) 0) + (ssg0 ((wsN p i).getD (i - 15) 0)) + ((wsN p i).getD (i - 7) 0) + (ssg1 ((wsN p i).getD (i - 2) 0))) % W32 : Nat) : Int) := w_addm _ _
     rw [e414, e415]
     clear e414 e415
     refine GS.s 15 (run_idxArr (P := Try.prog) (k := .i64) (t := 96) (len := 64) (sz := 1) (b := p3) (o := 0) (j := i) (by kernel_rfl) rfl (by omega)) [(0, pt q 0), (1, .slice A 64 C), (4, pt p3 0), (21, vi i), (85, vw ((((wsN p i).getD (i - 16) 0) + (ssg0 ((wsN p i).getD (i - 15) 0)) + ((wsN p i).getD (i - 7) 0) + (ssg1 ((wsN p i).getD (i - 2) 0))) % W32)), (86, pt p3 (0 + i * 1))] ?_
     refine GS.tail rfl ?_
     obtain ⟨w416, r417, H418⟩ := H409.st (P := Try.prog) (o := (0 + i * 1)) (ty := 22) (v := vw ((((wsN p i).getD (i - 16) 0) + (ssg0 ((wsN p i).getD (i - 15) 0)) + ((wsN p i).getD (i - 7) 0) + (ssg1 ((wsN p i).getD (i - 2) 0))) % W32)) 1 rfl (by kernel_rfl) (by rw [u32s_length, wsP_length (by omega)]; omega) rfl
     rw [show (0 + i * 1) = i by omega, u32s_set] at H418
     refine GL.u 16 r417 [(0, pt q 0), (1, .slice A 64 C), (4, pt p3 0), (21, vi i)] ?_
     refine GL.q hK373 ?_
     refine G.region ?_
     refine GL.r 2 2 [(0, pt q 0), (1, .slice A 64 C), (4, pt p3 0), (21, li (IntKind.i64.wrap ((i : Int) + 1)))] ?_
     have e419 : (IntKind.i64.wrap ((i : Int) + 1)) = ((i + 1 : Nat) : Int) := by rw [in_i64 (by omega)]; omega
     rw [e419]
     clear e419
     have H420 : Hp w S [.blk q (c8 s0 s1 s2 s3 s4 s5 s6 s7) 106, .blk p3 (u32s (wsP p (i + 1))) 96] w416 := by rw [← wsP_set (v := ((((wsN p i).getD (i - 16) 0) + (ssg0 ((wsN p i).getD (i - 15) 0)) + ((wsN p i).getD (i - 7) 0) + (ssg1 ((wsN p i).getD (i - 2) 0))) % W32)) (by omega) (by rw [if_neg (by omega)])]; exact H418
     refine GL.fit (ts := [0, 1, 4, 21]) (M' := [(0, pt q 0), (1, .slice A 64 C), (4, pt p3 0), (21, vi (i + 1))]) (by kernel_rfl) ?_
     refine GL.eq (M' := [(0, pt q 0), (1, .slice A 64 C), (4, pt p3 0), (21, vi (i + 1))]) (by rfl) ?_
     exact GL.again (i + 1) [0, 1, 4, 21] rfl (by kernel_rfl) (by show 64 - (i + 1) < 64 - i; omega) ⟨by omega, H420⟩
   · skip
     have hb380f := of_decide_eq_true hb380
     refine G.yes rfl ?_
     refine G.seqK fun K422 hK423 => ?_
     refine G.sr fun K424 hK425 => ?_
     refine GL.r 6 6 [(0, pt q 0), (1, .slice A 64 C), (4, pt p3 0), (5, vi i), (21, vi i), (26, .slice A 64 C), (28, li (IntKind.i64.wrap (4 * (i : Int)))), (31, li (IntKind.i64.wrap ((IntKind.i64.wrap (4 * (i : Int))) + 4)))] ?_
     have e426 : (IntKind.i64.wrap (4 * (i : Int))) = ((4 * i : Nat) : Int) := by rw [in_i64 (by omega)]; omega
     have e427 : (IntKind.i64.wrap (((4 * i : Nat) : Int) + 4)) = (((4 * i) + 4 : Nat) : Int) := by rw [in_i64 (by omega)]; omega
     rw [e426, e427]
     clear e426 e427
     refine GL.s 7 (run_sliceN (P := Try.prog) (t := 28) (len := 64) (A := A) (k1 := .i64) (k2 := .i64) (cap := C) (l := 4 * i) (h := (4 * i) + 4) (n := 4) (by kernel_rfl) rfl (by omega) _) [(0, pt q 0), (1, .slice A 64 C), (4, pt p3 0), (5, vi i), (21, vi i), (32, .slice (if C = (4 * i) then A else Option.map (fun x => Addr.add x (4 * i)) A) 4 (C - 4 * i))] ?_
     refine GL.r 9 2 [(0, pt q 0), (1, .slice A 64 C), (4, pt p3 0), (5, vi i), (21, vi i), (32, .slice (if C = (4 * i) then A else Option.map (fun x => Addr.add x (4 * i)) A) 4 (C - 4 * i)), (33, li 4), (34, li 0)] ?_
     refine GL.q hK425 ?_
     refine G.block ?_
     have H428 : Hp w S [.blk q (c8 s0 s1 s2 s3 s4 s5 s6 s7) 106, .blk p3 (u32s (List.set (wsP p i) i (beF p (4 * i) 0))) 96] w11 := by rw [show beF p (4 * i) 0 = 0 from rfl, wsP_none (by omega)]; exact H13
     refine G.fit [0, 1, 4, 5, 21, 32, 33, 34] (M' := [(0, pt q 0), (1, .slice A 64 C), (4, pt p3 0), (5, vi i), (21, vi i), (32, .slice (if C = (4 * i) then A else Option.map (fun x => Addr.add x (4 * i)) A) 4 (C - 4 * i)), (33, li 4), (34, li 0)]) (by kernel_rfl) ?_
     refine G.loop (X := Nat) (fun k => [(0, pt q 0), (1, .slice A 64 C), (4, pt p3 0), (5, vi i), (21, vi i), (32, .slice (if C = (4 * i) then A else Option.map (fun x => Addr.add x (4 * i)) A) 4 (C - 4 * i)), (33, li 4), (34, vi k)]) (fun k w_ => (k ≤ 4) ∧ Hp w S [.blk q (c8 s0 s1 s2 s3 s4 s5 s6 s7) 106, .blk p3 (u32s (List.set (wsP p i) i (beF p (4 * i) k))) 96] w_) (fun k => 4 - k) 0 [0, 1, 4, 5, 21, 32, 33, 34] (by kernel_rfl) ⟨by omega, H428⟩ ?_
     rintro k w429 ⟨hi430, H431⟩
     refine G.eq (M' := [(0, pt q 0), (1, .slice A 64 C), (4, pt p3 0), (5, vi i), (21, vi i), (32, .slice (if C = (4 * i) then A else Option.map (fun x => Addr.add x (4 * i)) A) 4 (C - 4 * i)), (33, li 4), (34, vi k)]) rfl ?_
     have hk4 := hi430
     refine G.sr fun K432 hK433 => ?_
     refine GL.r 1 1 [(0, pt q 0), (1, .slice A 64 C), (4, pt p3 0), (5, vi i), (21, vi i), (32, .slice (if C = (4 * i) then A else Option.map (fun x => Addr.add x (4 * i)) A) 4 (C - 4 * i)), (33, li 4), (34, vi k), (35, .bool (decide ((k : Int) < 4)))] ?_
     refine GL.q hK433 ?_
     refine G.seqK fun K434 hK435 => ?_
     cases hb436 : (decide ((k : Int) < 4))
     · skip
       have hb436f := of_decide_eq_false hb436
       refine G.no rfl ?_
       refine G.exitK hK423 (fun _ _ h => h) ?_
       refine G.exitK hK373 (fun _ _ h => h) ?_
       refine G.region ?_
       refine GL.r 2 2 [(0, pt q 0), (1, .slice A 64 C), (4, pt p3 0), (21, li (IntKind.i64.wrap ((i : Int) + 1)))] ?_
       have e437 : (IntKind.i64.wrap ((i : Int) + 1)) = ((i + 1 : Nat) : Int) := by rw [in_i64 (by omega)]; omega
       rw [e437]
       clear e437
       have H438 : Hp w S [.blk q (c8 s0 s1 s2 s3 s4 s5 s6 s7) 106, .blk p3 (u32s (wsP p (i + 1))) 96] w429 := by rw [← wsP_set (v := (beF p (4 * i) k)) (by omega) (by rw [if_pos (by omega), show k = 4 by omega])]; exact H431
       refine GL.fit (ts := [0, 1, 4, 21]) (M' := [(0, pt q 0), (1, .slice A 64 C), (4, pt p3 0), (21, vi (i + 1))]) (by kernel_rfl) ?_
       refine GL.eq (M' := [(0, pt q 0), (1, .slice A 64 C), (4, pt p3 0), (21, vi (i + 1))]) (by rfl) ?_
       exact GL.again (i + 1) [0, 1, 4, 21] rfl (by kernel_rfl) (by show 64 - (i + 1) < 64 - i; omega) ⟨by omega, H438⟩
     · skip
       have hb436f := of_decide_eq_true hb436
       refine G.yes rfl ?_
       refine G.skipK hK435 (fun _ _ h => h) ?_
       refine G.seqK fun K440 hK441 => ?_
       refine G.block ?_
       refine G.sr fun K442 hK443 => ?_
       refine GL.s 1 (run_idxRd (P := Try.prog) (k := .i64) (t := 28) (A := (if C = (4 * i) then A else Option.map (fun x => Addr.add x (4 * i)) A)) (len := 4) (cap := (C - 4 * i)) (j := k) (by kernel_rfl) rfl (RdS.cut8 (cap := C) (hx.hp H431) (4 * i) (4 * i + 4) (cs := ((p.take (4 * i + 4)).drop (4 * i))) (by omega) rfl) (by rw [by8_length]; rw [List.length_drop, List.length_take]; omega) (by omega)) [(0, pt q 0), (1, .slice A 64 C), (4, pt p3 0), (5, vi i), (21, vi i), (32, .slice (if C = (4 * i) then A else Option.map (fun x => Addr.add x (4 * i)) A) 4 (C - 4 * i)), (33, li 4), (34, vi k), (36, .pointer (Option.map (fun x => Addr.add x k) (if C = (4 * i) then A else Option.map (fun x => Addr.add x (4 * i)) A)))] ?_
       refine GL.s 2 (run_ldRd (P := Try.prog) (ty := 5) (A := (if C = (4 * i) then A else Option.map (fun x => Addr.add x (4 * i)) A)) (j := k) (v := .int .u8 ((((p.take (4 * i + 4)).drop (4 * i)).getD k 0).toNat : Int)) (by kernel_rfl) (RdS.cut8 (cap := C) (hx.hp H431) (4 * i) (4 * i + 4) (cs := ((p.take (4 * i + 4)).drop (4 * i))) (by omega) rfl) (by8_at (getD8 (by rw [List.length_drop, List.length_take]; omega)))) [(0, pt q 0), (1, .slice A 64 C), (4, pt p3 0), (5, vi i), (21, vi i), (32, .slice (if C = (4 * i) then A else Option.map (fun x => Addr.add x (4 * i)) A) 4 (C - 4 * i)), (33, li 4), (34, vi k), (37, lb ((((p.take (4 * i + 4)).drop (4 * i)).getD k 0).toNat : Int))] ?_
       refine GL.r 3 1 [(0, pt q 0), (1, .slice A 64 C), (4, pt p3 0), (5, vi i), (7, lb ((((p.take (4 * i + 4)).drop (4 * i)).getD k 0).toNat : Int)), (21, vi i), (32, .slice (if C = (4 * i) then A else Option.map (fun x => Addr.add x (4 * i)) A) 4 (C - 4 * i)), (33, li 4), (34, vi k)] ?_
       refine GL.q hK443 ?_
       refine G.region ?_
       refine GL.r 2 2 [(0, pt q 0), (1, .slice A 64 C), (4, pt p3 0), (5, vi i), (7, lb ((((p.take (4 * i + 4)).drop (4 * i)).getD k 0).toNat : Int)), (21, vi i), (32, .slice (if C = (4 * i) then A else Option.map (fun x => Addr.add x (4 * i)) A) 4 (C - 4 * i)), (33, li 4), (34, vi k), (38, vi i), (39, vi i)] ?_
       refine GL.s 3 (run_idxArr (P := Try.prog) (k := .i64) (t := 96) (len := 64) (sz := 1) (b := p3) (o := 0) (j := i) (by kernel_rfl) rfl (by omega)) [(0, pt q 0), (1, .slice A 64 C), (4, pt p3 0), (5, vi i), (7, lb ((((p.take (4 * i + 4)).drop (4 * i)).getD k 0).toNat : Int)), (21, vi i), (32, .slice (if C = (4 * i) then A else Option.map (fun x => Addr.add x (4 * i)) A) 4 (C - 4 * i)), (33, li 4), (34, vi k), (38, vi i), (40, pt p3 (0 + i * 1))] ?_
       have hbk : (beF p (4 * i) k) < 16777216 := Nat.lt_of_lt_of_le (beF_lt p (4 * i) k) (Nat.pow_le_pow_right (n := 256) (by decide) (show k ≤ 3 by omega))
       refine GL.s 4 (H431.ld (o := (0 + i * 1)) (ty := 22) (v := vw (beF p (4 * i) k)) 1 rfl (by kernel_rfl) (by rw [show (0 + i * 1) = i by omega]; exact u32s_at (wsP_put (by omega)))) [(0, pt q 0), (1, .slice A 64 C), (4, pt p3 0), (5, vi i), (7, lb ((((p.take (4 * i + 4)).drop (4 * i)).getD k 0).toNat : Int)), (21, vi i), (32, .slice (if C = (4 * i) then A else Option.map (fun x => Addr.add x (4 * i)) A) 4 (C - 4 * i)), (33, li 4), (34, vi k), (38, vi i), (41, vw (beF p (4 * i) k))] ?_
       refine GL.r 8 4 [(0, pt q 0), (1, .slice A 64 C), (4, pt p3 0), (5, vi i), (21, vi i), (32, .slice (if C = (4 * i) then A else Option.map (fun x => Addr.add x (4 * i)) A) 4 (C - 4 * i)), (33, li 4), (34, vi k), (38, vi i), (45, lw (Go.bits .or .u32 (IntKind.u32.wrap ((((beF p (4 * i) k) : Nat) : Int) * 2 ^ 8)) (IntKind.u32.wrap ((((p.take (4 * i + 4)).drop (4 * i)).getD k 0).toNat : Int))))] ?_
       have e444 : (IntKind.u32.wrap ((((beF p (4 * i) k) : Nat) : Int) * 2 ^ 8)) = ((((beF p (4 * i) k) * 256) : Nat) : Int) := w_shl8 hbk
       have e445 : (IntKind.u32.wrap ((((p.take (4 * i + 4)).drop (4 * i)).getD k 0).toNat : Int)) = ((((p.take (4 * i + 4)).drop (4 * i)).getD k 0).toNat : Int) := u8_up_u32 _
       have e446 : (Go.bits .or .u32 ((((beF p (4 * i) k) * 256) : Nat) : Int) ((((p.take (4 * i + 4)).drop (4 * i)).getD k 0).toNat : Int)) = (((((beF p (4 * i) k) * 256) + ((((p.take (4 * i + 4)).drop (4 * i)).getD k 0).toNat)) : Nat) : Int) := w_orbyte hbk (UInt8.toNat_lt _)
       rw [e444, e445, e446]
       clear e444 e445 e446
       refine GL.s 9 (run_idxArr (P := Try.prog) (k := .i64) (t := 96) (len := 64) (sz := 1) (b := p3) (o := 0) (j := i) (by kernel_rfl) rfl (by omega)) [(0, pt q 0), (1, .slice A 64 C), (4, pt p3 0), (5, vi i), (21, vi i), (32, .slice (if C = (4 * i) then A else Option.map (fun x => Addr.add x (4 * i)) A) 4 (C - 4 * i)), (33, li 4), (34, vi k), (45, vw (((beF p (4 * i) k) * 256) + ((((p.take (4 * i + 4)).drop (4 * i)).getD k 0).toNat))), (46, pt p3 (0 + i * 1))] ?_
       obtain ⟨w447, r448, H449⟩ := H431.st (P := Try.prog) (o := (0 + i * 1)) (ty := 22) (v := vw (((beF p (4 * i) k) * 256) + ((((p.take (4 * i + 4)).drop (4 * i)).getD k 0).toNat))) 1 rfl (by kernel_rfl) (by rw [u32s_length, List.length_set, wsP_length (by omega)]; omega) rfl
       rw [show (0 + i * 1) = i by omega, u32s_set, List.set_set] at H449
       refine GL.u 10 r448 [(0, pt q 0), (1, .slice A 64 C), (4, pt p3 0), (5, vi i), (21, vi i), (32, .slice (if C = (4 * i) then A else Option.map (fun x => Addr.add x (4 * i)) A) 4 (C - 4 * i)), (33, li 4), (34, vi k)] ?_
       refine GL.q hK441 ?_
       refine G.region ?_
       refine GL.r 2 2 [(0, pt q 0), (1, .slice A 64 C), (4, pt p3 0), (5, vi i), (21, vi i), (32, .slice (if C = (4 * i) then A else Option.map (fun x => Addr.add x (4 * i)) A) 4 (C - 4 * i)), (33, li 4), (34, li (IntKind.i64.wrap ((k : Int) + 1)))] ?_
       have e450 : (IntKind.i64.wrap ((k : Int) + 1)) = ((k + 1 : Nat) : Int) := by rw [in_i64 (by omega)]; omega
       rw [e450]
       clear e450
       have H451 : Hp w S [.blk q (c8 s0 s1 s2 s3 s4 s5 s6 s7) 106, .blk p3 (u32s (List.set (wsP p i) i (beF p (4 * i) (k + 1)))) 96] w447 := by rw [beF, ← cut_getD (p := p) (l := 4 * i) (n := 4) (k := k) (by omega)]; exact H449
       refine GL.fit (ts := [0, 1, 4, 5, 21, 32, 33, 34]) (M' := [(0, pt q 0), (1, .slice A 64 C), (4, pt p3 0), (5, vi i), (21, vi i), (32, .slice (if C = (4 * i) then A else Option.map (fun x => Addr.add x (4 * i)) A) 4 (C - 4 * i)), (33, li 4), (34, vi (k + 1))]) (by kernel_rfl) ?_
       refine GL.eq (M' := [(0, pt q 0), (1, .slice A 64 C), (4, pt p3 0), (5, vi i), (21, vi i), (32, .slice (if C = (4 * i) then A else Option.map (fun x => Addr.add x (4 * i)) A) 4 (C - 4 * i)), (33, li 4), (34, vi (k + 1))]) (by rfl) ?_
       exact GL.again (k + 1) [0, 1, 4, 5, 21, 32, 33, 34] rfl (by kernel_rfl) (by show 4 - (k + 1) < 4 - k; omega) ⟨by omega, H451⟩
end Go.Proofs.Ytdepaaphgfapjaa
namespace Go.Proofs.Ytdepaaphgfapjaa
open Go.RowKit
theorem v8c_at {s : V8} {j : Nat} (h : j < 8) : (v8c s)[j]? = some (.int .u32 ((at8 s j : Nat) : Int)) := by
 obtain ⟨a, b, c, d, e, f, g, x⟩ := s
 rcases (by omega : j = 0 ∨ j = 1 ∨ j = 2 ∨ j = 3 ∨ j = 4 ∨ j = 5 ∨ j = 6 ∨ j = 7) with rfl | rfl | rfl | rfl | rfl | rfl | rfl | rfl <;> rfl
def bsP (F : Nat → UInt8) (n i : Nat) : List UInt8 := (List.range i).map F ++ List.replicate (n - i) 0
theorem bsP_length {F : Nat → UInt8} {n i : Nat} (h : i ≤ n) : (bsP F n i).length = n := by
 rw [bsP, List.length_append, List.length_map, List.length_range, List.length_replicate]
 omega
theorem bsP_set {F : Nat → UInt8} {n i : Nat} {v : UInt8} (h : i < n) (hv : v = F i) : (bsP F n i).set i v = bsP F n (i + 1) := by
 subst hv
 unfold bsP
 have hl : ((List.range i).map F).length = i := by rw [List.length_map, List.length_range]
 rw [List.set_append_right _ _ (by rw [hl]; exact Nat.le_refl _), hl, Nat.sub_self, show n - i = (n - (i + 1)) + 1 by omega, List.replicate_succ, List.set_cons_zero, List.range_succ, List.map_append, List.append_assoc]
 rfl
theorem bsP_all (F : Nat → UInt8) (n : Nat) : bsP F n n = (List.range n).map F := by rw [bsP, Nat.sub_self]; exact List.append_nil _
def outB (s : V8) (i : Nat) : UInt8 := UInt8.ofNat (at8 s (i / 4) / 2 ^ (24 - 8 * (i % 4)))
theorem outF_length (s : V8) : (outF s).length = 32 := by rw [outF, List.length_map, List.length_range]
theorem sha_length (b : List UInt8) : (sha b).length = 32 := outF_length _
theorem w_shl3 {n : Nat} (h : n * 8 < K) : IntKind.u64.wrap ((n : Int) * 2 ^ 3) = ((n * 8 : Nat) : Int) := by
 simp only [K] at h
 rw [IntKind.wrap_u64]
 omega
theorem sub_whole {cs : List Value} {m : Nat} (h : cs.length = m) : (cs.drop 0).take m = cs := by rw [List.drop_zero, List.take_of_length_le (Nat.le_of_eq h)]
theorem RdO.chunk {w : World} {S : List Nat} {A : Option Addr} {bs : List UInt8} (h : RdO w S A (by8 bs)) (l n : Nat) (hl : l < bs.length) : RdO w S (A.map (fun x => Addr.add x l)) (by8 ((bs.drop l).take n)) := by
 intro W hs hk
 have e := (h W hs hk).drop8 (cap := bs.length) l (Nat.le_refl _) rfl
 rw [if_neg (by omega)] at e
 exact e.take8 n rfl
theorem run_slice3N {P : Program} {t len cap : Nat} {A : Option Addr} {k1 k2 k3 : IntKind} {l h n : Nat} (ht : slcOf P t = some 1) (hn : h = l + n) (h0 : 0 < n) (hh : h ≤ cap) (w : World) :
   (Instr.sliceAt t (.slice A len cap) (some (.int k1 (l : Int))) (some (.int k2 (h : Int))) (some (.int k3 (h : Int)))).run P w = .ok (.slice (A.map (fun x => Addr.add x l)) n n) w := by
 have e := run_slice3 (P := P) (w := w) (t := t) (len := len) (cap := cap) (A := A) (k1 := k1) (k2 := k2) (k3 := k3) (l := l) (h := h) (m := h) ht (by omega) (Nat.le_refl _) hh
 rw [show h - l = n by omega, if_neg (by omega)] at e
 exact e
theorem Clone_some (xs : List UInt8) (A : Option Addr) (n c : Nat) (w : World) (hA : A.isNone = false) (hx : RdS w A (by8 xs)) (hn : n = xs.length) (hb : n ≤ 1099511627776) : Calls Try.prog 45 #[.slice A n c] w fun e w' => ∃ A c, e = .returned (.slice A n c) ∧ Hp w [] [.row A n c 5 1 (by8 xs)] w' := by
 refine calls_G (args := [.slice A n c]) Try.func45 rfl Try.ntmps45 rfl ?_
 intro Q0 hRet hNor hPan
 have H := Hp.start w
 refine G.sr fun K1 hK2 => ?_
 refine GL.r 1 1 [(0, .slice A n c)] ?_
 refine GL.q hK2 ?_
 refine G.seqK fun K3 hK4 => ?_
 refine G.sr fun K5 hK6 => ?_
 refine GL.r 1 1 [(0, .slice A n c), (3, .slice A n c)] ?_
 refine GL.s 2 (run_sl_nil (P := Try.prog) (sz := 1) (t := 28) (n := n) (c := c) (A := A) (by kernel_rfl) _) [(0, .slice A n c), (4, .bool (Option.isNone A))] ?_
 refine GL.q hK6 ?_
 have hb7 : (Option.isNone A) = false := hA
 rw [hb7]
 refine G.no rfl ?_
 refine G.skipK hK4 (fun _ _ h => h) ?_
 refine G.sr fun K8 hK9 => ?_
 obtain ⟨p10, w11, r12, H13⟩ := H.madeRow (P := Try.prog) (Instr.buildSlice 28 0 #[]) (fun b_ => .slice (some ⟨b_, 0, none⟩) 0 0) [] 5 0 0 1 (by kernel_rfl) (by decide) (by decide) rfl
 refine GL.s 1 (r12) [(0, .slice A n c), (5, .slice (some ⟨p10, 0, none⟩) 0 0)] ?_
 refine GL.r 2 1 [(5, .slice (some ⟨p10, 0, none⟩) 0 0), (6, .slice A n c)] ?_
 obtain ⟨A14, c15, w16, r17, H18⟩ := H13.append (P := Try.prog) (e := 5) (sz := 1) (by_ := 1) (n := 0) (c := 0) (m := n) (d := c) (t := 28) (ty := 28) (xs := by8 ([] : List UInt8)) (news := by8 xs) 0 rfl (by kernel_rfl) (hx.hp H13) (by first | (simp [by8_length]; done) | (rw [by8_length]; omega) | (rw [by8_length, putB_length])) (by8_one _) (by omega) (by simp only [maxLen]; omega)
 rw [Nat.zero_add] at r17 H18
 have H18 : Hp w [] [.row A14 n c15 5 1 (by8 xs)] w16 := H18
 refine GL.s 3 (r17) [(7, .slice A14 n c15)] ?_
 refine GL.r 4 1 [(2, .slice A14 n c15)] ?_
 refine GL.q hK9 ?_
 refine G.ret fun F_ hF_ hM_ => hRet _ _ (bodyPost_1 rfl (RV.tmp rfl) ?_ F_ hF_ hM_)
 exact ⟨_, _, rfl, H18.sub (by simp)⟩
theorem Clone_nil (xs : List UInt8) (n c : Nat) (w : World) (hx : RdS w none (by8 [])) (hn : n = 0) (hb : n ≤ 1099511627776) : Calls Try.prog 45 #[.slice none n c] w fun e w' => ∃ A c, e = .returned (.slice A n c) ∧ Hp w [] [.row A n c 5 1 (by8 [])] w' := by
 refine calls_G (args := [.slice none n c]) Try.func45 rfl Try.ntmps45 rfl ?_
 intro Q0 hRet hNor hPan
 have H := Hp.start w
 refine G.sr fun K1 hK2 => ?_
 refine GL.r 1 1 [(0, .slice none n c)] ?_
 refine GL.q hK2 ?_
 refine G.seqK fun K3 hK4 => ?_
 refine G.sr fun K5 hK6 => ?_
 refine GL.r 1 1 [(0, .slice none n c), (3, .slice none n c)] ?_
 refine GL.s 2 (run_sl_nil (P := Try.prog) (sz := 1) (t := 28) (n := n) (c := c) (A := none) (by kernel_rfl) _) [(0, .slice none n c), (4, .bool true)] ?_
 refine GL.q hK6 ?_
 refine G.yes rfl ?_
 refine G.sr fun K7 hK8 => ?_
 refine GL.r 1 1 [(2, .slice none 0 0)] ?_
 refine GL.q hK8 ?_
 refine G.ret fun F_ hF_ hM_ => hRet _ _ (bodyPost_1 rfl (RV.tmp rfl) ?_ F_ hF_ hM_)
 obtain rfl : n = 0 := by omega
 exact ⟨none, 0, rfl, H.rowNil 5 1⟩
theorem Clone_calls (xs : List UInt8) (A : Option Addr) (n c : Nat) (w : World) (hx : RdS w A (by8 xs)) (hn : n = xs.length) (hb : n ≤ 1099511627776) : Calls Try.prog 45 #[.slice A n c] w fun e w' => ∃ A c, e = .returned (.slice A n c) ∧ Hp w [] [.row A n c 5 1 (by8 xs)] w' := by
 cases A with
 | some a => exact Clone_some xs (some a) n c w rfl hx hn hb
 | none =>
   have hxs : xs = [] := by
     rcases hx with h | ⟨a, h, _⟩
     · simpa [by8] using h
     · cases h
   subst hxs
   exact Clone_nil [] n c w hx hn hb
theorem Chunk_calls (A : Option Addr) (n c : Nat) (w : World) : Calls Try.prog 67 #[.slice A n c, .int .i64 64] w fun e w' => ∃ B D, e = .returned (.func (.func 72) #[] #[.pointer (some ⟨B, 0, none⟩), .pointer (some ⟨D, 0, none⟩)]) ∧ Hp w [] [.blk B [.slice A n c] 28, .blk D [.int .i64 64] 3] w' := by
 refine calls_G (args := [.slice A n c, li 64]) Try.func67 rfl Try.ntmps67 rfl ?_
 intro Q0 hRet hNor hPan
 have H := Hp.start w
 refine G.sr fun K1 hK2 => ?_
 obtain ⟨p3, w4, r5, H6⟩ := H.box (P := Try.prog) 28 [.slice A n c] (.slice A n c) rfl
 refine GL.s 1 (r5) [(1, li 64), (2, pt p3 0)] ?_
 obtain ⟨p7, w8, r9, H10⟩ := H6.box (P := Try.prog) 3 [li 64] (li 64) rfl
 refine GL.s 2 (r9) [(2, pt p3 0), (3, pt p7 0)] ?_
 refine GL.r 3 1 [(2, pt p3 0), (3, pt p7 0)] ?_
 refine GL.q hK2 ?_
 refine G.seqK fun K11 hK12 => ?_
 refine G.sr fun K13 hK14 => ?_
 refine GL.s 1 (H10.ld (o := 0) (ty := 3) (v := .int .i64 64) 1 rfl (by kernel_rfl) rfl) [(2, pt p3 0), (3, pt p7 0), (5, li 64)] ?_
 refine GL.r 2 1 [(2, pt p3 0), (3, pt p7 0), (6, .bool false)] ?_
 refine GL.q hK14 ?_
 refine G.no rfl ?_
 refine G.skipK hK12 (fun _ _ h => h) ?_
 refine G.sr fun K15 hK16 => ?_
 refine GL.r 2 2 [(4, .func (.func 72) #[] #[pt p3 0, pt p7 0])] ?_
 refine GL.q hK16 ?_
 refine G.ret fun F_ hF_ hM_ => hRet _ _ (bodyPost_1 rfl (RV.tmp rfl) ?_ F_ hF_ hM_)
 exact ⟨_, _, rfl, H10⟩
theorem Chunk_iter (M n : Nat) (hn : n = 64 * M) (hM : M ≤ 1000000) (A : Option Addr) (c : Nat) (hc : n ≤ c) (B D : Nat) : Iter Try.prog 72 #[pt B 0, pt D 0] M (fun k => #[.slice (Option.map (fun x => Addr.add x (64 * k)) A) 64 64]) (fun W => W.cell? ⟨B, 0, none⟩ = some (.slice A n c) ∧ W.cell? ⟨D, 0, none⟩ = some (.int .i64 64)) := by
 intro l J Jx hRd hst hy w h0
 rw [show (#[Value.func (.yield l) #[] #[]] ++ #[pt B 0, pt D 0] : Array Value) = #[.func (.yield l) #[] #[], pt B 0, pt D 0] by simp]
 refine calls_R (args := [.func (.yield l) #[] #[], pt B 0, pt D 0]) Try.func72 rfl Try.ntmps72 rfl ?_
 intro Q0 hRet hNor
 have H := Hp.start w
 refine RG.seqK fun K1 hK2 => ?_
 refine RG.region (by kernel_rfl) ?_
 refine RL.run (j := 1) 1 [0, 1, 2, 4] [(0, .func (.yield l) #[] #[]), (1, pt B 0), (2, pt D 0), (4, li 0)] (by kernel_rfl) rfl ?_
 refine RL.k rfl hK2 (fun _ _ h => h) ?_
 refine RG.block ?_
 refine RG.fit [0, 1, 2, 4] (M' := [(0, .func (.yield l) #[] #[]), (1, pt B 0), (2, pt D 0), (4, li 0)]) (by kernel_rfl) ?_
 refine RG.eq (M' := [(0, .func (.yield l) #[] #[]), (1, pt B 0), (2, pt D 0), (4, vi (64 * 0))]) (by rfl) ?_
 refine RG.loop (X := Nat) (fun k => [(0, .func (.yield l) #[] #[]), (1, pt B 0), (2, pt D 0), (4, vi (64 * k))]) (fun k w_ => k ≤ M ∧ J k w_) (fun k => M - k) 0 [0, 1, 2, 4] (by kernel_rfl) ⟨Nat.zero_le _, h0⟩ ?_
 rintro k wk ⟨hkN, hJk⟩
 have H3 := Hp.start wk
 refine RG.eq (M' := [(0, .func (.yield l) #[] #[]), (1, pt B 0), (2, pt D 0), (4, vi (64 * k))]) rfl ?_
 refine RG.seqK fun K4 hK5 => ?_
 refine RG.seqK fun K6 hK7 => ?_
 refine RG.region (by kernel_rfl) ?_
 refine RL.run (j := 1) 1 [0, 1, 2, 4, 6] [(0, .func (.yield l) #[] #[]), (1, pt B 0), (2, pt D 0), (4, vi (64 * k)), (6, vi (64 * k))] (by kernel_rfl) rfl ?_
 refine RL.sem (j := 2) (run_ld1 (P := Try.prog) (ty := 28) (a := ⟨B, 0, none⟩) (v := .slice A n c) (by kernel_rfl) (H3.oldCell (hRd _ _ hJk).1)) [0, 1, 2, 4, 6, 7] [(0, .func (.yield l) #[] #[]), (1, pt B 0), (2, pt D 0), (4, vi (64 * k)), (6, vi (64 * k)), (7, .slice A n c)] (by kernel_rfl) (by kernel_rfl) rfl ?_
 refine RL.run (j := 4) 2 [0, 1, 2, 4, 9] [(0, .func (.yield l) #[] #[]), (1, pt B 0), (2, pt D 0), (4, vi (64 * k)), (9, .bool (decide ((((64 * k) : Nat) : Int) < (n : Int))))] (by kernel_rfl) rfl ?_
 refine RL.k rfl hK7 (fun _ _ h => h) ?_
 cases hb8 : (decide ((((64 * k) : Nat) : Int) < (n : Int)))
 · skip
   have hb8f := of_decide_eq_false hb8
   refine RG.no rfl ?_
   refine fun F_ hF_ hM_ => wpIn_exit ?_
   refine hNor _ _ (postM_0 rfl  ?_ F_ hF_ hM_)
   exact ⟨⟨_, rfl⟩, .inl (by first | exact hJk | (have hkk : k = M := by omega); rw [← hkk]; exact hJk)⟩
 · skip
   have hb8f := of_decide_eq_true hb8
   refine RG.yes rfl ?_
   refine RG.skipK hK5 (fun _ _ h => h) ?_
   refine RG.seqK fun K9 hK10 => ?_
   refine RG.block ?_
   refine RG.seqK fun K11 hK12 => ?_
   refine RG.draw H3 (by kernel_rfl) (by kernel_rfl) ?_
   refine GQ.s 1 (fun w_ H_ => run_ld1 (P := Try.prog) (ty := 3) (a := ⟨D, 0, none⟩) (v := .int .i64 64) (by kernel_rfl) (H_.oldCell (hRd _ _ hJk).2)) [(0, .func (.yield l) #[] #[]), (1, pt B 0), (2, pt D 0), (4, vi (64 * k)), (13, li 64)] ?_
   refine GQ.s 2 (fun w_ H_ => run_ld1 (P := Try.prog) (ty := 28) (a := ⟨B, 0, none⟩) (v := .slice A n c) (by kernel_rfl) (H_.oldCell (hRd _ _ hJk).1)) [(0, .func (.yield l) #[] #[]), (1, pt B 0), (2, pt D 0), (4, vi (64 * k)), (13, li 64), (14, .slice A n c)] ?_
   refine GQ.r 3 1 [(0, .func (.yield l) #[] #[]), (1, pt B 0), (2, pt D 0), (4, vi (64 * k)), (13, li 64), (14, .slice A n c), (15, vi (64 * k))] ?_
   refine GQ.s 4 (fun w_ H_ => run_sliceSl (P := Try.prog) (lo := some (vi (64 * k))) (hi := none) (t := 28) (len := n) (cap := c) (A := A) (l := (64 * k)) (h := n) (by kernel_rfl) (Or.inr ⟨_, _, rfl, rfl⟩) (Or.inl ⟨rfl, rfl⟩) (by omega) (by omega)) [(0, .func (.yield l) #[] #[]), (1, pt B 0), (2, pt D 0), (4, vi (64 * k)), (13, li 64), (16, .slice (if c = (64 * k) then A else Option.map (fun x => Addr.add x (64 * k)) A) (n - (64 * k)) (c - (64 * k)))] ?_
   refine GQ.r 7 3 [(0, .func (.yield l) #[] #[]), (1, pt B 0), (2, pt D 0), (4, vi (64 * k)), (5, li (if (((n - (64 * k)) : Nat) : Int) < (64 : Int) then (((n - (64 * k)) : Nat) : Int) else (64 : Int)))] ?_
   have e13 : (if (((n - (64 * k)) : Nat) : Int) < (64 : Int) then (((n - (64 * k)) : Nat) : Int) else (64 : Int)) = 64 := by rw [if_neg (by omega)]
   refine GQ.eq (M' := [(0, .func (.yield l) #[] #[]), (1, pt B 0), (2, pt D 0), (4, vi (64 * k)), (5, li 64)]) (by rw [e13]) ?_
   clear e13
   refine GQ.kR rfl hK12 (fun _ _ h => h) (fun w14 H15 => ?_)
   refine RG.seqK fun K16 hK17 => ?_
   refine RG.region (by kernel_rfl) ?_
   refine RL.run (j := 1) 1 [0, 1, 2, 4, 5, 19] [(0, .func (.yield l) #[] #[]), (1, pt B 0), (2, pt D 0), (4, vi (64 * k)), (5, li 64), (19, .func (.yield l) #[] #[])] (by kernel_rfl) rfl ?_
   refine RL.sem (j := 2) (run_ld1 (P := Try.prog) (ty := 28) (a := ⟨B, 0, none⟩) (v := .slice A n c) (by kernel_rfl) (H15.oldCell (hRd _ _ hJk).1)) [0, 1, 2, 4, 5, 19, 20] [(0, .func (.yield l) #[] #[]), (1, pt B 0), (2, pt D 0), (4, vi (64 * k)), (5, li 64), (19, .func (.yield l) #[] #[]), (20, .slice A n c)] (by kernel_rfl) (by kernel_rfl) rfl ?_
   refine RL.run (j := 9) 7 [0, 1, 2, 4, 19, 20, 21, 24, 27] [(0, .func (.yield l) #[] #[]), (1, pt B 0), (2, pt D 0), (4, vi (64 * k)), (19, .func (.yield l) #[] #[]), (20, .slice A n c), (21, vi (64 * k)), (24, li (IntKind.i64.wrap ((((64 * k) : Nat) : Int) + 64))), (27, li (IntKind.i64.wrap ((((64 * k) : Nat) : Int) + 64)))] (by kernel_rfl) rfl ?_
   have e18 : (IntKind.i64.wrap ((((64 * k) : Nat) : Int) + 64)) = (((64 * k) + 64 : Nat) : Int) := by rw [in_i64 (by omega)]; omega
   rw [e18]
   clear e18
   refine RL.sem (j := 10) (run_slice3N (P := Try.prog) (t := 28) (len := n) (cap := c) (A := A) (k1 := .i64) (k2 := .i64) (k3 := .i64) (l := 64 * k) (h := (64 * k) + 64) (n := 64) (by kernel_rfl) (by omega) (by decide) (by omega) _) [0, 1, 2, 4, 19, 28] [(0, .func (.yield l) #[] #[]), (1, pt B 0), (2, pt D 0), (4, vi (64 * k)), (19, .func (.yield l) #[] #[]), (28, .slice (Option.map (fun x => Addr.add x (64 * k)) A) 64 64)] (by kernel_rfl) (by kernel_rfl) rfl ?_
   refine RL.yield (j := 11) (hy k _ (by omega) (hst k _ _ hJk H15.below)) (by kernel_rfl) rfl (fun e_ w19 hR23 => ?_)
   obtain ⟨b20, rfl, hyt21, hyf22⟩ := yield_cases hR23
   have H24 := Hp.start w19
   refine ⟨_, rfl, [0, 1, 2, 4, 29], [(0, .func (.yield l) #[] #[]), (1, pt B 0), (2, pt D 0), (4, vi (64 * k)), (29, .bool b20)], by kernel_rfl, ?_⟩
   refine RL.run (j := 12) 1 [0, 1, 2, 4, 30] [(0, .func (.yield l) #[] #[]), (1, pt B 0), (2, pt D 0), (4, vi (64 * k)), (30, .bool (!b20))] (by kernel_rfl) rfl ?_
   refine RL.k rfl hK17 (fun _ _ h => h) ?_
   rcases (Bool.eq_false_or_eq_true b20).symm with hb25 | hb25
   · skip
     refine RG.eq (M' := [(0, .func (.yield l) #[] #[]), (1, pt B 0), (2, pt D 0), (4, vi (64 * k)), (30, .bool true)]) (by first | (rw [hb25]; done) | (rw [hb25]; rfl)) ?_
     have hJ26 := hyf22 hb25
     refine RG.yes rfl ?_
     refine RG.ret ?_
     intro F_ hF_ hM_
     refine hRet _ _ (postM_0 rfl  ?_ F_ hF_ hM_)
     exact ⟨⟨_, rfl⟩, .inr hJ26⟩
   · skip
     refine RG.eq (M' := [(0, .func (.yield l) #[] #[]), (1, pt B 0), (2, pt D 0), (4, vi (64 * k)), (30, .bool false)]) (by first | (rw [hb25]; done) | (rw [hb25]; rfl)) ?_
     have hJ27 := hyt21 hb25
     refine RG.no rfl ?_
     refine RG.skipK hK10 (fun _ _ h => h) ?_
     refine RG.region (by kernel_rfl) ?_
     refine RL.run (j := 1) 1 [0, 1, 2, 10] [(0, .func (.yield l) #[] #[]), (1, pt B 0), (2, pt D 0), (10, vi (64 * k))] (by kernel_rfl) rfl ?_
     refine RL.sem (j := 2) (run_ld1 (P := Try.prog) (ty := 3) (a := ⟨D, 0, none⟩) (v := .int .i64 64) (by kernel_rfl) (H24.oldCell (hRd _ _ hJ27).2)) [0, 1, 2, 10, 11] [(0, .func (.yield l) #[] #[]), (1, pt B 0), (2, pt D 0), (10, vi (64 * k)), (11, li 64)] (by kernel_rfl) (by kernel_rfl) rfl ?_
     refine RL.run (j := 4) 2 [0, 1, 2, 4] [(0, .func (.yield l) #[] #[]), (1, pt B 0), (2, pt D 0), (4, li (IntKind.i64.wrap ((((64 * k) : Nat) : Int) + 64)))] (by kernel_rfl) rfl ?_
     have e28 : (IntKind.i64.wrap ((((64 * k) : Nat) : Int) + 64)) = (((64 * k) + 64 : Nat) : Int) := by rw [in_i64 (by omega)]; omega
     rw [e28]
     clear e28
     refine RL.fit (ts := [0, 1, 2, 4]) (M' := [(0, .func (.yield l) #[] #[]), (1, pt B 0), (2, pt D 0), (4, vi ((64 * k) + 64))]) (by kernel_rfl) ?_
     refine RL.eq (M' := [(0, .func (.yield l) #[] #[]), (1, pt B 0), (2, pt D 0), (4, vi (64 * (k + 1)))]) (by rw [show 64 * k + 64 = 64 * (k + 1) by omega]) ?_
     exact RL.again (k + 1) [0, 1, 2, 4] rfl (by kernel_rfl) (by show M - (k + 1) < M - k; omega) ⟨by omega, hJ27⟩
theorem Sum_calls (A : Option Addr) (n c : Nat) (b : List UInt8) (w : World) (hx : RdS w A (by8 b)) (hn : n = b.length) (hb : b.length ≤ 1000000) : Calls Try.prog 57 #[.slice A n c] w fun e w' => e = .returned (.agg (by8 (sha b)).toArray) ∧ Hp w [] [] w' := by
 subst hn
 refine calls_R (args := [.slice A b.length c]) Try.func57 rfl Try.ntmps57 rfl ?_
 intro Q0 hRet hNor
 have H := Hp.start w
 refine RG.seqK fun K1 hK2 => ?_
 refine RG.region (by kernel_rfl) ?_
 obtain ⟨p3, w4, r5, H6⟩ := H.alloc (P := Try.prog) 24 (by8 (bsP (outB (blocks (padM b) ((padM b).length / 64))) 32 0)) (by kernel_rfl)
 refine RL.sem (j := 1) (r5) [0, 2] [(0, .slice A b.length c), (2, pt p3 0)] (by kernel_rfl) (by kernel_rfl) rfl ?_
 refine RL.k rfl hK2 (fun _ _ h => h) ?_
 refine RG.seqK fun K7 hK8 => ?_
 refine RG.region (by kernel_rfl) ?_
 refine RL.run (j := 1) 1 [0, 2, 9] [(0, .slice A b.length c), (2, pt p3 0), (9, .agg #[lw 1779033703, lw 3144134277, lw 1013904242, lw 2773480762, lw 1359893119, lw 2600822924, lw 528734635, lw 1541459225])] (by kernel_rfl) rfl ?_
 obtain ⟨p9, w10, r11, H12⟩ := H6.alloc (P := Try.prog) 106 [lw 0, lw 0, lw 0, lw 0, lw 0, lw 0, lw 0, lw 0] (by kernel_rfl)
 refine RL.sem (j := 2) (r11) [0, 2, 3, 9] [(0, .slice A b.length c), (2, pt p3 0), (3, pt p9 0), (9, .agg #[lw 1779033703, lw 3144134277, lw 1013904242, lw 2773480762, lw 1359893119, lw 2600822924, lw 528734635, lw 1541459225])] (by kernel_rfl) (by kernel_rfl) rfl ?_
 obtain ⟨w13, r14, H15⟩ := H12.stA (P := Try.prog) (o := 0) (vs := [lw 1779033703, lw 3144134277, lw 1013904242, lw 2773480762, lw 1359893119, lw 2600822924, lw 528734635, lw 1541459225]) (ty := 106) (m := 8) 1 rfl (by kernel_rfl) rfl (by simp) (by simp [Value.oneCell'])
 refine RL.semU (j := 3) r14 [0, 2, 3] [(0, .slice A b.length c), (2, pt p3 0), (3, pt p9 0)] (by kernel_rfl) rfl rfl rfl ?_
 refine RL.k rfl hK8 (fun _ _ h => h) ?_
 refine RG.seqK fun K16 hK17 => ?_
 refine RG.region (by kernel_rfl) ?_
 refine RL.run (j := 1) 1 [0, 2, 3, 10] [(0, .slice A b.length c), (2, pt p3 0), (3, pt p9 0), (10, .slice A b.length c)] (by kernel_rfl) rfl ?_
 refine RL.call (j := 2) (Clone_calls b A b.length c w13 (hx.hp H15) (rfl) (by omega)) (by kernel_rfl) rfl (fun e_ w22 hR => ?_)
 obtain ⟨A18, c19, rfl, H21⟩ := hR
 have H20 : Hp w [] [.blk p3 (by8 (bsP (outB (blocks (padM b) ((padM b).length / 64))) 32 0)) 24, .blk p9 [lw 1779033703, lw 3144134277, lw 1013904242, lw 2773480762, lw 1359893119, lw 2600822924, lw 528734635, lw 1541459225] 106, .row A18 b.length c19 5 1 (by8 b)] w22 := H15.callNew H21
 refine ⟨_, rfl, [0, 2, 3, 11], [(0, .slice A b.length c), (2, pt p3 0), (3, pt p9 0), (11, .slice A18 b.length c19)], by kernel_rfl, ?_⟩
 obtain ⟨p23, w24, r25, H26⟩ := H20.madeRow (P := Try.prog) (Instr.buildSlice 28 1 #[(0, lb 128)]) (fun b_ => .slice (some ⟨b_, 0, none⟩) 1 1) [lb 128] 5 1 1 1 (by kernel_rfl) (by decide) (by decide) rfl
 refine RL.sem (j := 3) (r25) [0, 2, 3, 11, 12] [(0, .slice A b.length c), (2, pt p3 0), (3, pt p9 0), (11, .slice A18 b.length c19), (12, .slice (some ⟨p23, 0, none⟩) 1 1)] (by kernel_rfl) (by kernel_rfl) rfl ?_
 obtain ⟨A27, c28, w29, r30, H31⟩ := H26.append (P := Try.prog) (e := 5) (sz := 1) (by_ := 1) (n := b.length) (c := c19) (m := 1) (d := 1) (t := 28) (ty := 28) (xs := by8 b) (news := by8 ([128] : List UInt8)) 2 rfl (by kernel_rfl) (H26.rdRow 3 rfl) (by first | (simp [by8_length]; done) | (rw [by8_length]; omega) | (rw [by8_length, putB_length])) (by8_one _) (by omega) (by simp only [maxLen]; omega)
 rw [← by8_append] at H31
 refine RL.sem (j := 4) (r30) [0, 2, 3, 13] [(0, .slice A b.length c), (2, pt p3 0), (3, pt p9 0), (13, .slice A27 (b.length + 1) c28)] (by kernel_rfl) (by kernel_rfl) rfl ?_
 refine RL.run (j := 5) 1 [0, 2, 3, 4] [(0, .slice A b.length c), (2, pt p3 0), (3, pt p9 0), (4, .slice A27 (b.length + 1) c28)] (by kernel_rfl) rfl ?_
 refine RL.k rfl hK17 (fun _ _ h => h) ?_
 refine RG.seqK fun K32 hK33 => ?_
 refine RG.block ?_
 have H34 : Hp w [] [.blk p3 (by8 (bsP (outB (blocks (padM b) ((padM b).length / 64))) 32 0)) 24, .blk p9 [lw 1779033703, lw 3144134277, lw 1013904242, lw 2773480762, lw 1359893119, lw 2600822924, lw 528734635, lw 1541459225] 106, .row A27 (b.length + 1 + 0) c28 5 1 (by8 (b ++ [128] ++ List.replicate 0 0)), .row (some ⟨p23, 0, none⟩) 1 1 5 1 (by8 ([128] : List UInt8))] w29 := by rw [show List.replicate 0 (0 : UInt8) = [] from rfl, List.append_nil]; exact H31
 refine RG.fit [0, 2, 3, 4] (M' := [(0, .slice A b.length c), (2, pt p3 0), (3, pt p9 0), (4, .slice A27 (b.length + 1 + 0) c28)]) (by kernel_rfl) ?_
 refine RG.loop (X := Nat × Option Addr × Nat) (fun ⟨j, B_, C_⟩ => [(0, .slice A b.length c), (2, pt p3 0), (3, pt p9 0), (4, .slice B_ (b.length + 1 + j) C_)]) (fun ⟨j, B_, C_⟩ w_ => (j ≤ padZ b.length) ∧ Hp w [] [.blk p3 (by8 (bsP (outB (blocks (padM b) ((padM b).length / 64))) 32 0)) 24, .blk p9 [lw 1779033703, lw 3144134277, lw 1013904242, lw 2773480762, lw 1359893119, lw 2600822924, lw 528734635, lw 1541459225] 106, .row B_ (b.length + 1 + j) C_ 5 1 (by8 (b ++ [128] ++ List.replicate j 0)), .row (some ⟨p23, 0, none⟩) 1 1 5 1 (by8 ([128] : List UInt8))] w_) (fun ⟨j, B_, C_⟩ => padZ b.length - j) ⟨0, A27, c28⟩ [0, 2, 3, 4] (by kernel_rfl) ⟨by omega, H34⟩ ?_
 rintro ⟨j, B_, C_⟩ w35 ⟨hi36, H37⟩
 refine RG.eq (M' := [(0, .slice A b.length c), (2, pt p3 0), (3, pt p9 0), (4, .slice B_ (b.length + 1 + j) C_)]) rfl ?_
 have hj := hi36
 have hz : padZ b.length = (119 - b.length % 64) % 64 := rfl
 refine RG.seqK fun K38 hK39 => ?_
 refine RG.seqK fun K40 hK41 => ?_
 refine RG.region (by kernel_rfl) ?_
 refine RL.run (j := 4) 4 [0, 2, 3, 4, 17] [(0, .slice A b.length c), (2, pt p3 0), (3, pt p9 0), (4, .slice B_ (b.length + 1 + j) C_), (17, .bool ((Int.tmod (((b.length + 1 + j) : Nat) : Int) 64) != 56))] (by kernel_rfl) rfl ?_
 have e42 : (Int.tmod (((b.length + 1 + j) : Nat) : Int) 64) = (((b.length + 1 + j) % 64 : Nat) : Int) := n_rem _ 64
 rw [e42]
 clear e42
 refine RL.k rfl hK41 (fun _ _ h => h) ?_
 cases hb43 : ((((b.length + 1 + j) % 64 : Nat) : Int) != 56)
 · skip
   have hb43f : (((b.length + 1 + j) % 64 : Nat) : Int) = 56 := bne_eq_false_iff_eq.1 hb43
   refine RG.no rfl ?_
   refine RG.exitK hK33 (fun _ _ h => h) ?_
   refine RG.seqK fun K44 hK45 => ?_
   refine RG.seqK fun K46 hK47 => ?_
   refine RG.region (by kernel_rfl) ?_
   refine RL.run (j := 1) 1 [0, 2, 3, 4, 5] [(0, .slice A b.length c), (2, pt p3 0), (3, pt p9 0), (4, .slice B_ (b.length + 1 + j) C_), (5, li 56)] (by kernel_rfl) rfl ?_
   refine RL.k rfl hK47 (fun _ _ h => h) ?_
   refine RG.block ?_
   obtain rfl : j = padZ b.length := by omega
   have H48 : Hp w [] [.blk p3 (by8 (bsP (outB (blocks (padM b) ((padM b).length / 64))) 32 0)) 24, .blk p9 [lw 1779033703, lw 3144134277, lw 1013904242, lw 2773480762, lw 1359893119, lw 2600822924, lw 528734635, lw 1541459225] 106, .row B_ (b.length + 1 + padZ b.length + 0) C_ 5 1 (by8 ((b ++ [128] ++ List.replicate (padZ b.length) 0) ++ lenB b.length 0)), .row (some ⟨p23, 0, none⟩) 1 1 5 1 (by8 ([128] : List UInt8))] w35 := by rw [show lenB b.length 0 = [] from rfl, List.append_nil]; exact H37
   refine RG.fit [0, 2, 3, 4, 5] (M' := [(0, .slice A b.length c), (2, pt p3 0), (3, pt p9 0), (4, .slice B_ (b.length + 1 + padZ b.length + 0) C_), (5, li 56)]) (by kernel_rfl) ?_
   refine RG.eq (M' := [(0, .slice A b.length c), (2, pt p3 0), (3, pt p9 0), (4, .slice B_ (b.length + 1 + padZ b.length + 0) C_), (5, li (56 - 8 * ((0 : Nat) : Int)))]) (by rfl) ?_
   refine RG.loop (X := Nat × Option Addr × Nat) (fun ⟨k, B_, C_⟩ => [(0, .slice A b.length c), (2, pt p3 0), (3, pt p9 0), (4, .slice B_ (b.length + 1 + padZ b.length + k) C_), (5, li (56 - 8 * (k : Int)))]) (fun ⟨k, B_, C_⟩ w_ => (k ≤ 8) ∧ Hp w [] [.blk p3 (by8 (bsP (outB (blocks (padM b) ((padM b).length / 64))) 32 0)) 24, .blk p9 [lw 1779033703, lw 3144134277, lw 1013904242, lw 2773480762, lw 1359893119, lw 2600822924, lw 528734635, lw 1541459225] 106, .row B_ (b.length + 1 + padZ b.length + k) C_ 5 1 (by8 ((b ++ [128] ++ List.replicate (padZ b.length) 0) ++ lenB b.length k)), .row (some ⟨p23, 0, none⟩) 1 1 5 1 (by8 ([128] : List UInt8))] w_) (fun ⟨k, B_, C_⟩ => 8 - k) ⟨0, B_, C_⟩ [0, 2, 3, 4, 5] (by kernel_rfl) ⟨by omega, H48⟩ ?_
   rintro ⟨k, B_, C_⟩ w49 ⟨hi50, H51⟩
   refine RG.eq (M' := [(0, .slice A b.length c), (2, pt p3 0), (3, pt p9 0), (4, .slice B_ (b.length + 1 + padZ b.length + k) C_), (5, li (56 - 8 * (k : Int)))]) rfl ?_
   have hk8 := hi50
   refine RG.seqK fun K52 hK53 => ?_
   refine RG.seqK fun K54 hK55 => ?_
   refine RG.region (by kernel_rfl) ?_
   refine RL.run (j := 2) 2 [0, 2, 3, 4, 5, 22] [(0, .slice A b.length c), (2, pt p3 0), (3, pt p9 0), (4, .slice B_ (b.length + 1 + padZ b.length + k) C_), (5, li (56 - 8 * (k : Int))), (22, .bool (decide (0 ≤ (56 - 8 * (k : Int)))))] (by kernel_rfl) rfl ?_
   refine RL.k rfl hK55 (fun _ _ h => h) ?_
   cases hb56 : (decide (0 ≤ (56 - 8 * (k : Int))))
   · skip
     have hb56f := of_decide_eq_false hb56
     refine RG.no rfl ?_
     refine RG.exitK hK45 (fun _ _ h => h) ?_
     refine RG.seqK fun K57 hK58 => ?_
     refine RG.seqK fun K59 hK60 => ?_
     refine RG.region (by kernel_rfl) ?_
     refine RL.run (j := 1) 1 [2, 3, 35] [(2, pt p3 0), (3, pt p9 0), (35, .slice B_ (b.length + 1 + padZ b.length + k) C_)] (by kernel_rfl) rfl ?_
     refine RL.call (j := 2) (Chunk_calls B_ (b.length + 1 + padZ b.length + k) C_ w49) (by kernel_rfl) rfl (fun e_ w65 hR => ?_)
     obtain ⟨B61, D62, rfl, H64⟩ := hR
     have H63 : Hp w [] [.blk p3 (by8 (bsP (outB (blocks (padM b) ((padM b).length / 64))) 32 0)) 24, .blk p9 [lw 1779033703, lw 3144134277, lw 1013904242, lw 2773480762, lw 1359893119, lw 2600822924, lw 528734635, lw 1541459225] 106, .row B_ (b.length + 1 + padZ b.length + k) C_ 5 1 (by8 ((b ++ [128] ++ List.replicate (padZ b.length) 0) ++ lenB b.length k)), .row (some ⟨p23, 0, none⟩) 1 1 5 1 (by8 ([128] : List UInt8)), .blk B61 [.slice B_ (b.length + 1 + padZ b.length + k) C_] 28, .blk D62 [li 64] 3] w65 := H51.callNew H64
     refine ⟨_, rfl, [2, 3, 36], [(2, pt p3 0), (3, pt p9 0), (36, .func (.func 72) #[] #[pt B61 0, pt D62 0])], by kernel_rfl, ?_⟩
     refine RL.k rfl hK60 (fun _ _ h => h) ?_
     refine RG.block ?_
     obtain rfl : k = 8 := by omega
     have H66 : Hp w [] [.blk p3 (by8 (bsP (outB (blocks (padM b) ((padM b).length / 64))) 32 0)) 24, .blk p9 (v8c (blocks (padM b) 0)) 106, .row B_ (b.length + 1 + padZ b.length + 8) C_ 5 1 (by8 (padM b)), .row (some ⟨p23, 0, none⟩) 1 1 5 1 (by8 ([128] : List UInt8)), .blk B61 [.slice B_ (b.length + 1 + padZ b.length + 8) C_] 28, .blk D62 [li 64] 3] w65 := H63
     have hMp : (padM b).length = b.length + 1 + padZ b.length + 8 := by unfold padM; simp only [List.length_append, List.length_replicate, lenB_length, List.length_cons, List.length_nil]
     have hML : b.length + 1 + padZ b.length + 8 = 64 * ((padM b).length / 64) := by have e1 := padM_length b; omega
     have hMc := (H66.rowLe 2 rfl).1
     have hz2 : padZ b.length < 64 := Nat.mod_lt _ (by decide)
     refine RG.fit [2, 3, 36] (M' := [(2, pt p3 0), (3, pt p9 0), (36, .func (.func 72) #[] #[pt B61 0, pt D62 0])]) (by kernel_rfl) ?_
     refine RG.range H66 (gf := 72) (lb := #[pt B61 0, pt D62 0]) rfl (enters_of Try.func72 (by kernel_rfl) rfl) (Xt := Unit) (fun k u_ => True) (fun k u_ => [.blk p3 (by8 (bsP (outB (blocks (padM b) ((padM b).length / 64))) 32 0)) 24, .blk p9 (v8c (blocks (padM b) k)) 106, .row B_ (b.length + 1 + padZ b.length + 8) C_ 5 1 (by8 (padM b)), .row (some ⟨p23, 0, none⟩) 1 1 5 1 (by8 ([128] : List UInt8)), .blk B61 [.slice B_ (b.length + 1 + padZ b.length + 8) C_] 28, .blk D62 [li 64] 3]) (fun u_ => False) (fun u_ => []) (N := ((padM b).length / 64)) (enc := fun k => #[.slice (Option.map (fun x => Addr.add x (64 * k)) B_) 64 64]) (Chunk_iter ((padM b).length / 64) (b.length + 1 + padZ b.length + 8) hML (by omega) B_ C_ hMc B61 D62) (fun _ => rfl) () trivial rfl (fun k u E W hx HW => ⟨(HW.blkAt 4 rfl).cell 0, (HW.blkAt 5 rfl).cell 0⟩) (fun k => [(37, .slice (Option.map (fun x => Addr.add x (64 * k)) B_) 64 64), (2, pt p3 0), (3, pt p9 0), (36, .func (.func 72) #[] #[pt B61 0, pt D62 0])]) (fun _ => rfl) ?_ ?_ ?_
     · skip
       rintro D70 l71 oR72 oB73 k u_ w67 K74 hk75 hx68 H69 hK76
       have hk9 := hk75
       refine RG.region (by kernel_rfl) ?_
       refine RL.run (j := 1) 1 [3, 6] [(3, pt p9 0), (6, .slice (Option.map (fun x => Addr.add x (64 * k)) B_) 64 64)] (by kernel_rfl) rfl ?_
       refine RL.done rfl (fun F_ hF_ hM_ => hK76 F_ _ [.blk p3 (by8 (bsP (outB (blocks (padM b) ((padM b).length / 64))) 32 0)) 24, .blk p9 (v8c (blocks (padM b) k)) 106, .row B_ (b.length + 1 + padZ b.length + 8) C_ 5 1 (by8 (padM b)), .row (some ⟨p23, 0, none⟩) 1 1 5 1 (by8 ([128] : List UInt8)), .blk B61 [.slice B_ (b.length + 1 + padZ b.length + 8) C_] 28, .blk D62 [li 64] 3] _ hF_ hM_ H69 ?_)
       intro w77 H78
       refine RG.block ?_
       refine RG.region (by kernel_rfl) ?_
       refine RL.run (j := 1) 1 [3, 38] [(3, pt p9 0), (38, .slice (Option.map (fun x => Addr.add x (64 * k)) B_) 64 64)] (by kernel_rfl) rfl ?_
       have H79 := (Hp.reorder (L' := [.blk p9 (v8c (blocks (padM b) k)) 106, .blk p3 (by8 (bsP (outB (blocks (padM b) ((padM b).length / 64))) 32 0)) 24, .row B_ (b.length + 1 + padZ b.length + 8) C_ 5 1 (by8 (padM b)), .row (some ⟨p23, 0, none⟩) 1 1 5 1 (by8 ([128] : List UInt8)), .blk B61 [.slice B_ (b.length + 1 + padZ b.length + 8) C_] 28, .blk D62 [li 64] 3, .obj D70 DF, .obj l71 oB73]) H78 (List.Perm.trans (List.Perm.swap _ _ _) (List.Perm.refl _)))
       refine RL.call (j := 2) (Block_calls (ids [.blk p9 (v8c (blocks (padM b) k)) 106]) p9 (Option.map (fun x => Addr.add x (64 * k)) B_) 64 ((List.drop (64 * k) (padM b)).take 64) (blocks (padM b) k) w77 (Hp.startL (A := [.blk p9 (v8c (blocks (padM b) k)) 106]) (B := [.blk p3 (by8 (bsP (outB (blocks (padM b) ((padM b).length / 64))) 32 0)) 24, .row B_ (b.length + 1 + padZ b.length + 8) C_ 5 1 (by8 (padM b)), .row (some ⟨p23, 0, none⟩) 1 1 5 1 (by8 ([128] : List UInt8)), .blk B61 [.slice B_ (b.length + 1 + padZ b.length + 8) C_] 28, .blk D62 [li 64] 3, .obj D70 DF, .obj l71 oB73]) H79) (ok8_blocks _ _) (RdO.chunk (RdO.row (A' := [.blk p9 (v8c (blocks (padM b) k)) 106]) (B' := [.blk p3 (by8 (bsP (outB (blocks (padM b) ((padM b).length / 64))) 32 0)) 24, .row B_ (b.length + 1 + padZ b.length + 8) C_ 5 1 (by8 (padM b)), .row (some ⟨p23, 0, none⟩) 1 1 5 1 (by8 ([128] : List UInt8)), .blk B61 [.slice B_ (b.length + 1 + padZ b.length + 8) C_] 28, .blk D62 [li 64] 3, .obj D70 DF, .obj l71 oB73]) H79 1 rfl) (64 * k) 64 (by omega)) (by rw [List.length_take, List.length_drop]; omega) (Nat.le_refl _)) (by kernel_rfl) rfl (fun e_ w80 hR => ?_)
       obtain ⟨rfl, H82⟩ := hR
       have H81 : Hp w [] [.blk p9 (v8c (blocks (padM b) (k + 1))) 106, .blk p3 (by8 (bsP (outB (blocks (padM b) ((padM b).length / 64))) 32 0)) 24, .row B_ (b.length + 1 + padZ b.length + 8) C_ 5 1 (by8 (padM b)), .row (some ⟨p23, 0, none⟩) 1 1 5 1 (by8 ([128] : List UInt8)), .blk B61 [.slice B_ (b.length + 1 + padZ b.length + 8) C_] 28, .blk D62 [li 64] 3, .obj D70 DF, .obj l71 oB73] w80 := Hp.callL (A := [.blk p9 (v8c (blocks (padM b) k)) 106]) (B := [.blk p3 (by8 (bsP (outB (blocks (padM b) ((padM b).length / 64))) 32 0)) 24, .row B_ (b.length + 1 + padZ b.length + 8) C_ 5 1 (by8 (padM b)), .row (some ⟨p23, 0, none⟩) 1 1 5 1 (by8 ([128] : List UInt8)), .blk B61 [.slice B_ (b.length + 1 + padZ b.length + 8) C_] 28, .blk D62 [li 64] 3, .obj D70 DF, .obj l71 oB73]) H79 H82
       refine ⟨_, rfl, [], [], by kernel_rfl, ?_⟩
       have H83 := (Hp.reorder (L' := [.blk p3 (by8 (bsP (outB (blocks (padM b) ((padM b).length / 64))) 32 0)) 24, .blk p9 (v8c (blocks (padM b) (k + 1))) 106, .row B_ (b.length + 1 + padZ b.length + 8) C_ 5 1 (by8 (padM b)), .row (some ⟨p23, 0, none⟩) 1 1 5 1 (by8 ([128] : List UInt8)), .blk B61 [.slice B_ (b.length + 1 + padZ b.length + 8) C_] 28, .blk D62 [li 64] 3, .obj D70 DF, .obj l71 oB73]) H81 (List.Perm.trans (List.Perm.swap _ _ _) (List.Perm.refl _)))
       exact RL.done rfl (fun F_ hF_ hM_ => ⟨(), trivial, H83⟩)
     · skip
       rintro D87 u_ w84 hx85 H86
       refine RG.kk hK58 (fun _ _ h => h) ?_
       refine RG.seqK fun K88 hK89 => ?_
       refine RG.region (by kernel_rfl) ?_
       obtain ⟨p90, w91, r92, H93⟩ := H86.alloc (P := Try.prog) 24 (by8 (bsP (outB (blocks (padM b) ((padM b).length / 64))) 32 0)) (by kernel_rfl)
       refine RL.sem (j := 1) (r92) [2, 3, 7] [(2, pt p3 0), (3, pt p9 0), (7, pt p90 0)] (by kernel_rfl) (by kernel_rfl) rfl ?_
       refine RL.k rfl hK89 (fun _ _ h => h) ?_
       refine RG.seqK fun K94 hK95 => ?_
       refine RG.seqK fun K96 hK97 => ?_
       refine RG.region (by kernel_rfl) ?_
       refine RL.run (j := 1) 1 [2, 3, 7, 40] [(2, pt p3 0), (3, pt p9 0), (7, pt p90 0), (40, li 0)] (by kernel_rfl) rfl ?_
       refine RL.k rfl hK97 (fun _ _ h => h) ?_
       refine RG.block ?_
       refine RG.fit [2, 3, 7, 40] (M' := [(2, pt p3 0), (3, pt p9 0), (7, pt p90 0), (40, li 0)]) (by kernel_rfl) ?_
       refine RG.loop (X := Nat) (fun i => [(2, pt p3 0), (3, pt p9 0), (7, pt p90 0), (40, vi i)]) (fun i w_ => (i ≤ 32) ∧ Hp w [] [.blk p3 (by8 (bsP (outB (blocks (padM b) ((padM b).length / 64))) 32 0)) 24, .blk p9 (v8c (blocks (padM b) ((padM b).length / 64))) 106, .row B_ (b.length + 1 + padZ b.length + 8) C_ 5 1 (by8 (padM b)), .row (some ⟨p23, 0, none⟩) 1 1 5 1 (by8 ([128] : List UInt8)), .blk B61 [.slice B_ (b.length + 1 + padZ b.length + 8) C_] 28, .blk D62 [li 64] 3, .obj D87 DF, .blk p90 (by8 (bsP (outB (blocks (padM b) ((padM b).length / 64))) 32 i)) 24] w_) (fun i => 32 - i) 0 [2, 3, 7, 40] (by kernel_rfl) ⟨by omega, H93⟩ ?_
       rintro i w98 ⟨hi99, H100⟩
       refine RG.eq (M' := [(2, pt p3 0), (3, pt p9 0), (7, pt p90 0), (40, vi i)]) rfl ?_
       have hi32 := hi99
       refine RG.seqK fun K101 hK102 => ?_
       refine RG.region (by kernel_rfl) ?_
       refine RL.run (j := 1) 1 [2, 3, 7, 40, 41] [(2, pt p3 0), (3, pt p9 0), (7, pt p90 0), (40, vi i), (41, .bool (decide ((i : Int) < 32)))] (by kernel_rfl) rfl ?_
       refine RL.k rfl hK102 (fun _ _ h => h) ?_
       refine RG.seqK fun K103 hK104 => ?_
       cases hb105 : (decide ((i : Int) < 32))
       · skip
         have hb105f := of_decide_eq_false hb105
         refine RG.no rfl ?_
         refine RG.exitK hK95 (fun _ _ h => h) ?_
         refine RG.seqK fun K106 hK107 => ?_
         refine RG.region (by kernel_rfl) ?_
         refine RL.sem (j := 1) (H100.ldA (o := 0) (ty := 24) (m := 32) (sub := by8 (bsP (outB (blocks (padM b) ((padM b).length / 64))) 32 i)) 7 rfl (by kernel_rfl) (sub_whole (by rw [by8_length, bsP_length (by omega)])) (by rw [by8_length, bsP_length (by omega)])) [2, 56] [(2, pt p3 0), (56, .agg (by8 (bsP (outB (blocks (padM b) ((padM b).length / 64))) 32 i)).toArray)] (by kernel_rfl) (by kernel_rfl) rfl ?_
         obtain ⟨w108, r109, H110⟩ := H100.stA (P := Try.prog) (o := 0) (vs := by8 (bsP (outB (blocks (padM b) ((padM b).length / 64))) 32 i)) (ty := 24) (m := 32) 0 rfl (by kernel_rfl) (by rw [by8_length, bsP_length (by omega)]) (Nat.le_of_eq (by rw [Nat.zero_add]; exact ((show (by8 (bsP (outB (blocks (padM b) ((padM b).length / 64))) 32 0)).length = 32 from by rw [by8_length, bsP_length (by omega)])).symm)) (by8_one _)
         rw [st_whole (by rw [by8_length, bsP_length (by omega)])] at H110
         refine RL.semU (j := 2) r109 [2] [(2, pt p3 0)] (by kernel_rfl) rfl rfl rfl ?_
         refine RL.k rfl hK107 (fun _ _ h => h) ?_
         refine RG.ret ?_
         have hD111 := H110.objAt 6 rfl
         have H112 : Hp w [] [.blk p3 (by8 (bsP (outB (blocks (padM b) ((padM b).length / 64))) 32 i)) 24, .blk p9 (v8c (blocks (padM b) ((padM b).length / 64))) 106, .row B_ (b.length + 1 + padZ b.length + 8) C_ 5 1 (by8 (padM b)), .row (some ⟨p23, 0, none⟩) 1 1 5 1 (by8 ([128] : List UInt8)), .blk B61 [.slice B_ (b.length + 1 + padZ b.length + 8) C_] 28, .blk D62 [li 64] 3, .obj D87 (.deferred none), .blk p90 (by8 (bsP (outB (blocks (padM b) ((padM b).length / 64))) 32 i)) 24] (World.putObj w108 D87 (.deferred none)) := H110.putObj 6 (.deferred none) rfl
         intro F_ hF_ hM_
         refine hRet _ _ (postK_1 hD111 rfl (RV.cell rfl (H112.ldA (o := 0) (ty := 24) (m := 32) (sub := by8 (bsP (outB (blocks (padM b) ((padM b).length / 64))) 32 i)) 0 rfl (by kernel_rfl) (sub_whole (by rw [by8_length, bsP_length (by omega)])) (by rw [by8_length, bsP_length (by omega)]))) ?_ F_ hF_ hM_)
         rw [show i = 32 by omega, bsP_all]
         exact ⟨rfl, H112.sub (List.nil_sublist _)⟩
       · skip
         have hb105f := of_decide_eq_true hb105
         refine RG.yes rfl ?_
         refine RG.skipK hK104 (fun _ _ h => h) ?_
         refine RG.seqK fun K113 hK114 => ?_
         refine RG.block ?_
         refine RG.seqK fun K115 hK116 => ?_
         refine RG.region (by kernel_rfl) ?_
         refine RL.run (j := 2) 2 [2, 3, 7, 8, 40] [(2, pt p3 0), (3, pt p9 0), (7, pt p90 0), (8, vi i), (40, vi i)] (by kernel_rfl) rfl ?_
         refine RL.k rfl hK116 (fun _ _ h => h) ?_
         refine RG.region (by kernel_rfl) ?_
         refine RL.run (j := 3) 3 [2, 3, 7, 8, 40, 43, 45] [(2, pt p3 0), (3, pt p9 0), (7, pt p90 0), (8, vi i), (40, vi i), (43, vi i), (45, li (IntKind.i64.wrap (Int.tdiv (i : Int) 4)))] (by kernel_rfl) rfl ?_
         have e117 : (IntKind.i64.wrap (Int.tdiv (i : Int) 4)) = ((i / 4 : Nat) : Int) := i_quo 4 (by omega)
         rw [e117]
         clear e117
         refine RL.sem (j := 4) (run_idxArr (P := Try.prog) (k := .i64) (t := 106) (len := 8) (sz := 1) (b := p9) (o := 0) (j := i / 4) (by kernel_rfl) rfl (by omega)) [2, 3, 7, 8, 40, 43, 46] [(2, pt p3 0), (3, pt p9 0), (7, pt p90 0), (8, vi i), (40, vi i), (43, vi i), (46, pt p9 (0 + (i / 4) * 1))] (by kernel_rfl) (by kernel_rfl) rfl ?_
         refine RL.sem (j := 5) (H100.ld (o := (0 + (i / 4) * 1)) (ty := 22) (v := vw (at8 (blocks (padM b) ((padM b).length / 64)) (i / 4))) 1 rfl (by kernel_rfl) (by rw [show (0 + (i / 4) * 1) = (i / 4) by omega]; exact v8c_at (by omega))) [2, 3, 7, 8, 40, 43, 47] [(2, pt p3 0), (3, pt p9 0), (7, pt p90 0), (8, vi i), (40, vi i), (43, vi i), (47, vw (at8 (blocks (padM b) ((padM b).length / 64)) (i / 4)))] (by kernel_rfl) (by kernel_rfl) rfl ?_
         refine RL.run (j := 9) 4 [2, 3, 7, 40, 43, 47, 51] [(2, pt p3 0), (3, pt p9 0), (7, pt p90 0), (40, vi i), (43, vi i), (47, vw (at8 (blocks (padM b) ((padM b).length / 64)) (i / 4))), (51, li (IntKind.i64.wrap (24 - (IntKind.i64.wrap (8 * (Int.tmod (i : Int) 4))))))] (by kernel_rfl) rfl ?_
         have e118 : (Int.tmod (i : Int) 4) = ((i % 4 : Nat) : Int) := n_rem _ 4
         have e119 : (IntKind.i64.wrap (8 * ((i % 4 : Nat) : Int))) = ((8 * (i % 4) : Nat) : Int) := by rw [in_i64 (by omega)]; omega
         have e120 : (IntKind.i64.wrap (24 - ((8 * (i % 4) : Nat) : Int))) = (((24 - 8 * (i % 4)) : Nat) : Int) := by rw [in_i64 (by omega)]; omega
         rw [e118, e119, e120]
         clear e118 e119 e120
         refine RL.sem (j := 10) (run_shr32 (P := Try.prog) (k' := .i64) (t := 22) (a := (at8 (blocks (padM b) ((padM b).length / 64)) (i / 4))) (r := (24 - 8 * (i % 4))) (by omega) _) [2, 3, 7, 40, 43, 52] [(2, pt p3 0), (3, pt p9 0), (7, pt p90 0), (40, vi i), (43, vi i), (52, vw ((at8 (blocks (padM b) ((padM b).length / 64)) (i / 4)) / 2 ^ (24 - 8 * (i % 4))))] (by kernel_rfl) (by kernel_rfl) rfl ?_
         refine RL.run (j := 11) 1 [2, 3, 7, 40, 43, 53] [(2, pt p3 0), (3, pt p9 0), (7, pt p90 0), (40, vi i), (43, vi i), (53, lb (IntKind.u8.wrap ((((at8 (blocks (padM b) ((padM b).length / 64)) (i / 4)) / 2 ^ (24 - 8 * (i % 4))) : Nat) : Int)))] (by kernel_rfl) rfl ?_
         have e121 : (IntKind.u8.wrap ((((at8 (blocks (padM b) ((padM b).length / 64)) (i / 4)) / 2 ^ (24 - 8 * (i % 4))) : Nat) : Int)) = (((UInt8.ofNat ((at8 (blocks (padM b) ((padM b).length / 64)) (i / 4)) / 2 ^ (24 - 8 * (i % 4)))).toNat : Nat) : Int) := n_byte _
         rw [e121]
         clear e121
         refine RL.sem (j := 12) (run_idxArr (P := Try.prog) (k := .i64) (t := 24) (len := 32) (sz := 1) (b := p90) (o := 0) (j := i) (by kernel_rfl) rfl (by omega)) [2, 3, 7, 40, 53, 54] [(2, pt p3 0), (3, pt p9 0), (7, pt p90 0), (40, vi i), (53, lb (((UInt8.ofNat ((at8 (blocks (padM b) ((padM b).length / 64)) (i / 4)) / 2 ^ (24 - 8 * (i % 4)))).toNat : Nat) : Int)), (54, pt p90 (0 + i * 1))] (by kernel_rfl) (by kernel_rfl) rfl ?_
         obtain ⟨w122, r123, H124⟩ := H100.st (P := Try.prog) (o := (0 + i * 1)) (ty := 5) (v := .int .u8 (((UInt8.ofNat ((at8 (blocks (padM b) ((padM b).length / 64)) (i / 4)) / 2 ^ (24 - 8 * (i % 4)))).toNat : Nat) : Int)) 7 rfl (by kernel_rfl) (by rw [by8_length, bsP_length (by omega)]; omega) rfl
         rw [show (0 + i * 1) = i by omega, by8_set] at H124
         refine RL.semU (j := 13) r123 [2, 3, 7, 40] [(2, pt p3 0), (3, pt p9 0), (7, pt p90 0), (40, vi i)] (by kernel_rfl) rfl rfl rfl ?_
         refine RL.k rfl hK114 (fun _ _ h => h) ?_
         refine RG.region (by kernel_rfl) ?_
         refine RL.run (j := 2) 2 [2, 3, 7, 40] [(2, pt p3 0), (3, pt p9 0), (7, pt p90 0), (40, li (IntKind.i64.wrap ((i : Int) + 1)))] (by kernel_rfl) rfl ?_
         have e125 : (IntKind.i64.wrap ((i : Int) + 1)) = ((i + 1 : Nat) : Int) := by rw [in_i64 (by omega)]; omega
         rw [e125]
         clear e125
         have H126 : Hp w [] [.blk p3 (by8 (bsP (outB (blocks (padM b) ((padM b).length / 64))) 32 0)) 24, .blk p9 (v8c (blocks (padM b) ((padM b).length / 64))) 106, .row B_ (b.length + 1 + padZ b.length + 8) C_ 5 1 (by8 (padM b)), .row (some ⟨p23, 0, none⟩) 1 1 5 1 (by8 ([128] : List UInt8)), .blk B61 [.slice B_ (b.length + 1 + padZ b.length + 8) C_] 28, .blk D62 [li 64] 3, .obj D87 DF, .blk p90 (by8 (bsP (outB (blocks (padM b) ((padM b).length / 64))) 32 (i + 1))) 24] w122 := by rw [← bsP_set (F := outB (blocks (padM b) ((padM b).length / 64))) (n := 32) (i := i) (v := (UInt8.ofNat ((at8 (blocks (padM b) ((padM b).length / 64)) (i / 4)) / 2 ^ (24 - 8 * (i % 4))))) (by omega) rfl]; exact H124
         refine RL.fit (ts := [2, 3, 7, 40]) (M' := [(2, pt p3 0), (3, pt p9 0), (7, pt p90 0), (40, vi (i + 1))]) (by kernel_rfl) ?_
         refine RL.eq (M' := [(2, pt p3 0), (3, pt p9 0), (7, pt p90 0), (40, vi (i + 1))]) (by rfl) ?_
         exact RL.again (i + 1) [2, 3, 7, 40] rfl (by kernel_rfl) (by show 32 - (i + 1) < 32 - i; omega) ⟨by omega, H126⟩
     · skip
       rintro D130 u_ w127 hx128 H129
       exact hx128.elim
   · skip
     have hb56f := of_decide_eq_true hb56
     have ei : (56 - 8 * (k : Int)) = ((56 - 8 * k : Nat) : Int) := by omega
     refine RG.eq (M' := [(0, .slice A b.length c), (2, pt p3 0), (3, pt p9 0), (4, .slice B_ (b.length + 1 + padZ b.length + k) C_), (5, vi (56 - 8 * k)), (22, .bool true)]) (by rw [ei]) ?_
     refine RG.yes rfl ?_
     refine RG.skipK hK53 (fun _ _ h => h) ?_
     refine RG.seqK fun K131 hK132 => ?_
     refine RG.block ?_
     refine RG.region (by kernel_rfl) ?_
     refine RL.run (j := 6) 6 [0, 2, 3, 5, 25, 29, 30] [(0, .slice A b.length c), (2, pt p3 0), (3, pt p9 0), (5, vi (56 - 8 * k)), (25, .slice B_ (b.length + 1 + padZ b.length + k) C_), (29, lu (IntKind.u64.wrap ((IntKind.u64.wrap (b.length : Int)) * 2 ^ 3))), (30, vi (56 - 8 * k))] (by kernel_rfl) rfl ?_
     have e133 : (IntKind.u64.wrap (b.length : Int)) = ((b.length : Nat) : Int) := in_u64 (by omega)
     have e134 : (IntKind.u64.wrap (((b.length : Nat) : Int) * 2 ^ 3)) = (((b.length * 8) : Nat) : Int) := w_shl3 (by simp only [K]; omega)
     rw [e133, e134]
     clear e133 e134
     refine RL.sem (j := 7) (run_shr64 (P := Try.prog) (k' := .i64) (t := 31) (a := (b.length * 8)) (r := (56 - 8 * k)) (by omega) _) [0, 2, 3, 5, 25, 31] [(0, .slice A b.length c), (2, pt p3 0), (3, pt p9 0), (5, vi (56 - 8 * k)), (25, .slice B_ (b.length + 1 + padZ b.length + k) C_), (31, vu ((b.length * 8) / 2 ^ (56 - 8 * k)))] (by kernel_rfl) (by kernel_rfl) rfl ?_
     refine RL.run (j := 8) 1 [0, 2, 3, 5, 25, 32] [(0, .slice A b.length c), (2, pt p3 0), (3, pt p9 0), (5, vi (56 - 8 * k)), (25, .slice B_ (b.length + 1 + padZ b.length + k) C_), (32, lb (IntKind.u8.wrap ((((b.length * 8) / 2 ^ (56 - 8 * k)) : Nat) : Int)))] (by kernel_rfl) rfl ?_
     have e135 : (IntKind.u8.wrap ((((b.length * 8) / 2 ^ (56 - 8 * k)) : Nat) : Int)) = (((UInt8.ofNat ((b.length * 8) / 2 ^ (56 - 8 * k))).toNat : Nat) : Int) := n_byte _
     rw [e135]
     clear e135
     obtain ⟨p136, w137, r138, H139⟩ := H51.madeRow (P := Try.prog) (Instr.buildSlice 28 1 #[(0, lb (((UInt8.ofNat ((b.length * 8) / 2 ^ (56 - 8 * k))).toNat : Nat) : Int))]) (fun b_ => .slice (some ⟨b_, 0, none⟩) 1 1) [lb (((UInt8.ofNat ((b.length * 8) / 2 ^ (56 - 8 * k))).toNat : Nat) : Int)] 5 1 1 1 (by kernel_rfl) (by decide) (by decide) rfl
     refine RL.sem (j := 9) (r138) [0, 2, 3, 5, 25, 33] [(0, .slice A b.length c), (2, pt p3 0), (3, pt p9 0), (5, vi (56 - 8 * k)), (25, .slice B_ (b.length + 1 + padZ b.length + k) C_), (33, .slice (some ⟨p136, 0, none⟩) 1 1)] (by kernel_rfl) (by kernel_rfl) rfl ?_
     obtain ⟨A140, c141, w142, r143, H144⟩ := H139.append (P := Try.prog) (e := 5) (sz := 1) (by_ := 1) (n := (b.length + 1 + padZ b.length + k)) (c := C_) (m := 1) (d := 1) (t := 28) (ty := 28) (xs := by8 ((b ++ [128] ++ List.replicate (padZ b.length) 0) ++ lenB b.length k)) (news := by8 ([(UInt8.ofNat ((b.length * 8) / 2 ^ (56 - 8 * k)))] : List UInt8)) 2 rfl (by kernel_rfl) (H139.rdRow 4 rfl) (by first | (simp [by8_length]; done) | (rw [by8_length]; omega) | (rw [by8_length, putB_length])) (by8_one _) (by omega) (by simp only [maxLen]; omega)
     rw [← by8_append] at H144
     refine RL.sem (j := 10) (r143) [0, 2, 3, 5, 34] [(0, .slice A b.length c), (2, pt p3 0), (3, pt p9 0), (5, vi (56 - 8 * k)), (34, .slice A140 ((b.length + 1 + padZ b.length + k) + 1) c141)] (by kernel_rfl) (by kernel_rfl) rfl ?_
     refine RL.run (j := 11) 1 [0, 2, 3, 4, 5] [(0, .slice A b.length c), (2, pt p3 0), (3, pt p9 0), (4, .slice A140 ((b.length + 1 + padZ b.length + k) + 1) c141), (5, vi (56 - 8 * k))] (by kernel_rfl) rfl ?_
     refine RL.k rfl hK132 (fun _ _ h => h) ?_
     refine RG.region (by kernel_rfl) ?_
     refine RL.run (j := 3) 3 [0, 2, 3, 4, 5] [(0, .slice A b.length c), (2, pt p3 0), (3, pt p9 0), (4, .slice A140 ((b.length + 1 + padZ b.length + k) + 1) c141), (5, li (IntKind.i64.wrap ((((56 - 8 * k) : Nat) : Int) - 8)))] (by kernel_rfl) rfl ?_
     have e145 : (IntKind.i64.wrap ((((56 - 8 * k) : Nat) : Int) - 8)) = (48 - 8 * (k : Int)) := by rw [in_i64 (by omega)]; omega
     rw [e145]
     clear e145
     have H146 : Hp w [] [.blk p3 (by8 (bsP (outB (blocks (padM b) ((padM b).length / 64))) 32 0)) 24, .blk p9 [lw 1779033703, lw 3144134277, lw 1013904242, lw 2773480762, lw 1359893119, lw 2600822924, lw 528734635, lw 1541459225] 106, .row A140 ((b.length + 1 + padZ b.length + k) + 1) c141 5 1 (by8 (((b ++ [128] ++ List.replicate (padZ b.length) 0) ++ lenB b.length k) ++ ([(UInt8.ofNat ((b.length * 8) / 2 ^ (56 - 8 * k)))] : List UInt8))), .row (some ⟨p23, 0, none⟩) 1 1 5 1 (by8 ([128] : List UInt8))] w142 := H144.sub (List.Sublist.cons_cons _ (List.Sublist.cons_cons _ (List.Sublist.cons_cons _ (List.Sublist.cons_cons _ (List.Sublist.cons _ (List.Sublist.slnil))))))
     have H147 : Hp w [] [.blk p3 (by8 (bsP (outB (blocks (padM b) ((padM b).length / 64))) 32 0)) 24, .blk p9 [lw 1779033703, lw 3144134277, lw 1013904242, lw 2773480762, lw 1359893119, lw 2600822924, lw 528734635, lw 1541459225] 106, .row A140 (b.length + 1 + padZ b.length + (k + 1)) c141 5 1 (by8 ((b ++ [128] ++ List.replicate (padZ b.length) 0) ++ lenB b.length (k + 1))), .row (some ⟨p23, 0, none⟩) 1 1 5 1 (by8 ([128] : List UInt8))] w142 := by rw [lenB, ← List.append_assoc]; exact H146
     refine RL.fit (ts := [0, 2, 3, 4, 5]) (M' := [(0, .slice A b.length c), (2, pt p3 0), (3, pt p9 0), (4, .slice A140 ((b.length + 1 + padZ b.length + k) + 1) c141), (5, li (48 - 8 * (k : Int)))]) (by kernel_rfl) ?_
     refine RL.eq (M' := [(0, .slice A b.length c), (2, pt p3 0), (3, pt p9 0), (4, .slice A140 (b.length + 1 + padZ b.length + (k + 1)) c141), (5, li (56 - 8 * (((k + 1) : Nat) : Int)))]) (by first | (rw [show (48 - 8 * (k : Int)) = 56 - 8 * ((k + 1 : Nat) : Int) by omega]; done) | (rw [show (48 - 8 * (k : Int)) = 56 - 8 * ((k + 1 : Nat) : Int) by omega]; rfl)) ?_
     exact RL.again ⟨(k + 1), A140, c141⟩ [0, 2, 3, 4, 5] rfl (by kernel_rfl) (by show 8 - (k + 1) < 8 - k; omega) ⟨by omega, H147⟩
 · skip
   have hb43f : (((b.length + 1 + j) % 64 : Nat) : Int) ≠ 56 := bne_iff_ne.1 hb43
   refine RG.yes rfl ?_
   refine RG.skipK hK39 (fun _ _ h => h) ?_
   refine RG.block ?_
   refine RG.region (by kernel_rfl) ?_
   refine RL.run (j := 1) 1 [0, 2, 3, 18] [(0, .slice A b.length c), (2, pt p3 0), (3, pt p9 0), (18, .slice B_ (b.length + 1 + j) C_)] (by kernel_rfl) rfl ?_
   obtain ⟨p148, w149, r150, H151⟩ := H37.madeRow (P := Try.prog) (Instr.buildSlice 28 1 #[(0, lb 0)]) (fun b_ => .slice (some ⟨b_, 0, none⟩) 1 1) [lb 0] 5 1 1 1 (by kernel_rfl) (by decide) (by decide) rfl
   refine RL.sem (j := 2) (r150) [0, 2, 3, 18, 19] [(0, .slice A b.length c), (2, pt p3 0), (3, pt p9 0), (18, .slice B_ (b.length + 1 + j) C_), (19, .slice (some ⟨p148, 0, none⟩) 1 1)] (by kernel_rfl) (by kernel_rfl) rfl ?_
   obtain ⟨A152, c153, w154, r155, H156⟩ := H151.append (P := Try.prog) (e := 5) (sz := 1) (by_ := 1) (n := (b.length + 1 + j)) (c := C_) (m := 1) (d := 1) (t := 28) (ty := 28) (xs := by8 (b ++ [128] ++ List.replicate j 0)) (news := by8 ([0] : List UInt8)) 2 rfl (by kernel_rfl) (H151.rdRow 4 rfl) (by first | (simp [by8_length]; done) | (rw [by8_length]; omega) | (rw [by8_length, putB_length])) (by8_one _) (by omega) (by simp only [maxLen]; omega)
   rw [← by8_append] at H156
   refine RL.sem (j := 3) (r155) [0, 2, 3, 20] [(0, .slice A b.length c), (2, pt p3 0), (3, pt p9 0), (20, .slice A152 ((b.length + 1 + j) + 1) c153)] (by kernel_rfl) (by kernel_rfl) rfl ?_
   refine RL.run (j := 4) 1 [0, 2, 3, 4] [(0, .slice A b.length c), (2, pt p3 0), (3, pt p9 0), (4, .slice A152 ((b.length + 1 + j) + 1) c153)] (by kernel_rfl) rfl ?_
   have H157 : Hp w [] [.blk p3 (by8 (bsP (outB (blocks (padM b) ((padM b).length / 64))) 32 0)) 24, .blk p9 [lw 1779033703, lw 3144134277, lw 1013904242, lw 2773480762, lw 1359893119, lw 2600822924, lw 528734635, lw 1541459225] 106, .row A152 ((b.length + 1 + j) + 1) c153 5 1 (by8 ((b ++ [128] ++ List.replicate j 0) ++ ([0] : List UInt8))), .row (some ⟨p23, 0, none⟩) 1 1 5 1 (by8 ([128] : List UInt8))] w154 := H156.sub (List.Sublist.cons_cons _ (List.Sublist.cons_cons _ (List.Sublist.cons_cons _ (List.Sublist.cons_cons _ (List.Sublist.cons _ (List.Sublist.slnil))))))
   have H158 : Hp w [] [.blk p3 (by8 (bsP (outB (blocks (padM b) ((padM b).length / 64))) 32 0)) 24, .blk p9 [lw 1779033703, lw 3144134277, lw 1013904242, lw 2773480762, lw 1359893119, lw 2600822924, lw 528734635, lw 1541459225] 106, .row A152 (b.length + 1 + (j + 1)) c153 5 1 (by8 (b ++ [128] ++ List.replicate (j + 1) 0)), .row (some ⟨p23, 0, none⟩) 1 1 5 1 (by8 ([128] : List UInt8))] w154 := by rw [List.replicate_succ', ← List.append_assoc]; exact H157
   refine RL.fit (ts := [0, 2, 3, 4]) (M' := [(0, .slice A b.length c), (2, pt p3 0), (3, pt p9 0), (4, .slice A152 ((b.length + 1 + j) + 1) c153)]) (by kernel_rfl) ?_
   refine RL.eq (M' := [(0, .slice A b.length c), (2, pt p3 0), (3, pt p9 0), (4, .slice A152 (b.length + 1 + (j + 1)) c153)]) (by rfl) ?_
   exact RL.againB ⟨(j + 1), A152, c153⟩ [0, 2, 3, 4] rfl (by kernel_rfl) (by show padZ b.length - (j + 1) < padZ b.length - j; omega) ⟨by omega, H158⟩
end Go.Proofs.Ytdepaaphgfapjaa
namespace Go.Proofs.Ytdepaaphgfapjaa
open Go.RowKit
theorem Put4_calls (S : List Nat) (p : Nat) (A : Option Addr) (n c : Nat) (bs : List UInt8) (x : Nat) (w : World) (h0 : Hp w S [.blk p [.slice A n c] 57, .row A n c 5 1 (by8 bs)] w) (hn : n ≤ 1000000) : Calls Try.prog 22 #[pt p 0, .int .u64 (x : Int), .int .i64 4] w fun e w' => ∃ A c, e = .returned (.tuple #[]) ∧ Hp w S [.blk p [.slice A (n + 4) c] 57, .row A (n + 4) c 5 1 (by8 (bs ++ putB x 4))] w' := by
 refine calls_G (args := [pt p 0, vu x, li 4]) Try.func22 rfl Try.ntmps22 rfl ?_
 intro Q0 hRet hNor hPan
 have H := h0
 refine G.seqK fun K1 hK2 => ?_
 refine G.sr fun K3 hK4 => ?_
 refine GL.r 2 2 [(0, pt p 0), (1, vu x), (2, li 4), (7, .bool false)] ?_
 refine GL.q hK4 ?_
 refine G.no rfl ?_
 refine G.skipK hK2 (fun _ _ h => h) ?_
 refine G.sr fun K5 hK6 => ?_
 refine GL.r 1 1 [(0, pt p 0), (1, vu x), (2, li 4), (8, li 4)] ?_
 refine GL.q hK6 ?_
 refine G.block ?_
 refine G.seqK fun K7 hK8 => ?_
 refine G.sr fun K9 hK10 => ?_
 refine GL.r 2 2 [(0, pt p 0), (1, vu x), (2, li 4), (8, li 4), (9, .bool false)] ?_
 refine GL.q hK10 ?_
 refine G.no rfl ?_
 refine G.sr fun K11 hK12 => ?_
 refine GL.r 2 2 [(0, pt p 0), (1, vu x), (2, li 4), (8, li 4), (9, .bool false)] ?_
 refine GL.q hK12 ?_
 refine G.no rfl ?_
 refine G.sr fun K13 hK14 => ?_
 refine GL.r 2 2 [(0, pt p 0), (1, vu x), (2, li 4), (8, li 4), (9, .bool true)] ?_
 refine GL.q hK14 ?_
 refine G.yes rfl ?_
 refine G.skipK hK8 (fun _ _ h => h) ?_
 refine G.yes rfl ?_
 refine G.sr fun K15 hK16 => ?_
 refine GL.r 2 2 [(0, pt p 0), (1, vu x), (14, li 4), (15, li 0)] ?_
 refine GL.q hK16 ?_
 refine G.block ?_
 have H17 : Hp w S [.blk p [.slice A (n + 0) c] 57, .row A (n + 0) c 5 1 (by8 (bs ++ putB x 0))] w := by rw [show putB x 0 = [] from rfl, List.append_nil]; exact H
 refine G.fit [0, 1, 14, 15] (M' := [(0, pt p 0), (1, vu x), (14, li 4), (15, li 0)]) (by kernel_rfl) ?_
 refine G.eq (M' := [(0, pt p 0), (1, vu (x / 256 ^ 0)), (14, li 4), (15, li 0)]) (by simp only [Nat.pow_zero, Nat.div_one]) ?_
 refine G.loop (X := Nat × Option Addr × Nat) (fun ⟨i, B_, b_⟩ => [(0, pt p 0), (1, vu (x / 256 ^ i)), (14, li 4), (15, vi i)]) (fun ⟨i, B_, b_⟩ w_ => (i ≤ 4) ∧ Hp w S [.blk p [.slice B_ (n + i) b_] 57, .row B_ (n + i) b_ 5 1 (by8 (bs ++ putB x i))] w_) (fun ⟨i, B_, b_⟩ => 4 - i) ⟨0, A, c⟩ [0, 1, 14, 15] (by kernel_rfl) ⟨by omega, H17⟩ ?_
 rintro ⟨i, B_, b_⟩ w18 ⟨hi19, H20⟩
 refine G.eq (M' := [(0, pt p 0), (1, vu (x / 256 ^ i)), (14, li 4), (15, vi i)]) rfl ?_
 have hi9 := hi19
 refine G.sr fun K21 hK22 => ?_
 refine GL.r 1 1 [(0, pt p 0), (1, vu (x / 256 ^ i)), (14, li 4), (15, vi i), (16, .bool (decide ((i : Int) < 4)))] ?_
 refine GL.q hK22 ?_
 refine G.seqK fun K23 hK24 => ?_
 cases hb25 : (decide ((i : Int) < 4))
 · skip
   have hb25f := of_decide_eq_false hb25
   refine G.no rfl ?_
   refine fun F_ hF_ hM_ => wp_exit ?_
   refine hNor _ _ (bodyPost_0 rfl  ?_ F_ hF_ hM_)
   have HF := H20
   rw [show i = 4 by omega] at HF
   exact ⟨_, _, rfl, HF⟩
 · skip
   have hb25f := of_decide_eq_true hb25
   refine G.yes rfl ?_
   refine G.skipK hK24 (fun _ _ h => h) ?_
   refine G.seqK fun K26 hK27 => ?_
   refine G.block ?_
   refine G.sr fun K28 hK29 => ?_
   refine GL.r 4 4 [(0, pt p 0), (1, vu (x / 256 ^ i)), (14, li 4), (15, vi i), (17, pt p 0), (20, pt p 0)] ?_
   refine GL.s 5 (H20.ld (o := 0) (ty := 28) (v := .slice B_ (n + i) b_) 0 rfl (by kernel_rfl) rfl) [(0, pt p 0), (1, vu (x / 256 ^ i)), (14, li 4), (15, vi i), (17, pt p 0), (21, .slice B_ (n + i) b_)] ?_
   refine GL.r 7 2 [(0, pt p 0), (1, vu (x / 256 ^ i)), (14, li 4), (15, vi i), (17, pt p 0), (21, .slice B_ (n + i) b_), (23, lb (IntKind.u8.wrap ((x / 256 ^ i : Nat) : Int)))] ?_
   have e30 : (IntKind.u8.wrap ((x / 256 ^ i : Nat) : Int)) = ((UInt8.ofNat (x / 256 ^ i)).toNat : Int) := n_byte _
   rw [e30]
   clear e30
   obtain ⟨p31, w32, r33, H34⟩ := H20.made (P := Try.prog) (Instr.buildSlice 28 1 #[(0, lb ((UInt8.ofNat (x / 256 ^ i)).toNat : Int))]) (fun b_ => .slice (some ⟨b_, 0, none⟩) 1 1) [lb ((UInt8.ofNat (x / 256 ^ i)).toNat : Int)] 5 (by kernel_rfl)
   refine GL.s 8 (r33) [(0, pt p 0), (1, vu (x / 256 ^ i)), (14, li 4), (15, vi i), (17, pt p 0), (21, .slice B_ (n + i) b_), (24, .slice (some ⟨p31, 0, none⟩) 1 1)] ?_
   obtain ⟨A35, c36, w37, r38, H39⟩ := H34.append (P := Try.prog) (e := 5) (sz := 1) (by_ := 1) (n := (n + i)) (c := b_) (m := 1) (d := 1) (t := 28) (ty := 28) (xs := by8 (bs ++ putB x i)) (news := by8 ([(UInt8.ofNat (x / 256 ^ i))] : List UInt8)) 1 rfl (by kernel_rfl) (H34.rdBlk (o := 0) (xs := by8 ([(UInt8.ofNat (x / 256 ^ i))] : List UInt8)) 2 1 rfl rfl) (by first | (simp [by8_length]; done) | (rw [by8_length]; omega) | (rw [by8_length, putB_length])) (by8_one _) (by omega) (by simp only [maxLen]; omega)
   rw [← by8_append] at H39
   refine GL.s 9 (r38) [(0, pt p 0), (1, vu (x / 256 ^ i)), (14, li 4), (15, vi i), (17, pt p 0), (25, .slice A35 ((n + i) + 1) c36)] ?_
   refine GL.r 11 2 [(0, pt p 0), (1, vu (x / 256 ^ i)), (14, li 4), (15, vi i), (25, .slice A35 ((n + i) + 1) c36), (27, pt p 0)] ?_
   obtain ⟨w40, r41, H42⟩ := H39.st (P := Try.prog) (o := 0) (ty := 28) (v := .slice A35 ((n + i) + 1) c36) 0 rfl (by kernel_rfl) (by simp) rfl
   refine GL.u 12 r41 [(0, pt p 0), (1, vu (x / 256 ^ i)), (14, li 4), (15, vi i)] ?_
   refine GL.q hK29 ?_
   refine G.region ?_
   refine GL.r 3 3 [(0, pt p 0), (1, lu (Int.fdiv ((x / 256 ^ i : Nat) : Int) (2 ^ 8))), (14, li 4), (15, vi i)] ?_
   have e43 : (Int.fdiv ((x / 256 ^ i : Nat) : Int) (2 ^ 8)) = (((x / 256 ^ i) / 256 : Nat) : Int) := n_shr _ 8
   rw [e43]
   clear e43
   refine GL.q hK27 ?_
   refine G.region ?_
   refine GL.r 2 2 [(0, pt p 0), (1, vu ((x / 256 ^ i) / 256)), (14, li 4), (15, li (IntKind.i64.wrap ((i : Int) + 1)))] ?_
   have e44 : (IntKind.i64.wrap ((i : Int) + 1)) = ((i + 1 : Nat) : Int) := by rw [in_i64 (by omega)]; omega
   rw [e44]
   clear e44
   have H45 : Hp w S [.blk p [.slice A35 ((n + i) + 1) c36] 57, .row A35 ((n + i) + 1) c36 5 1 (by8 ((bs ++ putB x i) ++ ([(UInt8.ofNat (x / 256 ^ i))] : List UInt8)))] w40 := H42.sub (List.Sublist.cons_cons _ (List.Sublist.cons_cons _ (List.Sublist.cons _ (List.Sublist.slnil))))
   have H46 : Hp w S [.blk p [.slice A35 (n + (i + 1)) c36] 57, .row A35 (n + (i + 1)) c36 5 1 (by8 (bs ++ putB x (i + 1)))] w40 := by rw [putB_snoc, ← List.append_assoc]; exact H45
   refine GL.fit (ts := [0, 1, 14, 15]) (M' := [(0, pt p 0), (1, vu ((x / 256 ^ i) / 256)), (14, li 4), (15, vi (i + 1))]) (by kernel_rfl) ?_
   refine GL.eq (M' := [(0, pt p 0), (1, vu (x / 256 ^ (i + 1))), (14, li 4), (15, vi (i + 1))]) (by rw [Nat.pow_succ, ← Nat.div_div_eq_div_mul]) ?_
   exact GL.again ⟨(i + 1), A35, c36⟩ [0, 1, 14, 15] rfl (by kernel_rfl) (by show 4 - (i + 1) < 4 - i; omega) ⟨by omega, H46⟩
theorem WBytes_calls (S : List Nat) (p : Nat) (A : Option Addr) (n c : Nat) (bs : List UInt8) (w : World) (h0 : Hp w S [.blk p [.slice A n c] 57, .row A n c 5 1 (by8 bs)] w) (hn : n ≤ 1000000) : Calls Try.prog 24 #[pt p 0] w fun e w' => ∃ B b, e = .returned (.slice B n b) ∧ Hp w S [.blk p [.slice A n c] 57, .row A n c 5 1 (by8 bs), .row B n b 5 1 (by8 bs)] w' := by
 refine calls_G (args := [pt p 0]) Try.func24 rfl Try.ntmps24 rfl ?_
 intro Q0 hRet hNor hPan
 have H := h0
 refine G.sr fun K1 hK2 => ?_
 refine GL.r 1 1 [(0, pt p 0)] ?_
 refine GL.q hK2 ?_
 refine G.seqK fun K3 hK4 => ?_
 refine G.sr fun K5 hK6 => ?_
 refine GL.r 2 2 [(0, pt p 0), (4, .bool false)] ?_
 refine GL.q hK6 ?_
 refine G.no rfl ?_
 refine G.skipK hK4 (fun _ _ h => h) ?_
 refine G.sr fun K7 hK8 => ?_
 refine GL.r 3 3 [(7, pt p 0)] ?_
 refine GL.s 4 (H.ld (o := 0) (ty := 28) (v := .slice A n c) 0 rfl (by kernel_rfl) rfl) [(8, .slice A n c)] ?_
 have hl14 := (H.rowLe 1 rfl).2.1
 rw [by8_length, Nat.mul_one] at hl14
 refine GL.call (j := 5) (Clone_calls bs A n c w (H.rdRow 1 rfl) (by omega) (by omega)) (by kernel_rfl) rfl (fun e_ w13 hR => ?_)
 obtain ⟨A9, c10, rfl, H12⟩ := hR
 have H11 : Hp w S [.blk p [.slice A n c] 57, .row A n c 5 1 (by8 bs), .row A9 n c10 5 1 (by8 bs)] w13 := H.callNew H12
 refine ⟨_, rfl, [9], [(9, .slice A9 n c10)], by kernel_rfl, ?_⟩
 refine GL.r 6 1 [(2, .slice A9 n c10)] ?_
 refine GL.q hK8 ?_
 refine G.ret fun F_ hF_ hM_ => hRet _ _ (bodyPost_1 rfl (RV.tmp rfl) ?_ F_ hF_ hM_)
 exact ⟨_, _, rfl, H11⟩
theorem WRaw_calls (S : List Nat) (p : Nat) (A : Option Addr) (n c : Nat) (bs : List UInt8) (B : Option Addr) (m d : Nat) (ys : List UInt8) (w : World) (h0 : Hp w S [.blk p [.slice A n c] 57, .row A n c 5 1 (by8 bs)] w) (hn : n ≤ 1000000) (hx : RdO w S B (by8 ys)) (hm : m = ys.length) (hmb : m ≤ 100000) : Calls Try.prog 23 #[pt p 0, .slice B m d] w fun e w' => ∃ A c, e = .returned (.tuple #[]) ∧ Hp w S [.blk p [.slice A (n + m) c] 57, .row A (n + m) c 5 1 (by8 (bs ++ ys))] w' := by
 refine calls_G (args := [pt p 0, .slice B m d]) Try.func23 rfl Try.ntmps23 rfl ?_
 intro Q0 hRet hNor hPan
 have H := h0
 refine G.sr fun K1 hK2 => ?_
 refine GL.r 2 2 [(0, pt p 0), (1, .slice B m d), (5, .bool true)] ?_
 refine GL.q hK2 ?_
 refine G.yes rfl ?_
 refine G.region ?_
 refine GL.r 4 4 [(1, .slice B m d), (6, pt p 0), (9, pt p 0)] ?_
 refine GL.s 5 (H.ld (o := 0) (ty := 28) (v := .slice A n c) 0 rfl (by kernel_rfl) rfl) [(1, .slice B m d), (6, pt p 0), (10, .slice A n c)] ?_
 refine GL.r 6 1 [(6, pt p 0), (10, .slice A n c), (11, .slice B m d)] ?_
 obtain ⟨A3, c4, w5, r6, H7⟩ := H.append (P := Try.prog) (e := 5) (sz := 1) (by_ := 1) (n := n) (c := c) (m := m) (d := d) (t := 28) (ty := 28) (xs := by8 bs) (news := by8 ys) 1 rfl (by kernel_rfl) (hx.hp H) (by first | (simp [by8_length]; done) | (rw [by8_length]; omega) | (rw [by8_length, putB_length])) (by8_one _) (by omega) (by simp only [maxLen]; omega)
 rw [← by8_append] at H7
 refine GL.s 7 (r6) [(6, pt p 0), (12, .slice A3 (n + m) c4)] ?_
 refine GL.r 9 2 [(12, .slice A3 (n + m) c4), (14, pt p 0)] ?_
 obtain ⟨w8, r9, H10⟩ := H7.st (P := Try.prog) (o := 0) (ty := 28) (v := .slice A3 (n + m) c4) 0 rfl (by kernel_rfl) (by simp) rfl
 refine GL.u 10 r9 [] ?_
 refine GL.done rfl ?_
 intro F_ hF_ hM_
 refine hNor _ _ (bodyPost_0 rfl  ?_ F_ hF_ hM_)
 exact ⟨_, _, rfl, H10⟩
end Go.Proofs.Ytdepaaphgfapjaa
namespace Go.Proofs.Ytdepaaphgfapjaa
open Go.RowKit
theorem Double_calls (A : Option Addr) (n c : Nat) (b : List UInt8) (w : World) (hx : RdS w A (by8 b)) (hn : n = b.length) (hb : b.length ≤ 1000000) : Calls Try.prog 41 #[.slice A n c] w fun e w' => e = .returned (.agg (by8 (sha (sha b))).toArray) ∧ Hp w [] [] w' := by
 subst hn
 refine calls_G (args := [.slice A b.length c]) Try.func41 rfl Try.ntmps41 rfl ?_
 intro Q0 hRet hNor hPan
 have H := Hp.start w
 refine G.sr fun K1 hK2 => ?_
 obtain ⟨p3, w4, r5, H6⟩ := H.alloc (P := Try.prog) 24 (by8 (bsP (fun _ => 0) 32 0)) (by kernel_rfl)
 refine GL.s 1 (r5) [(0, .slice A b.length c), (2, pt p3 0)] ?_
 refine GL.q hK2 ?_
 refine G.sr fun K7 hK8 => ?_
 refine GL.r 1 1 [(2, pt p3 0), (4, .slice A b.length c)] ?_
 refine GL.call (j := 2) (Sum_calls A b.length c b w4 (hx.hp H6) (rfl) (by omega)) (by kernel_rfl) rfl (fun e_ w9 hR => ?_)
 obtain ⟨rfl, H11⟩ := hR
 have H10 : Hp w [] [.blk p3 (by8 (bsP (fun _ => 0) 32 0)) 24] w9 := H6.callNil H11
 refine ⟨_, rfl, [2, 5], [(2, pt p3 0), (5, .agg (by8 (sha b)).toArray)], by kernel_rfl, ?_⟩
 obtain ⟨p12, w13, r14, H15⟩ := H10.alloc (P := Try.prog) 24 (by8 (bsP (fun _ => 0) 32 0)) (by kernel_rfl)
 refine GL.s 3 (r14) [(2, pt p3 0), (3, pt p12 0), (5, .agg (by8 (sha b)).toArray)] ?_
 obtain ⟨w16, r17, H18⟩ := H15.stA (P := Try.prog) (o := 0) (vs := by8 (sha b)) (ty := 24) (m := 32) 1 rfl (by kernel_rfl) (by rw [by8_length, sha_length]) (Nat.le_of_eq (by rw [Nat.zero_add]; exact ((show (by8 (bsP (fun _ => 0) 32 0)).length = 32 from by rw [by8_length, bsP_length (by omega)])).symm)) (by8_one _)
 rw [st_whole (by rw [by8_length, bsP_length (by omega)])] at H18
 refine GL.u 4 r17 [(2, pt p3 0), (3, pt p12 0)] ?_
 refine GL.q hK8 ?_
 refine G.sr fun K19 hK20 => ?_
 refine GL.r 1 1 [(2, pt p3 0), (6, .slice (some ⟨p12, 0, none⟩) 32 32)] ?_
 refine GL.call (j := 2) (Sum_calls (some ⟨p12, 0, none⟩) 32 32 (sha b) w16 (H18.rdBlk (o := 0) (xs := by8 (sha b)) 1 32 rfl (sub_whole (by rw [by8_length, sha_length]))) ((sha_length _).symm) (by rw [sha_length]; decide)) (by kernel_rfl) rfl (fun e_ w21 hR => ?_)
 obtain ⟨rfl, H23⟩ := hR
 have H22 : Hp w [] [.blk p3 (by8 (bsP (fun _ => 0) 32 0)) 24, .blk p12 (by8 (sha b)) 24] w21 := H18.callNil H23
 refine ⟨_, rfl, [2, 7], [(2, pt p3 0), (7, .agg (by8 (sha (sha b))).toArray)], by kernel_rfl, ?_⟩
 obtain ⟨w24, r25, H26⟩ := H22.stA (P := Try.prog) (o := 0) (vs := by8 (sha (sha b))) (ty := 24) (m := 32) 0 rfl (by kernel_rfl) (by rw [by8_length, sha_length]) (Nat.le_of_eq (by rw [Nat.zero_add]; exact ((show (by8 (bsP (fun _ => 0) 32 0)).length = 32 from by rw [by8_length, bsP_length (by omega)])).symm)) (by8_one _)
 rw [st_whole (by rw [by8_length, bsP_length (by omega)])] at H26
 refine GL.u 3 r25 [(2, pt p3 0)] ?_
 refine GL.q hK20 ?_
 refine G.ret fun F_ hF_ hM_ => hRet _ _ (bodyPost_1 rfl (RV.cell rfl (H26.ldA (o := 0) (ty := 24) (m := 32) (sub := by8 (sha (sha b))) 0 rfl (by kernel_rfl) (sub_whole (by rw [by8_length, sha_length])) (by rw [by8_length, sha_length]))) ?_ F_ hF_ hM_)
 exact ⟨rfl, H26.sub (List.nil_sublist _)⟩
end Go.Proofs.Ytdepaaphgfapjaa
namespace Go.Proofs.Ytdepaaphgfapjaa
open Go.RowKit
section
variable {P : Program} {ops : Array Oper} {r : Option Nat} {Q : Exit → Act → World → Prop} {n : Nat} {M : FM} {w : World} {S : World → Prop} {done : List Nat}
theorem rowsFR {row : String} {args : Array Value} {R : Value → World → Prop} {m : Nat} (h : Rows P row args w R) : RowsIn (FR r) m P row args w R := fun c cs _ =>
 let ⟨v, w', q, s⟩ := h c cs
 ⟨v, w', q, stepsIn_wide.2 s⟩
theorem uponIn_FR {o : Oper} {a : Act} {next : Act → World → Prop} {x : Result Next} (h : o.upon P a next Q x) : o.uponIn (FR r) 0 P a next Q x := by
 cases x with
 | ok n w' =>
   cases n with
   | enter f args => exact ⟨fun h => (by cases h), callsFR h⟩
   | row q args => exact ⟨fun h => (by cases h), rowsFR h⟩
   | _ => first | exact h | exact h.elim
 | halt x w' => cases x <;> first | exact h | exact h.elim
theorem wpOpIn_FR (hnd : noDef ops = true) (hlo : ¬ LetsOut Q) {i : Nat} {K K' : Act → World → Prop} (hK : ∀ a w, K a w → K' a w) {a : Act} {w : World} (h : wpOp P ops Q i K a w) : wpOpIn (FR r) 0 P ops Q i K' a w := by
 unfold wpOp at h
 unfold wpOpIn
 cases ho : ops[i]? with
 | none =>
   simp only [ho] at h
   exact hK _ _ h
 | some o =>
   simp only [ho] at h ⊢
   split at h
   · rename_i hw
     rw [if_pos hw]
     rcases h with h | h
     · refine ⟨fun _ _ => trivial, ?_⟩
       rw [Oper.semAt_eq _ _ _ (noDef_at hnd ho)]
       exact uponIn_FR (Oper.wp_mono hK h)
     · exact absurd h.2 hlo
   · rename_i hw
     rw [if_neg hw]
     exact ⟨fun _ _ => trivial, hK _ _ h⟩
theorem wpAnyIn_FR (hnd : noDef ops = true) (hlo : ¬ LetsOut Q) {md : Region.Mode} : ∀ (fuel : Nat) (listed : Array Bool) (a : Act) (w : World), wpAny P md ops Q fuel listed a w → wpAnyIn (FR r) 0 P md ops Q fuel listed a w
 | 0, _, _, _, h => h
 | fuel + 1, _, _, _, h => ⟨h.1, fun i hi => wpOpIn_FR hnd hlo (fun a w h' => wpAnyIn_FR hnd hlo fuel _ a w h') (h.2 i hi)⟩
theorem RG.heldP {id : Nat} (S : World → Prop) (hm : P.follows .mixedOrders = true) (hB : Region.noSelect ops = true) (hnd : noDef ops = true) (hlo : ¬ LetsOut Q) (hQ : ∀ c (a : Act) d v w, Q (.panic c) (a.put d v) w → Q (.panic c) a w)
   (h : GP P ops Q S [] n M { w with drawn := w.drawn + 1 }) : RG P (.region id ops true) r [] Q n M w := fun F hF hM =>
 wpIn_region_any hm (wpAnyIn_FR hnd hlo _ _ _ _ (wpAny_of_held _ _ _ _ (by simpa [lsD] using h F hF hM hB hQ 0)))
end
end Go.Proofs.Ytdepaaphgfapjaa
namespace Go.Proofs.Ytdepaaphgfapjaa
open Go.RowKit
def signs : List UInt8 := [48, 49, 50, 51, 52, 53, 54, 55, 56, 57, 97, 98, 99, 100, 101, 102]
def sg (d : Nat) : UInt8 := signs.getD d 0
def hexOK (c : UInt8) : Bool := (decide (48 ≤ c.toNat) && decide (c.toNat ≤ 57)) || (decide (97 ≤ c.toNat) && decide (c.toNat ≤ 102))
def hexD (c : UInt8) : Nat := if c.toNat ≤ 57 then c.toNat - 48 else c.toNat - 87
def hexZ (c : UInt8) : Int := if hexOK c = true then ((hexD c : Nat) : Int) else -1
theorem all8 {f : UInt8 → Bool} (h : (List.range 256).all (fun n => f (UInt8.ofNat n)) = true) (c : UInt8) : f c = true := by
 have := List.all_eq_true.1 h c.toNat (List.mem_range.2 c.toNat_lt)
 simpa using this
theorem signs_at {d : Nat} (h : d < 16) : signs[d]? = some (sg d) := by
 rw [sg, List.getD_eq_getElem?_getD, List.getElem?_eq_getElem (show d < signs.length from h)]
 rfl
theorem hexD_lt {c : UInt8} (h : hexOK c = true) : hexD c < 16 := by
 simp only [hexOK, Bool.or_eq_true, Bool.and_eq_true, decide_eq_true_eq] at h
 unfold hexD
 split <;> omega
theorem hex_ascii {c : UInt8} (h : hexOK c = true) : c.toNat < 128 := by
 simp only [hexOK, Bool.or_eq_true, Bool.and_eq_true, decide_eq_true_eq] at h
 omega
theorem hexZ_neg {c : UInt8} (h : hexZ c < 0) : hexOK c = false := by
 unfold hexZ at h
 split at h
 · omega
 · cases hc : hexOK c with
   | false => rfl
   | true => exact absurd hc (by assumption)
theorem hexZ_pos {c : UInt8} (h : ¬ hexZ c < 0) : hexOK c = true ∧ hexZ c = ((hexD c : Nat) : Int) := by
 unfold hexZ at h ⊢
 split
 · exact ⟨by assumption, rfl⟩
 · rename_i hc
   rw [if_neg hc] at h
   exact absurd (by decide) h
theorem hex_find (c : UInt8) : ((List.range (strOf signs).size).find? fun i => (strOf signs)[i]! == c) = if hexOK c = true then some (hexD c) else none :=
 of_decide_eq_true (all8 (f := fun c => decide (((List.range (strOf signs).size).find? fun i => (strOf signs)[i]! == c) = if hexOK c = true then some (hexD c) else none)) (by kernel_rfl) c)
theorem u8_and15 (c : UInt8) : Go.bits .and .u8 (c.toNat : Int) 15 = ((c.toNat % 16 : Nat) : Int) :=
 of_decide_eq_true (all8 (f := fun c => decide (Go.bits .and .u8 (c.toNat : Int) 15 = ((c.toNat % 16 : Nat) : Int))) (by kernel_rfl) c)
theorem u8_mul16 (c : UInt8) : IntKind.u8.wrap ((c.toNat : Int) * 16) = ((c.toNat * 16 % 256 : Nat) : Int) :=
 of_decide_eq_true (all8 (f := fun c => decide (IntKind.u8.wrap ((c.toNat : Int) * 16) = ((c.toNat * 16 % 256 : Nat) : Int))) (by kernel_rfl) c)
def nib (x : UInt8) (d : Nat) : UInt8 := UInt8.ofNat (x.toNat * 16 % 256 + d)
theorem nib_nat {x : UInt8} {d : Nat} (h : d < 16) : (nib x d).toNat = x.toNat * 16 % 256 + d := by
 rw [nib, u8_ofNat]
 omega
theorem u8_or16 {x : UInt8} {d : Nat} (h : d < 16) : Go.bits .or .u8 ((x.toNat * 16 % 256 : Nat) : Int) (d : Int) = (((nib x d).toNat : Nat) : Int) := by
 rw [nib_nat h]
 have e : ∀ a : Fin 16, ∀ d : Fin 16, Go.bits .or .u8 ((a.val * 16 : Nat) : Int) ((d.val : Nat) : Int) = ((a.val * 16 + d.val : Nat) : Int) := by decide +kernel
 have hx : x.toNat * 16 % 256 = x.toNat % 16 * 16 := by omega
 rw [hx]
 exact e ⟨x.toNat % 16, Nat.mod_lt _ (by decide)⟩ ⟨d, h⟩
section
variable {P : Program} {w0 w : World} {S : List Nat} {L : List Ent}
theorem Hp.strAny (H : Hp w0 S L w) (i : Nat) {k pos : Nat} {bs : List UInt8} {b : UInt8} (hL : L[i]? = some (.obj k (.stringIter (strOf bs) pos))) (hb : bs[pos]? = some b) (ty : TypeId) :
   ∃ (r wd : Nat) (w' : World), (Instr.next (.pointer (some ⟨k, 0, none⟩)) true ty).run P w = .ok (.tuple #[.bool true, .int .i64 (pos : Int), .int .i32 (r : Int)]) w' ∧ Hp w0 S (L.set i (.obj k (.stringIter (strOf bs) (pos + wd)))) w' ∧ (b.toNat < 128 → wd = 1) := by
 have ho := H.objAt i hL
 have hlt := (List.getElem?_eq_some_iff.1 hb).1
 have hsz : (strOf bs).size = bs.length := by simp [strOf, ByteArray.size]
 obtain ⟨d, hd⟩ : ∃ d, Utf8.decode (strOf bs) pos = d := ⟨_, rfl⟩
 refine ⟨d.1, d.2, w.putObj k (.stringIter (strOf bs) (pos + d.2)), ?_, H.putObj i _ hL, fun h8 => ?_⟩
 · simp [Instr.next, getObj, setObj, Sem.run, ho, hsz, hlt, hd, World.putObj, goInt]
 · rw [decode_plain hb h8] at hd
   rw [← hd]
theorem Hp.strEnd (H : Hp w0 S L w) (i : Nat) {k pos : Nat} {bs : List UInt8} (hL : L[i]? = some (.obj k (.stringIter (strOf bs) pos))) (hp : pos = bs.length) (ty : TypeId) :
   (Instr.next (.pointer (some ⟨k, 0, none⟩)) true ty).run P w = .ok (.tuple #[.bool false]) w := by
 subst hp
 exact H.strOver i hL ty
theorem run_idxBlk {t sz b o len cap j : Nat} {k : IntKind} (ht : slcOf P t = some sz) (hj : j < len) (w : World) : (Instr.indexAt t (.slice (some ⟨b, o, none⟩) len cap) (.int k (j : Int))).run P w = .ok (.pointer (some ⟨b, o + j * sz, none⟩)) w := by
 have h := run_idxSl (P := P) (w := w) (k := k) (t := t) (sz := sz) (a := ⟨b, o, none⟩) (len := len) (cap := cap) (j := j) ht rfl hj
 have hadd : (⟨b, o, none⟩ : Addr).add (j * sz) = ⟨b, o + j * sz, none⟩ := by unfold Addr.add; split <;> simp_all
 rw [hadd] at h
 exact h
end
def hexP (X : List UInt8) : Nat → List UInt8
 | 0 => []
 | k + 1 => hexP X k ++ [sg ((X.getD (31 - k) 0).toNat / 16), sg ((X.getD (31 - k) 0).toNat % 16)]
theorem hexP_length (X : List UInt8) (k : Nat) : (hexP X k).length = 2 * k := by
 induction k with
 | zero => rfl
 | succ k ih => rw [hexP, List.length_append, ih]; rfl
def hexT (X : List UInt8) : List UInt8 := hexP X 32
def pX (s : List UInt8) : Nat → List UInt8
 | 0 => List.replicate 32 0
 | k + 1 => (pX s k).set (k / 2) (nib ((pX s k).getD (k / 2) 0) (hexD (s.getD k 0)))
theorem pX_length (s : List UInt8) (k : Nat) : (pX s k).length = 32 := by
 induction k with
 | zero => rfl
 | succ k ih => rw [pX, List.length_set, ih]
theorem getD_set8 {l : List UInt8} {i j : Nat} {v : UInt8} (hi : i < l.length) : (l.set i v).getD j 0 = if i = j then v else l.getD j 0 := by
 rw [List.getD_eq_getElem?_getD, List.getD_eq_getElem?_getD, List.getElem?_set]
 split
 · rename_i h
   first | (rw [if_pos (by omega)]; rfl) | rfl
 · rfl
theorem ext8 {a b : List UInt8} (h : a.length = b.length) (hg : ∀ i, i < a.length → a.getD i 0 = b.getD i 0) : a = b := by
 refine List.ext_getElem h fun i h1 h2 => ?_
 have := hg i h1
 rw [List.getD_eq_getElem?_getD, List.getD_eq_getElem?_getD, List.getElem?_eq_getElem h1, List.getElem?_eq_getElem h2] at this
 exact this
theorem getD_reverse8 {l : List UInt8} {j : Nat} (h : j < l.length) : l.reverse.getD j 0 = l.getD (l.length - 1 - j) 0 := by
 rw [List.getD_eq_getElem?_getD, List.getD_eq_getElem?_getD, List.getElem?_reverse h]
def okT (s : List UInt8) : Bool := decide (s.length = 64) && s.all hexOK
def parT (s : List UInt8) : List UInt8 := if okT s = true then (pX s 64).reverse else List.replicate 32 0
def parE (s : List UInt8) : Nat := if okT s = true then 0 else 2
theorem okT_no {s : List UInt8} (h : s.length ≠ 64 ∨ ∃ k, k < s.length ∧ hexOK (s.getD k 0) = false) : okT s = false := by
 unfold okT
 rcases h with h | ⟨k, hk, h⟩
 · rw [decide_eq_false h]
   rfl
 · have : s.all hexOK = false := by
     rw [List.all_eq_false]
     refine ⟨s.getD k 0, ?_, by rw [h]; decide⟩
     rw [List.getD_eq_getElem?_getD, List.getElem?_eq_getElem hk]
     exact List.getElem_mem hk
   rw [this, Bool.and_false]
theorem par_no {s : List UInt8} (h : okT s = false) : parT s = List.replicate 32 0 ∧ parE s = 2 := by
 unfold parT parE
 rw [h]
 exact ⟨rfl, rfl⟩
theorem par_yes {s : List UInt8} (hl : s.length = 64) (ha : s.all hexOK = true) : okT s = true ∧ parT s = (pX s 64).reverse ∧ parE s = 0 := by
 have h : okT s = true := by rw [okT, ha, decide_eq_true hl]; rfl
 unfold parT parE
 rw [h]
 exact ⟨rfl, rfl, rfl⟩
theorem all_step {s : List UInt8} {k : Nat} (h : k < s.length) (ha : (s.take k).all hexOK = true) (hc : hexOK (s.getD k 0) = true) : (s.take (k + 1)).all hexOK = true := by
 rw [List.take_add_one, List.getElem?_eq_getElem h, List.all_append, ha]
 rw [List.getD_eq_getElem?_getD, List.getElem?_eq_getElem h] at hc
 simpa using hc
def swP (X : List UInt8) (k : Nat) : List UInt8 := (List.range 32).map fun j => if j < k ∨ 31 - j < k then X.getD (31 - j) 0 else X.getD j 0
theorem swP_length (X : List UInt8) (k : Nat) : (swP X k).length = 32 := by rw [swP, List.length_map, List.length_range]
theorem swP_getD {X : List UInt8} {k j : Nat} (h : j < 32) : (swP X k).getD j 0 = if j < k ∨ 31 - j < k then X.getD (31 - j) 0 else X.getD j 0 := by
 rw [swP, List.getD_eq_getElem?_getD, List.getElem?_map, List.getElem?_range h]
 rfl
theorem swP_step {X : List UInt8} {k : Nat} (h : k < 31 - k) : ((swP X k).set k ((swP X k).getD (31 - k) 0)).set (31 - k) ((swP X k).getD k 0) = swP X (k + 1) :=
 ext8 (by rw [List.length_set, List.length_set, swP_length, swP_length]) fun j hj => by
   rw [List.length_set, List.length_set, swP_length] at hj
   rw [getD_set8 (by rw [List.length_set, swP_length]; omega), getD_set8 (by rw [swP_length]; omega), swP_getD hj, swP_getD hj, swP_getD (by omega), swP_getD (by omega), show 31 - (31 - k) = k by omega]
   by_cases h1 : 31 - k = j
   · subst h1
     rw [if_pos rfl, if_neg (by omega), if_pos (by omega)]
     congr 1
     omega
   · rw [if_neg h1]
     by_cases h2 : k = j
     · subst h2
       rw [if_pos rfl, if_neg (by omega), if_pos (by omega)]
     · rw [if_neg h2]
       by_cases h3 : j < k ∨ 31 - j < k
       · rw [if_pos h3, if_pos (by omega)]
       · rw [if_neg h3, if_neg (by omega)]
theorem swP_zero {X : List UInt8} (h : X.length = 32) : swP X 0 = X :=
 ext8 (by rw [swP_length, h]) fun j hj => by
   rw [swP_length] at hj
   rw [swP_getD hj, if_neg (by omega)]
theorem swP_all {X : List UInt8} (h : X.length = 32) : swP X 16 = X.reverse :=
 ext8 (by rw [swP_length, List.length_reverse, h]) fun j hj => by
   rw [swP_length] at hj
   rw [swP_getD hj, if_pos (by omega), getD_reverse8 (by rw [h]; exact hj), h]
end Go.Proofs.Ytdepaaphgfapjaa
namespace Go.Proofs.Ytdepaaphgfapjaa
open Go.RowKit
theorem Backward_calls (A : Option Addr) (n c : Nat) (w : World) : Calls Try.prog 44 #[.slice A n c] w fun e w' => ∃ B, e = .returned (.func (.func 63) #[] #[.pointer (some ⟨B, 0, none⟩)]) ∧ Hp w [] [.blk B [.slice A n c] 28] w' := by
 refine calls_G (args := [.slice A n c]) Try.func44 rfl Try.ntmps44 rfl ?_
 intro Q0 hRet hNor hPan
 have H := Hp.start w
 refine G.sr fun K1 hK2 => ?_
 obtain ⟨p3, w4, r5, H6⟩ := H.box (P := Try.prog) 28 [.slice A n c] (.slice A n c) rfl
 refine GL.s 1 (r5) [(1, pt p3 0)] ?_
 refine GL.r 2 1 [(1, pt p3 0)] ?_
 refine GL.q hK2 ?_
 refine G.sr fun K7 hK8 => ?_
 refine GL.r 2 2 [(2, .func (.func 63) #[] #[pt p3 0])] ?_
 refine GL.q hK8 ?_
 refine G.ret fun F_ hF_ hM_ => hRet _ _ (bodyPost_1 rfl (RV.tmp rfl) ?_ F_ hF_ hM_)
 exact ⟨_, rfl, H6⟩
theorem Backward_iter (bs : List UInt8) (hlen : bs.length ≤ 1099511627776) (A : Option Addr) (c B : Nat) : Iter Try.prog 63 #[pt B 0] bs.length (fun k => #[.int .i64 ((bs.length - 1 - k : Nat) : Int), .int .u8 ((bs.getD (bs.length - 1 - k) 0).toNat : Int)]) (fun W => W.cell? ⟨B, 0, none⟩ = some (.slice A bs.length c) ∧ RdS W A (by8 bs)) := by
 intro l J Jx hRd hst hy w h0
 rw [show (#[Value.func (.yield l) #[] #[]] ++ #[pt B 0] : Array Value) = #[.func (.yield l) #[] #[], pt B 0] by simp]
 refine calls_R (args := [.func (.yield l) #[] #[], pt B 0]) Try.func63 rfl Try.ntmps63 rfl ?_
 intro Q0 hRet hNor
 have H := Hp.start w
 refine RG.seqK fun K1 hK2 => ?_
 refine RG.region (by kernel_rfl) ?_
 refine RL.sem (j := 1) (run_ld1 (P := Try.prog) (ty := 28) (a := ⟨B, 0, none⟩) (v := .slice A bs.length c) (by kernel_rfl) ((hRd _ _ h0).1)) [0, 1, 4] [(0, .func (.yield l) #[] #[]), (1, pt B 0), (4, .slice A bs.length c)] (by kernel_rfl) (by kernel_rfl) rfl ?_
 refine RL.run (j := 4) 3 [0, 1, 3] [(0, .func (.yield l) #[] #[]), (1, pt B 0), (3, li (IntKind.i64.wrap ((bs.length : Int) - 1)))] (by kernel_rfl) rfl ?_
 have e3 : (IntKind.i64.wrap ((bs.length : Int) - 1)) = (((bs.length - 0 : Nat) : Int) - 1) := by rw [Nat.sub_zero, in_i64 (by omega)]
 rw [e3]
 clear e3
 refine RL.k rfl hK2 (fun _ _ h => h) ?_
 refine RG.block ?_
 refine RG.fit [0, 1, 3] (M' := [(0, .func (.yield l) #[] #[]), (1, pt B 0), (3, li (((bs.length - 0 : Nat) : Int) - 1))]) (by kernel_rfl) ?_
 refine RG.loop (X := Nat) (fun k => [(0, .func (.yield l) #[] #[]), (1, pt B 0), (3, li (((bs.length - k : Nat) : Int) - 1))]) (fun k w_ => k ≤ bs.length ∧ J k w_) (fun k => bs.length - k) 0 [0, 1, 3] (by kernel_rfl) ⟨Nat.zero_le _, h0⟩ ?_
 rintro k wk ⟨hkN, hJk⟩
 have H4 := Hp.start wk
 refine RG.eq (M' := [(0, .func (.yield l) #[] #[]), (1, pt B 0), (3, li (((bs.length - k : Nat) : Int) - 1))]) rfl ?_
 refine RG.seqK fun K5 hK6 => ?_
 refine RG.seqK fun K7 hK8 => ?_
 refine RG.region (by kernel_rfl) ?_
 refine RL.run (j := 2) 2 [0, 1, 3, 8] [(0, .func (.yield l) #[] #[]), (1, pt B 0), (3, li (((bs.length - k : Nat) : Int) - 1)), (8, .bool (decide (0 ≤ (((bs.length - k : Nat) : Int) - 1))))] (by kernel_rfl) rfl ?_
 refine RL.k rfl hK8 (fun _ _ h => h) ?_
 cases hb9 : (decide (0 ≤ (((bs.length - k : Nat) : Int) - 1)))
 · skip
   have hb9f := of_decide_eq_false hb9
   refine RG.no rfl ?_
   refine fun F_ hF_ hM_ => wpIn_exit ?_
   refine hNor _ _ (postM_0 rfl  ?_ F_ hF_ hM_)
   exact ⟨⟨_, rfl⟩, .inl (by first | exact hJk | (have hkk : k = bs.length := by omega); rw [← hkk]; exact hJk)⟩
 · skip
   have hb9f := of_decide_eq_true hb9
   have ei : (((bs.length - k : Nat) : Int) - 1) = ((bs.length - 1 - k : Nat) : Int) := by omega
   refine RG.eq (M' := [(0, .func (.yield l) #[] #[]), (1, pt B 0), (3, vi (bs.length - 1 - k)), (8, .bool true)]) (by rw [ei]) ?_
   refine RG.yes rfl ?_
   refine RG.skipK hK6 (fun _ _ h => h) ?_
   refine RG.seqK fun K10 hK11 => ?_
   refine RG.block ?_
   refine RG.seqK fun K12 hK13 => ?_
   refine RG.region (by kernel_rfl) ?_
   refine RL.run (j := 2) 2 [0, 1, 3, 11, 12] [(0, .func (.yield l) #[] #[]), (1, pt B 0), (3, vi (bs.length - 1 - k)), (11, .func (.yield l) #[] #[]), (12, vi (bs.length - 1 - k))] (by kernel_rfl) rfl ?_
   refine RL.sem (j := 3) (run_ld1 (P := Try.prog) (ty := 28) (a := ⟨B, 0, none⟩) (v := .slice A bs.length c) (by kernel_rfl) ((hRd _ _ hJk).1)) [0, 1, 3, 11, 12, 13] [(0, .func (.yield l) #[] #[]), (1, pt B 0), (3, vi (bs.length - 1 - k)), (11, .func (.yield l) #[] #[]), (12, vi (bs.length - 1 - k)), (13, .slice A bs.length c)] (by kernel_rfl) (by kernel_rfl) rfl ?_
   refine RL.run (j := 4) 1 [0, 1, 3, 11, 12, 13, 14] [(0, .func (.yield l) #[] #[]), (1, pt B 0), (3, vi (bs.length - 1 - k)), (11, .func (.yield l) #[] #[]), (12, vi (bs.length - 1 - k)), (13, .slice A bs.length c), (14, vi (bs.length - 1 - k))] (by kernel_rfl) rfl ?_
   refine RL.sem (j := 5) (run_idxRd (P := Try.prog) (k := .i64) (t := 28) (A := A) (len := bs.length) (cap := c) (j := bs.length - 1 - k) (by kernel_rfl) rfl ((hRd _ _ hJk).2) (by rw [by8_length]) (by first | rfl | omega | (simp only [List.length_cons, List.length_nil, List.length_drop, List.length_take, List.length_append] <;> omega))) [0, 1, 3, 11, 12, 15] [(0, .func (.yield l) #[] #[]), (1, pt B 0), (3, vi (bs.length - 1 - k)), (11, .func (.yield l) #[] #[]), (12, vi (bs.length - 1 - k)), (15, .pointer (Option.map (fun x => Addr.add x (bs.length - 1 - k)) A))] (by kernel_rfl) (by kernel_rfl) rfl ?_
   refine RL.sem (j := 6) (run_ldRd (P := Try.prog) (ty := 5) (A := A) (j := bs.length - 1 - k) (v := .int .u8 ((bs.getD (bs.length - 1 - k) 0).toNat : Int)) (by kernel_rfl) ((hRd _ _ hJk).2) (by8_at (getD8 (by omega)))) [0, 1, 3, 11, 12, 16] [(0, .func (.yield l) #[] #[]), (1, pt B 0), (3, vi (bs.length - 1 - k)), (11, .func (.yield l) #[] #[]), (12, vi (bs.length - 1 - k)), (16, lb ((bs.getD (bs.length - 1 - k) 0).toNat : Int))] (by kernel_rfl) (by kernel_rfl) rfl ?_
   refine RL.yield (j := 7) (hy k _ (by omega) hJk) (by kernel_rfl) rfl (fun e_ w14 hR18 => ?_)
   obtain ⟨b15, rfl, hyt16, hyf17⟩ := yield_cases hR18
   have H19 := Hp.start w14
   refine ⟨_, rfl, [0, 1, 3, 17], [(0, .func (.yield l) #[] #[]), (1, pt B 0), (3, vi (bs.length - 1 - k)), (17, .bool b15)], by kernel_rfl, ?_⟩
   refine RL.run (j := 8) 1 [0, 1, 3, 18] [(0, .func (.yield l) #[] #[]), (1, pt B 0), (3, vi (bs.length - 1 - k)), (18, .bool (!b15))] (by kernel_rfl) rfl ?_
   refine RL.k rfl hK13 (fun _ _ h => h) ?_
   rcases (Bool.eq_false_or_eq_true b15).symm with hb20 | hb20
   · skip
     refine RG.eq (M' := [(0, .func (.yield l) #[] #[]), (1, pt B 0), (3, vi (bs.length - 1 - k)), (18, .bool true)]) (by first | (rw [hb20]; done) | (rw [hb20]; rfl)) ?_
     have hJ21 := hyf17 hb20
     refine RG.yes rfl ?_
     refine RG.ret ?_
     intro F_ hF_ hM_
     refine hRet _ _ (postM_0 rfl  ?_ F_ hF_ hM_)
     exact ⟨⟨_, rfl⟩, .inr hJ21⟩
   · skip
     refine RG.eq (M' := [(0, .func (.yield l) #[] #[]), (1, pt B 0), (3, vi (bs.length - 1 - k)), (18, .bool false)]) (by first | (rw [hb20]; done) | (rw [hb20]; rfl)) ?_
     have hJ22 := hyt16 hb20
     refine RG.no rfl ?_
     refine RG.skipK hK11 (fun _ _ h => h) ?_
     refine RG.region (by kernel_rfl) ?_
     refine RL.run (j := 3) 3 [0, 1, 3] [(0, .func (.yield l) #[] #[]), (1, pt B 0), (3, li (IntKind.i64.wrap (((bs.length - 1 - k : Nat) : Int) - 1)))] (by kernel_rfl) rfl ?_
     have e23 : (IntKind.i64.wrap (((bs.length - 1 - k : Nat) : Int) - 1)) = (((bs.length - (k + 1) : Nat) : Int) - 1) := by rw [in_i64 (by omega)]; omega
     rw [e23]
     clear e23
     exact RL.again (k + 1) [0, 1, 3] rfl (by kernel_rfl) (by show bs.length - (k + 1) < bs.length - k; omega) ⟨by omega, hJ22⟩
theorem run_indexByte (c : UInt8) (w : World) : (callFunc 75 #[.string (strOf signs), .int .u8 (c.toNat : Int)]).run Try.prog w = .ok (.value (.int .i64 (hexZ c))) w := by
 rw [run_callFunc_extern Try.func75 (by kernel_rfl) (by kernel_rfl) (by kernel_rfl) (e := Extern.BytealgIndexByte.indexByte) (by kernel_rfl)]
 have hc : (c.toNat : Int).toNat.toUInt8 = c := by simp
 change Result.andThen ((do
     let b ← Extern.Bytes.bytesOf (.string (strOf signs))
     let c ← Extern.Bytes.asByte (.int .u8 (c.toNat : Int))
     match (List.range b.size).find? fun i => b[i]! == c with
     | some i => pure (goInt i)
     | none => pure (goInt (-1)) : Sem Value).run Try.prog w) _ = _
 simp only [Extern.Bytes.bytesOf, Extern.Bytes.asByte, Sem.run_bind, Sem.run_pure, Result.andThen_ok, hc, hex_find, hexZ]
 cases hexOK c <;> simp [goInt, Result.andThen]
theorem Index0_calls (c : UInt8) (w : World) : Calls Try.prog 71 #[.string (strOf signs), .int .u8 (c.toNat : Int)] w fun e w' => e = .returned (.int .i64 (hexZ c)) ∧ Hp w [] [] w' := by
 refine calls_G (args := [.string (strOf signs), lb (c.toNat : Int)]) Try.func71 rfl Try.ntmps71 rfl ?_
 intro Q0 hRet hNor hPan
 have H := Hp.start w
 refine G.sr fun K1 hK2 => ?_
 refine GL.r 1 1 [(0, .string (strOf signs)), (1, lb (c.toNat : Int))] ?_
 refine GL.q hK2 ?_
 refine G.sr fun K3 hK4 => ?_
 refine GL.r 2 2 [(5, .string (strOf signs)), (6, lb (c.toNat : Int))] ?_
 refine GL.semN (j := 3) (run_indexByte c _) [7] [(7, li (hexZ c))] (by kernel_rfl) (by kernel_rfl) rfl ?_
 refine GL.r 4 1 [(4, li (hexZ c))] ?_
 refine GL.q hK4 ?_
 refine G.ret fun F_ hF_ hM_ => hRet _ _ (bodyPost_1 rfl (RV.tmp rfl) ?_ F_ hF_ hM_)
 exact ⟨rfl, H⟩
theorem Index1_calls (c : UInt8) (w : World) : Calls Try.prog 61 #[.string (strOf signs), .int .u8 (c.toNat : Int)] w fun e w' => e = .returned (.int .i64 (hexZ c)) ∧ Hp w [] [] w' := by
 refine calls_G (args := [.string (strOf signs), lb (c.toNat : Int)]) Try.func61 rfl Try.ntmps61 rfl ?_
 intro Q0 hRet hNor hPan
 have H := Hp.start w
 refine G.sr fun K1 hK2 => ?_
 refine GL.r 1 1 [(0, .string (strOf signs)), (1, lb (c.toNat : Int))] ?_
 refine GL.q hK2 ?_
 refine G.sr fun K3 hK4 => ?_
 refine GL.r 2 2 [(5, .string (strOf signs)), (6, lb (c.toNat : Int))] ?_
 refine GL.call (j := 3) (Index0_calls c w) (by kernel_rfl) rfl (fun e_ w5 hR => ?_)
 obtain ⟨rfl, H7⟩ := hR
 have H6 : Hp w [] [] w5 := H.callNil H7
 refine ⟨_, rfl, [7], [(7, li (hexZ c))], by kernel_rfl, ?_⟩
 refine GL.r 4 1 [(4, li (hexZ c))] ?_
 refine GL.q hK4 ?_
 refine G.ret fun F_ hF_ hM_ => hRet _ _ (bodyPost_1 rfl (RV.tmp rfl) ?_ F_ hF_ hM_)
 exact ⟨rfl, H6⟩
theorem Reverse_calls (S : List Nat) (q : Nat) (X : List UInt8) (hX : X.length = 32) (w : World) (h0 : Hp w S [.blk q (by8 X) 24] w) : Calls Try.prog 62 #[.slice (some ⟨q, 0, none⟩) 32 32] w fun e w' => e = .returned (.tuple #[]) ∧ Hp w S [.blk q (by8 X.reverse) 24] w' := by
 refine calls_G (args := [.slice (some ⟨q, 0, none⟩) 32 32]) Try.func62 rfl Try.ntmps62 rfl ?_
 intro Q0 hRet hNor hPan
 have H := h0
 refine G.sr fun K1 hK2 => ?_
 refine GL.r 5 5 [(0, .slice (some ⟨q, 0, none⟩) 32 32), (2, li 0), (3, li 31)] ?_
 refine GL.q hK2 ?_
 refine G.block ?_
 have H3 : Hp w S [.blk q (by8 (swP X 0)) 24] w := by rw [swP_zero hX]; exact H
 refine G.fit [0, 2, 3] (M' := [(0, .slice (some ⟨q, 0, none⟩) 32 32), (2, li 0), (3, li 31)]) (by kernel_rfl) ?_
 refine G.eq (M' := [(0, .slice (some ⟨q, 0, none⟩) 32 32), (2, li 0), (3, vi (31 - 0))]) (by rfl) ?_
 refine G.loop (X := Nat) (fun k => [(0, .slice (some ⟨q, 0, none⟩) 32 32), (2, vi k), (3, vi (31 - k))]) (fun k w_ => (k ≤ 16) ∧ Hp w S [.blk q (by8 (swP X k)) 24] w_) (fun k => 16 - k) 0 [0, 2, 3] (by kernel_rfl) ⟨by omega, H3⟩ ?_
 rintro k w4 ⟨hi5, H6⟩
 refine G.eq (M' := [(0, .slice (some ⟨q, 0, none⟩) 32 32), (2, vi k), (3, vi (31 - k))]) rfl ?_
 have hk16 := hi5
 refine G.seqK fun K7 hK8 => ?_
 refine G.sr fun K9 hK10 => ?_
 refine GL.r 3 3 [(0, .slice (some ⟨q, 0, none⟩) 32 32), (2, vi k), (3, vi (31 - k)), (9, .bool (decide ((k : Int) < (((31 - k) : Nat) : Int))))] ?_
 refine GL.q hK10 ?_
 cases hb11 : (decide ((k : Int) < (((31 - k) : Nat) : Int)))
 · skip
   have hb11f := of_decide_eq_false hb11
   refine G.no rfl ?_
   refine fun F_ hF_ hM_ => wp_exit ?_
   refine hNor _ _ (bodyPost_0 rfl  ?_ F_ hF_ hM_)
   have HF := H6
   rw [show k = 16 by omega, swP_all hX] at HF
   exact ⟨rfl, HF⟩
 · skip
   have hb11f := of_decide_eq_true hb11
   refine G.yes rfl ?_
   refine G.skipK hK8 (fun _ _ h => h) ?_
   refine G.seqK fun K12 hK13 => ?_
   refine G.block ?_
   refine G.heldP (Hp w S []) (by kernel_rfl) (by kernel_rfl) (fun c_ a_ d_ v_ w_ h_ => hPan c_ a_ d_ v_ w_ h_) ?_
   have H14 := H6.drew
   generalize ({ w4 with drawn := w4.drawn + 1 } : World) = w15 at H14 ⊢
   have hS16 : Hp w S [] w15 := H14.sub (List.Sublist.cons _ (List.Sublist.slnil))
   refine GP.r [0, 1, 2, 3, 4, 5] [(0, .slice (some ⟨q, 0, none⟩) 32 32), (2, vi k), (3, vi (31 - k)), (14, .slice (some ⟨q, 0, none⟩) 32 32), (15, vi k), (16, .slice (some ⟨q, 0, none⟩) 32 32), (17, vi (31 - k)), (18, .slice (some ⟨q, 0, none⟩) 32 32), (19, vi (31 - k))] [0, 1, 2, 3, 4, 5] hS16 ?_
   refine GP.s 6 (fun w_ H_ => run_idxBlk (P := Try.prog) (k := .i64) (t := 28) (sz := 1) (b := q) (o := 0) (len := 32) (cap := 32) (j := (31 - k)) (by kernel_rfl) (by omega) _) [(0, .slice (some ⟨q, 0, none⟩) 32 32), (2, vi k), (3, vi (31 - k)), (14, .slice (some ⟨q, 0, none⟩) 32 32), (15, vi k), (16, .slice (some ⟨q, 0, none⟩) 32 32), (17, vi (31 - k)), (20, pt q (0 + (31 - k) * 1))] hS16 ?_
   refine GP.r [8, 9] [(0, .slice (some ⟨q, 0, none⟩) 32 32), (2, vi k), (3, vi (31 - k)), (14, .slice (some ⟨q, 0, none⟩) 32 32), (15, vi k), (16, .slice (some ⟨q, 0, none⟩) 32 32), (17, vi (31 - k)), (20, pt q (0 + (31 - k) * 1)), (22, .slice (some ⟨q, 0, none⟩) 32 32), (23, vi k)] [0, 1, 2, 3, 4, 5, 6, 8, 9] hS16 ?_
   refine GP.s 10 (fun w_ H_ => run_idxBlk (P := Try.prog) (k := .i64) (t := 28) (sz := 1) (b := q) (o := 0) (len := 32) (cap := 32) (j := k) (by kernel_rfl) (by omega) _) [(0, .slice (some ⟨q, 0, none⟩) 32 32), (2, vi k), (3, vi (31 - k)), (14, .slice (some ⟨q, 0, none⟩) 32 32), (15, vi k), (16, .slice (some ⟨q, 0, none⟩) 32 32), (17, vi (31 - k)), (20, pt q (0 + (31 - k) * 1)), (24, pt q (0 + k * 1))] hS16 ?_
   refine GP.named fun Xd_ hXd_ => ?_
   have st24 : ∀ (wD_ : World), Hp w S [.blk q (by8 (swP X k)) 24] wD_ → Xd_ [0, 1, 2, 3, 4, 5, 6, 8, 9, 10, 7, 11, 12] [(0, .slice (some ⟨q, 0, none⟩) 32 32), (2, .int .i64 (k : Int)), (3, .int .i64 (((31 - k) : Nat) : Int)), (16, .slice (some ⟨q, 0, none⟩) 32 32), (17, .int .i64 (((31 - k) : Nat) : Int)), (21, .int .u8 ((((swP X k).getD (31 - k) 0)).toNat : Int)), (25, .int .u8 ((((swP X k).getD k 0)).toNat : Int)), (26, pt q (0 + k * 1))] wD_ := by
     intro wD_ HD_
     rw [hXd_]
     have hS25 : Hp w S [] wD_ := HD_.sub (List.Sublist.cons _ (List.Sublist.slnil))
     obtain ⟨w26, r27, H28⟩ := HD_.st (P := Try.prog) (o := (0 + k * 1)) (ty := 5) (v := .int .u8 ((((swP X k).getD (31 - k) 0)).toNat : Int)) 0 rfl (by kernel_rfl) (by rw [by8_length, swP_length]; omega) rfl
     rw [show (0 + k * 1) = k by omega, by8_set] at H28
     have hS29 : Hp w S [] w26 := H28.sub (List.Sublist.cons _ (List.Sublist.slnil))
     refine GP.semU 13 r27 [0, 2, 3, 16, 17, 25] [(0, .slice (some ⟨q, 0, none⟩) 32 32), (2, vi k), (3, vi (31 - k)), (16, .slice (some ⟨q, 0, none⟩) 32 32), (17, vi (31 - k)), (25, lb ((((swP X k).getD k 0)).toNat : Int))] (by kernel_rfl) rfl rfl (by kernel_rfl) hS29 ?_
     refine GP.s 14 (fun w_ H_ => run_idxBlk (P := Try.prog) (k := .i64) (t := 28) (sz := 1) (b := q) (o := 0) (len := 32) (cap := 32) (j := (31 - k)) (by kernel_rfl) (by omega) _) [(0, .slice (some ⟨q, 0, none⟩) 32 32), (2, vi k), (3, vi (31 - k)), (25, lb ((((swP X k).getD k 0)).toNat : Int)), (27, pt q (0 + (31 - k) * 1))] hS29 ?_
     obtain ⟨w30, r31, H32⟩ := H28.st (P := Try.prog) (o := (0 + (31 - k) * 1)) (ty := 5) (v := .int .u8 ((((swP X k).getD k 0)).toNat : Int)) 0 rfl (by kernel_rfl) (by rw [by8_length, List.length_set, swP_length]; omega) rfl
     rw [show (0 + (31 - k) * 1) = (31 - k) by omega, by8_set] at H32
     have hS33 : Hp w S [] w30 := H32.sub (List.Sublist.cons _ (List.Sublist.slnil))
     refine GP.semU 15 r31 [0, 2, 3] [(0, .slice (some ⟨q, 0, none⟩) 32 32), (2, vi k), (3, vi (31 - k))] (by kernel_rfl) rfl rfl (by kernel_rfl) hS33 ?_
     refine GP.k (by kernel_rfl) hK13 (fun _ _ h => h) ?_
     refine G.region ?_
     refine GL.r 6 6 [(0, .slice (some ⟨q, 0, none⟩) 32 32), (2, li (IntKind.i64.wrap ((k : Int) + 1))), (3, li (IntKind.i64.wrap ((((31 - k) : Nat) : Int) - 1)))] ?_
     have e34 : (IntKind.i64.wrap ((k : Int) + 1)) = ((k + 1 : Nat) : Int) := by rw [in_i64 (by omega)]; omega
     have e35 : (IntKind.i64.wrap ((((31 - k) : Nat) : Int) - 1)) = (((31 - k - 1) : Nat) : Int) := by rw [in_i64 (by omega)]; omega
     rw [e34, e35]
     clear e34 e35
     have H36 : Hp w S [.blk q (by8 (swP X (k + 1))) 24] w30 := by rw [← swP_step (by omega)]; exact H32
     refine GL.fit (ts := [0, 2, 3]) (M' := [(0, .slice (some ⟨q, 0, none⟩) 32 32), (2, vi (k + 1)), (3, vi (31 - k - 1))]) (by kernel_rfl) ?_
     refine GL.eq (M' := [(0, .slice (some ⟨q, 0, none⟩) 32 32), (2, vi (k + 1)), (3, vi (31 - (k + 1)))]) (by rw [show 31 - k - 1 = 31 - (k + 1) by omega]) ?_
     exact GL.again (k + 1) [0, 2, 3] rfl (by kernel_rfl) (by show 16 - (k + 1) < 16 - k; omega) ⟨by omega, H36⟩
   have st22 : ∀ (wD_ : World), Hp w S [.blk q (by8 (swP X k)) 24] wD_ → Xd_ [0, 1, 2, 3, 4, 5, 6, 8, 9, 10, 7] [(0, .slice (some ⟨q, 0, none⟩) 32 32), (2, .int .i64 (k : Int)), (3, .int .i64 (((31 - k) : Nat) : Int)), (14, .slice (some ⟨q, 0, none⟩) 32 32), (15, .int .i64 (k : Int)), (16, .slice (some ⟨q, 0, none⟩) 32 32), (17, .int .i64 (((31 - k) : Nat) : Int)), (21, .int .u8 ((((swP X k).getD (31 - k) 0)).toNat : Int)), (24, pt q (0 + k * 1))] wD_ := by
     intro wD_ HD_
     rw [hXd_]
     have hS37 : Hp w S [] wD_ := HD_.sub (List.Sublist.cons _ (List.Sublist.slnil))
     refine GP.all1 11 (by kernel_rfl) ?_
     · skip
       have hS38 : Hp w S [] wD_ := HD_.sub (List.Sublist.cons _ (List.Sublist.slnil))
       have hS39 : Hp w S [] wD_ := HD_.sub (List.Sublist.cons _ (List.Sublist.slnil))
       refine GO.made (HD_.ld (o := (0 + k * 1)) (ty := 5) (v := .int .u8 ((((swP X k).getD k 0)).toNat : Int)) 0 rfl (by kernel_rfl) (by rw [show (0 + k * 1) = k by omega]; exact by8_at (getD8 (by rw [swP_length]; omega)))) [0, 2, 3, 14, 15, 16, 17, 21, 25] [(0, .slice (some ⟨q, 0, none⟩) 32 32), (2, vi k), (3, vi (31 - k)), (14, .slice (some ⟨q, 0, none⟩) 32 32), (15, vi k), (16, .slice (some ⟨q, 0, none⟩) 32 32), (17, vi (31 - k)), (21, lb ((((swP X k).getD (31 - k) 0)).toNat : Int)), (25, lb ((((swP X k).getD k 0)).toNat : Int))] (by kernel_rfl) (by kernel_rfl) hS39 ?_
       refine GP.s 12 (fun w_ H_ => run_idxBlk (P := Try.prog) (k := .i64) (t := 28) (sz := 1) (b := q) (o := 0) (len := 32) (cap := 32) (j := k) (by kernel_rfl) (by omega) _) [(0, .slice (some ⟨q, 0, none⟩) 32 32), (2, vi k), (3, vi (31 - k)), (16, .slice (some ⟨q, 0, none⟩) 32 32), (17, vi (31 - k)), (21, lb ((((swP X k).getD (31 - k) 0)).toNat : Int)), (25, lb ((((swP X k).getD k 0)).toNat : Int)), (26, pt q (0 + k * 1))] hS39 ?_
       refine GP.perm [0, 1, 2, 3, 4, 5, 6, 8, 9, 10, 7, 11, 12] (by kernel_rfl) rfl ?_
       rw [← hXd_]
       exact st24 _ HD_
   have st23 : ∀ (wD_ : World), Hp w S [.blk q (by8 (swP X k)) 24] wD_ → Xd_ [0, 1, 2, 3, 4, 5, 6, 8, 9, 10, 11] [(0, .slice (some ⟨q, 0, none⟩) 32 32), (2, .int .i64 (k : Int)), (3, .int .i64 (((31 - k) : Nat) : Int)), (14, .slice (some ⟨q, 0, none⟩) 32 32), (15, .int .i64 (k : Int)), (16, .slice (some ⟨q, 0, none⟩) 32 32), (17, .int .i64 (((31 - k) : Nat) : Int)), (20, pt q (0 + (31 - k) * 1)), (25, .int .u8 ((((swP X k).getD k 0)).toNat : Int))] wD_ := by
     intro wD_ HD_
     rw [hXd_]
     have hS40 : Hp w S [] wD_ := HD_.sub (List.Sublist.cons _ (List.Sublist.slnil))
     refine GP.all1 7 (by kernel_rfl) ?_
     · skip
       have hS41 : Hp w S [] wD_ := HD_.sub (List.Sublist.cons _ (List.Sublist.slnil))
       have hS42 : Hp w S [] wD_ := HD_.sub (List.Sublist.cons _ (List.Sublist.slnil))
       refine GO.made (HD_.ld (o := (0 + (31 - k) * 1)) (ty := 5) (v := .int .u8 ((((swP X k).getD (31 - k) 0)).toNat : Int)) 0 rfl (by kernel_rfl) (by rw [show (0 + (31 - k) * 1) = (31 - k) by omega]; exact by8_at (getD8 (by rw [swP_length]; omega)))) [0, 2, 3, 14, 15, 16, 17, 21, 25] [(0, .slice (some ⟨q, 0, none⟩) 32 32), (2, vi k), (3, vi (31 - k)), (14, .slice (some ⟨q, 0, none⟩) 32 32), (15, vi k), (16, .slice (some ⟨q, 0, none⟩) 32 32), (17, vi (31 - k)), (21, lb ((((swP X k).getD (31 - k) 0)).toNat : Int)), (25, lb ((((swP X k).getD k 0)).toNat : Int))] (by kernel_rfl) (by kernel_rfl) hS42 ?_
       refine GP.s 12 (fun w_ H_ => run_idxBlk (P := Try.prog) (k := .i64) (t := 28) (sz := 1) (b := q) (o := 0) (len := 32) (cap := 32) (j := k) (by kernel_rfl) (by omega) _) [(0, .slice (some ⟨q, 0, none⟩) 32 32), (2, vi k), (3, vi (31 - k)), (16, .slice (some ⟨q, 0, none⟩) 32 32), (17, vi (31 - k)), (21, lb ((((swP X k).getD (31 - k) 0)).toNat : Int)), (25, lb ((((swP X k).getD k 0)).toNat : Int)), (26, pt q (0 + k * 1))] hS42 ?_
       refine GP.perm [0, 1, 2, 3, 4, 5, 6, 8, 9, 10, 7, 11, 12] (by kernel_rfl) rfl ?_
       rw [← hXd_]
       exact st24 _ HD_
   have st21 : ∀ (wD_ : World), Hp w S [.blk q (by8 (swP X k)) 24] wD_ → Xd_ [0, 1, 2, 3, 4, 5, 6, 8, 9, 10] [(0, .slice (some ⟨q, 0, none⟩) 32 32), (2, .int .i64 (k : Int)), (3, .int .i64 (((31 - k) : Nat) : Int)), (14, .slice (some ⟨q, 0, none⟩) 32 32), (15, .int .i64 (k : Int)), (16, .slice (some ⟨q, 0, none⟩) 32 32), (17, .int .i64 (((31 - k) : Nat) : Int)), (20, pt q (0 + (31 - k) * 1)), (24, pt q (0 + k * 1))] wD_ := by
     intro wD_ HD_
     rw [hXd_]
     have hS43 : Hp w S [] wD_ := HD_.sub (List.Sublist.cons _ (List.Sublist.slnil))
     refine GP.all2 7 11 (by kernel_rfl) ?_ ?_
     · skip
       have hS44 : Hp w S [] wD_ := HD_.sub (List.Sublist.cons _ (List.Sublist.slnil))
       have hS45 : Hp w S [] wD_ := HD_.sub (List.Sublist.cons _ (List.Sublist.slnil))
       refine GO.made (HD_.ld (o := (0 + (31 - k) * 1)) (ty := 5) (v := .int .u8 ((((swP X k).getD (31 - k) 0)).toNat : Int)) 0 rfl (by kernel_rfl) (by rw [show (0 + (31 - k) * 1) = (31 - k) by omega]; exact by8_at (getD8 (by rw [swP_length]; omega)))) [0, 2, 3, 14, 15, 16, 17, 21, 24] [(0, .slice (some ⟨q, 0, none⟩) 32 32), (2, vi k), (3, vi (31 - k)), (14, .slice (some ⟨q, 0, none⟩) 32 32), (15, vi k), (16, .slice (some ⟨q, 0, none⟩) 32 32), (17, vi (31 - k)), (21, lb ((((swP X k).getD (31 - k) 0)).toNat : Int)), (24, pt q (0 + k * 1))] (by kernel_rfl) (by kernel_rfl) hS45 ?_
       refine GP.perm [0, 1, 2, 3, 4, 5, 6, 8, 9, 10, 7] (by kernel_rfl) rfl ?_
       rw [← hXd_]
       exact st22 _ HD_
     · skip
       have hS46 : Hp w S [] wD_ := HD_.sub (List.Sublist.cons _ (List.Sublist.slnil))
       have hS47 : Hp w S [] wD_ := HD_.sub (List.Sublist.cons _ (List.Sublist.slnil))
       refine GO.made (HD_.ld (o := (0 + k * 1)) (ty := 5) (v := .int .u8 ((((swP X k).getD k 0)).toNat : Int)) 0 rfl (by kernel_rfl) (by rw [show (0 + k * 1) = k by omega]; exact by8_at (getD8 (by rw [swP_length]; omega)))) [0, 2, 3, 14, 15, 16, 17, 20, 25] [(0, .slice (some ⟨q, 0, none⟩) 32 32), (2, vi k), (3, vi (31 - k)), (14, .slice (some ⟨q, 0, none⟩) 32 32), (15, vi k), (16, .slice (some ⟨q, 0, none⟩) 32 32), (17, vi (31 - k)), (20, pt q (0 + (31 - k) * 1)), (25, lb ((((swP X k).getD k 0)).toNat : Int))] (by kernel_rfl) (by kernel_rfl) hS47 ?_
       refine GP.perm [0, 1, 2, 3, 4, 5, 6, 8, 9, 10, 11] (by kernel_rfl) rfl ?_
       rw [← hXd_]
       exact st23 _ HD_
   exact st21 _ H14
theorem Backward32_iter (X : List UInt8) (hX : X.length = 32) (A : Option Addr) (B : Nat) : Iter Try.prog 63 #[.pointer (some ⟨B, 0, none⟩)] 32 (fun k => #[.int .i64 ((31 - k : Nat) : Int), .int .u8 ((X.getD (31 - k) 0).toNat : Int)]) (fun W => W.cell? ⟨B, 0, none⟩ = some (.slice A 32 32) ∧ RdS W A (by8 X)) := by
 have h := Backward_iter X (by omega) A 32 B
 rw [hX] at h
 exact h
theorem Text_calls (X : List UInt8) (hX : X.length = 32) (w : World) : Calls Try.prog 21 #[.agg (by8 X).toArray] w fun e w' => e = .returned (.string (strOf (hexT X))) ∧ Hp w [] [] w' := by
 refine calls_R (args := [.agg (by8 X).toArray]) Try.func21 rfl Try.ntmps21 rfl ?_
 intro Q0 hRet hNor
 have H := Hp.start w
 refine RG.seqK fun K1 hK2 => ?_
 refine RG.region (by kernel_rfl) ?_
 obtain ⟨p3, w4, r5, H6⟩ := H.box (P := Try.prog) 24 (by8 X) (.agg (by8 X).toArray) rfl
 refine RL.sem (j := 1) (r5) [1] [(1, pt p3 0)] (by kernel_rfl) (by kernel_rfl) rfl ?_
 refine RL.run (j := 2) 1 [1] [(1, pt p3 0)] (by kernel_rfl) rfl ?_
 refine RL.k rfl hK2 (fun _ _ h => h) ?_
 refine RG.seqK fun K7 hK8 => ?_
 refine RG.region (by kernel_rfl) ?_
 obtain ⟨p9, w10, r11, H12⟩ := H6.alloc (P := Try.prog) 28 [.slice none 0 0] (by kernel_rfl)
 refine RL.sem (j := 1) (r11) [1, 3] [(1, pt p3 0), (3, pt p9 0)] (by kernel_rfl) (by kernel_rfl) rfl ?_
 refine RL.k rfl hK8 (fun _ _ h => h) ?_
 refine RG.seqK fun K13 hK14 => ?_
 refine RG.seqK fun K15 hK16 => ?_
 refine RG.region (by kernel_rfl) ?_
 refine RL.run (j := 1) 1 [3, 6] [(3, pt p9 0), (6, .slice (some ⟨p3, 0, none⟩) 32 32)] (by kernel_rfl) rfl ?_
 refine RL.call (j := 2) (Backward_calls (some ⟨p3, 0, none⟩) 32 32 w10) (by kernel_rfl) rfl (fun e_ w20 hR => ?_)
 obtain ⟨B17, rfl, H19⟩ := hR
 have H18 : Hp w [] [.blk p3 (by8 X) 24, .blk p9 [.slice none 0 0] 28, .blk B17 [.slice (some ⟨p3, 0, none⟩) 32 32] 28] w20 := H12.callNew H19
 refine ⟨_, rfl, [3, 7], [(3, pt p9 0), (7, .func (.func 63) #[] #[pt B17 0])], by kernel_rfl, ?_⟩
 refine RL.k rfl hK16 (fun _ _ h => h) ?_
 refine RG.block ?_
 have H21 := H18.rowNil 5 1
 refine RG.fit [3, 7] (M' := [(3, pt p9 0), (7, .func (.func 63) #[] #[pt B17 0])]) (by kernel_rfl) ?_
 refine RG.range H21 (gf := 63) (lb := #[pt B17 0]) rfl (enters_of Try.func63 (by kernel_rfl) rfl) (Xt := Option Addr × Nat) (fun k ⟨A_, c_⟩ => True) (fun k ⟨A_, c_⟩ => [.blk p3 (by8 X) 24, .blk p9 [.slice A_ (2 * k) c_] 28, .blk B17 [.slice (some ⟨p3, 0, none⟩) 32 32] 28, .row A_ (2 * k) c_ 5 1 (by8 (hexP X k))]) (fun ⟨A_, c_⟩ => False) (fun ⟨A_, c_⟩ => []) (N := 32) (enc := fun k => #[vi (31 - k), lb ((X.getD (31 - k) 0).toNat : Int)]) (Backward32_iter X hX (some ⟨p3, 0, none⟩) B17) (fun _ => rfl) ⟨none, 0⟩ trivial rfl (fun k s E W hx HW => ⟨(HW.blkAt 2 rfl).cell 0, HW.rdBlk (o := 0) (xs := by8 X) 0 32 rfl (sub_whole (by rw [by8_length, hX]))⟩) (fun k => [(9, lb ((X.getD (31 - k) 0).toNat : Int)), (8, vi (31 - k)), (3, pt p9 0), (7, .func (.func 63) #[] #[pt B17 0])]) (fun _ => rfl) ?_ ?_ ?_
 · skip
   rintro D25 l26 oR27 oB28 k ⟨A_, c_⟩ w22 K29 hk30 hx23 H24 hK31
   have hk9 := hk30
   have hxb := UInt8.toNat_lt (X.getD (31 - k) 0)
   refine RG.region (by kernel_rfl) ?_
   refine RL.run (j := 1) 1 [3, 5] [(3, pt p9 0), (5, lb ((X.getD (31 - k) 0).toNat : Int))] (by kernel_rfl) rfl ?_
   refine RL.done rfl (fun F_ hF_ hM_ => hK31 F_ _ [.blk p3 (by8 X) 24, .blk p9 [.slice A_ (2 * k) c_] 28, .blk B17 [.slice (some ⟨p3, 0, none⟩) 32 32] 28, .row A_ (2 * k) c_ 5 1 (by8 (hexP X k))] _ hF_ hM_ H24 ?_)
   intro w32 H33
   refine RG.block ?_
   refine RG.heldP (Hp w [] [.blk p3 (by8 X) 24, .blk B17 [.slice (some ⟨p3, 0, none⟩) 32 32] 28, .obj D25 DF, .obj l26 oB28]) (by kernel_rfl) (by kernel_rfl) (by kernel_rfl) (fun ⟨_, _, h_⟩ => h_) (fun c_ a_ d_ v_ w_ h_ => h_) ?_
   have H34 := H33.drew
   generalize ({ w32 with drawn := w32.drawn + 1 } : World) = w35 at H34 ⊢
   have hS36 : Hp w [] [.blk p3 (by8 X) 24, .blk B17 [.slice (some ⟨p3, 0, none⟩) 32 32] 28, .obj D25 DF, .obj l26 oB28] w35 := H34.sub (List.Sublist.cons_cons _ (List.Sublist.cons _ (List.Sublist.cons_cons _ (List.Sublist.cons _ (List.Sublist.cons_cons _ (List.Sublist.cons_cons _ (List.Sublist.slnil)))))))
   refine GP.r [1, 2] [(3, pt p9 0), (5, lb ((X.getD (31 - k) 0).toNat : Int)), (12, lb (Int.fdiv ((X.getD (31 - k) 0).toNat : Int) (2 ^ 4)))] [1, 2] hS36 ?_
   have e37 : (Int.fdiv ((X.getD (31 - k) 0).toNat : Int) (2 ^ 4)) = ((((X.getD (31 - k) 0).toNat / 16) : Nat) : Int) := n_shr _ 4
   refine GP.eq (M' := [(3, pt p9 0), (5, lb ((X.getD (31 - k) 0).toNat : Int)), (12, vb ((X.getD (31 - k) 0).toNat / 16))]) (by rw [e37]) ?_
   clear e37
   refine GP.s 3 (fun w_ H_ => run_strIdx (P := Try.prog) (k := .u8) (t := 9) (s := signs) (i := ((X.getD (31 - k) 0).toNat / 16)) (by kernel_rfl) (signs_at (by omega)) _) [(3, pt p9 0), (5, lb ((X.getD (31 - k) 0).toNat : Int)), (13, lb (((sg ((X.getD (31 - k) 0).toNat / 16))).toNat : Int))] hS36 ?_
   refine GP.r [4, 5] [(3, pt p9 0), (13, lb (((sg ((X.getD (31 - k) 0).toNat / 16))).toNat : Int)), (15, lb (Go.bits .and .u8 ((X.getD (31 - k) 0).toNat : Int) 15))] [1, 2, 3, 4, 5] hS36 ?_
   have e38 : (Go.bits .and .u8 ((X.getD (31 - k) 0).toNat : Int) 15) = ((((X.getD (31 - k) 0).toNat % 16) : Nat) : Int) := u8_and15 _
   refine GP.eq (M' := [(3, pt p9 0), (13, lb (((sg ((X.getD (31 - k) 0).toNat / 16))).toNat : Int)), (15, vb ((X.getD (31 - k) 0).toNat % 16))]) (by rw [e38]) ?_
   clear e38
   refine GP.s 6 (fun w_ H_ => run_strIdx (P := Try.prog) (k := .u8) (t := 9) (s := signs) (i := ((X.getD (31 - k) 0).toNat % 16)) (by kernel_rfl) (signs_at (by omega)) _) [(3, pt p9 0), (13, lb (((sg ((X.getD (31 - k) 0).toNat / 16))).toNat : Int)), (16, lb (((sg ((X.getD (31 - k) 0).toNat % 16))).toNat : Int))] hS36 ?_
   refine GP.named fun Xd_ hXd_ => ?_
   have st54 : ∀ (wD_ : World) (p45 : Nat), Hp w [] [.blk p3 (by8 X) 24, .blk p9 [.slice A_ (2 * k) c_] 28, .blk B17 [.slice (some ⟨p3, 0, none⟩) 32 32] 28, .row A_ (2 * k) c_ 5 1 (by8 (hexP X k)), .obj D25 DF, .obj l26 oB28, .row (some ⟨p45, 0, none⟩) 2 2 5 1 (by8 ([((sg ((X.getD (31 - k) 0).toNat / 16))), ((sg ((X.getD (31 - k) 0).toNat % 16)))] : List UInt8))] wD_ → Xd_ [1, 2, 3, 4, 5, 6, 0, 7] [(3, pt p9 0), (10, .slice A_ (2 * k) c_), (17, .slice (some ⟨p45, 0, none⟩) 2 2)] wD_ := by
     intro wD_ p45 HD_
     rw [hXd_]
     have hS55 : Hp w [] [.blk p3 (by8 X) 24, .blk B17 [.slice (some ⟨p3, 0, none⟩) 32 32] 28, .obj D25 DF, .obj l26 oB28] wD_ := HD_.sub (List.Sublist.cons_cons _ (List.Sublist.cons _ (List.Sublist.cons_cons _ (List.Sublist.cons _ (List.Sublist.cons_cons _ (List.Sublist.cons_cons _ (List.Sublist.cons _ (List.Sublist.slnil))))))))
     obtain ⟨A56, c57, w58, r59, H60⟩ := HD_.append (P := Try.prog) (e := 5) (sz := 1) (by_ := 1) (n := (2 * k)) (c := c_) (m := 2) (d := 2) (t := 28) (ty := 28) (xs := by8 (hexP X k)) (news := by8 ([((sg ((X.getD (31 - k) 0).toNat / 16))), ((sg ((X.getD (31 - k) 0).toNat % 16)))] : List UInt8)) 3 rfl (by kernel_rfl) (HD_.rdRow 6 rfl) (by first | (simp [by8_length]; done) | (rw [by8_length]; omega) | (rw [by8_length, putB_length])) (by8_one _) (by omega) (by simp only [maxLen]; omega)
     rw [← by8_append] at H60
     have hS61 : Hp w [] [.blk p3 (by8 X) 24, .blk B17 [.slice (some ⟨p3, 0, none⟩) 32 32] 28, .obj D25 DF, .obj l26 oB28] w58 := H60.sub (List.Sublist.cons_cons _ (List.Sublist.cons _ (List.Sublist.cons_cons _ (List.Sublist.cons _ (List.Sublist.cons_cons _ (List.Sublist.cons_cons _ (List.Sublist.cons _ (List.Sublist.slnil))))))))
     refine GP.made 8 r59 [3, 18] [(3, pt p9 0), (18, .slice A56 ((2 * k) + 2) c57)] (by kernel_rfl) (by kernel_rfl) (by kernel_rfl) hS61 ?_
     obtain ⟨w62, r63, H64⟩ := H60.st (P := Try.prog) (o := 0) (ty := 28) (v := .slice A56 ((2 * k) + 2) c57) 1 rfl (by kernel_rfl) (by simp) rfl
     have hS65 : Hp w [] [.blk p3 (by8 X) 24, .blk B17 [.slice (some ⟨p3, 0, none⟩) 32 32] 28, .obj D25 DF, .obj l26 oB28] w62 := H64.sub (List.Sublist.cons_cons _ (List.Sublist.cons _ (List.Sublist.cons_cons _ (List.Sublist.cons _ (List.Sublist.cons_cons _ (List.Sublist.cons_cons _ (List.Sublist.cons _ (List.Sublist.slnil))))))))
     refine GP.semU 9 r63 [] [] (by kernel_rfl) rfl rfl (by kernel_rfl) hS65 ?_
     have H66 : Hp w [] [.blk p3 (by8 X) 24, .blk p9 [.slice A56 ((2 * k) + 2) c57] 28, .blk B17 [.slice (some ⟨p3, 0, none⟩) 32 32] 28, .row A56 ((2 * k) + 2) c57 5 1 (by8 ((hexP X k) ++ ([((sg ((X.getD (31 - k) 0).toNat / 16))), ((sg ((X.getD (31 - k) 0).toNat % 16)))] : List UInt8))), .obj D25 DF, .obj l26 oB28] w62 := H64.sub (List.Sublist.cons_cons _ (List.Sublist.cons_cons _ (List.Sublist.cons_cons _ (List.Sublist.cons_cons _ (List.Sublist.cons_cons _ (List.Sublist.cons_cons _ (List.Sublist.cons _ (List.Sublist.slnil))))))))
     have H67 : Hp w [] [.blk p3 (by8 X) 24, .blk p9 [.slice A56 (2 * (k + 1)) c57] 28, .blk B17 [.slice (some ⟨p3, 0, none⟩) 32 32] 28, .row A56 (2 * (k + 1)) c57 5 1 (by8 (hexP X (k + 1))), .obj D25 DF, .obj l26 oB28] w62 := H66
     exact GP.fin (by kernel_rfl) (fun F_ hF_ hM_ => ⟨⟨A56, c57⟩, trivial, H67⟩)
   have st52 : ∀ (wD_ : World), Hp w [] [.blk p3 (by8 X) 24, .blk p9 [.slice A_ (2 * k) c_] 28, .blk B17 [.slice (some ⟨p3, 0, none⟩) 32 32] 28, .row A_ (2 * k) c_ 5 1 (by8 (hexP X k)), .obj D25 DF, .obj l26 oB28] wD_ → Xd_ [1, 2, 3, 4, 5, 6, 0] [(3, pt p9 0), (10, .slice A_ (2 * k) c_), (13, .int .u8 (((sg ((X.getD (31 - k) 0).toNat / 16))).toNat : Int)), (16, .int .u8 (((sg ((X.getD (31 - k) 0).toNat % 16))).toNat : Int))] wD_ := by
     intro wD_ HD_
     rw [hXd_]
     have hS68 : Hp w [] [.blk p3 (by8 X) 24, .blk B17 [.slice (some ⟨p3, 0, none⟩) 32 32] 28, .obj D25 DF, .obj l26 oB28] wD_ := HD_.sub (List.Sublist.cons_cons _ (List.Sublist.cons _ (List.Sublist.cons_cons _ (List.Sublist.cons _ (List.Sublist.cons_cons _ (List.Sublist.cons_cons _ (List.Sublist.slnil)))))))
     refine GP.all1 7 (by kernel_rfl) ?_
     · skip
       have hS69 : Hp w [] [.blk p3 (by8 X) 24, .blk B17 [.slice (some ⟨p3, 0, none⟩) 32 32] 28, .obj D25 DF, .obj l26 oB28] wD_ := HD_.sub (List.Sublist.cons_cons _ (List.Sublist.cons _ (List.Sublist.cons_cons _ (List.Sublist.cons _ (List.Sublist.cons_cons _ (List.Sublist.cons_cons _ (List.Sublist.slnil)))))))
       obtain ⟨p70, w71, r72, H73⟩ := HD_.madeRow (P := Try.prog) (Instr.buildSlice 28 2 #[(0, lb (((sg ((X.getD (31 - k) 0).toNat / 16))).toNat : Int)), (1, lb (((sg ((X.getD (31 - k) 0).toNat % 16))).toNat : Int))]) (fun b_ => .slice (some ⟨b_, 0, none⟩) 2 2) [lb (((sg ((X.getD (31 - k) 0).toNat / 16))).toNat : Int), lb (((sg ((X.getD (31 - k) 0).toNat % 16))).toNat : Int)] 5 2 2 1 (by kernel_rfl) (by decide) (by decide) rfl
       have hS74 : Hp w [] [.blk p3 (by8 X) 24, .blk B17 [.slice (some ⟨p3, 0, none⟩) 32 32] 28, .obj D25 DF, .obj l26 oB28] w71 := H73.sub (List.Sublist.cons_cons _ (List.Sublist.cons _ (List.Sublist.cons_cons _ (List.Sublist.cons _ (List.Sublist.cons_cons _ (List.Sublist.cons_cons _ (List.Sublist.cons _ (List.Sublist.slnil))))))))
       refine GO.made r72 [3, 10, 17] [(3, pt p9 0), (10, .slice A_ (2 * k) c_), (17, .slice (some ⟨p70, 0, none⟩) 2 2)] (by kernel_rfl) (by kernel_rfl) hS74 ?_
       refine GP.perm [1, 2, 3, 4, 5, 6, 0, 7] (by kernel_rfl) rfl ?_
       rw [← hXd_]
       exact st54 _ p70 H73
   have st53 : ∀ (wD_ : World) (p40 : Nat), Hp w [] [.blk p3 (by8 X) 24, .blk p9 [.slice A_ (2 * k) c_] 28, .blk B17 [.slice (some ⟨p3, 0, none⟩) 32 32] 28, .row A_ (2 * k) c_ 5 1 (by8 (hexP X k)), .obj D25 DF, .obj l26 oB28, .row (some ⟨p40, 0, none⟩) 2 2 5 1 (by8 ([((sg ((X.getD (31 - k) 0).toNat / 16))), ((sg ((X.getD (31 - k) 0).toNat % 16)))] : List UInt8))] wD_ → Xd_ [1, 2, 3, 4, 5, 6, 7] [(3, pt p9 0), (17, .slice (some ⟨p40, 0, none⟩) 2 2)] wD_ := by
     intro wD_ p40 HD_
     rw [hXd_]
     have hS75 : Hp w [] [.blk p3 (by8 X) 24, .blk B17 [.slice (some ⟨p3, 0, none⟩) 32 32] 28, .obj D25 DF, .obj l26 oB28] wD_ := HD_.sub (List.Sublist.cons_cons _ (List.Sublist.cons _ (List.Sublist.cons_cons _ (List.Sublist.cons _ (List.Sublist.cons_cons _ (List.Sublist.cons_cons _ (List.Sublist.cons _ (List.Sublist.slnil))))))))
     refine GP.all1 0 (by kernel_rfl) ?_
     · skip
       have hS76 : Hp w [] [.blk p3 (by8 X) 24, .blk B17 [.slice (some ⟨p3, 0, none⟩) 32 32] 28, .obj D25 DF, .obj l26 oB28] wD_ := HD_.sub (List.Sublist.cons_cons _ (List.Sublist.cons _ (List.Sublist.cons_cons _ (List.Sublist.cons _ (List.Sublist.cons_cons _ (List.Sublist.cons_cons _ (List.Sublist.cons _ (List.Sublist.slnil))))))))
       have hS77 : Hp w [] [.blk p3 (by8 X) 24, .blk B17 [.slice (some ⟨p3, 0, none⟩) 32 32] 28, .obj D25 DF, .obj l26 oB28] wD_ := HD_.sub (List.Sublist.cons_cons _ (List.Sublist.cons _ (List.Sublist.cons_cons _ (List.Sublist.cons _ (List.Sublist.cons_cons _ (List.Sublist.cons_cons _ (List.Sublist.cons _ (List.Sublist.slnil))))))))
       refine GO.made (HD_.ld (o := 0) (ty := 28) (v := .slice A_ (2 * k) c_) 1 rfl (by kernel_rfl) rfl) [3, 10, 17] [(3, pt p9 0), (10, .slice A_ (2 * k) c_), (17, .slice (some ⟨p40, 0, none⟩) 2 2)] (by kernel_rfl) (by kernel_rfl) hS77 ?_
       refine GP.perm [1, 2, 3, 4, 5, 6, 0, 7] (by kernel_rfl) rfl ?_
       rw [← hXd_]
       exact st54 _ p40 HD_
   have st51 : ∀ (wD_ : World), Hp w [] [.blk p3 (by8 X) 24, .blk p9 [.slice A_ (2 * k) c_] 28, .blk B17 [.slice (some ⟨p3, 0, none⟩) 32 32] 28, .row A_ (2 * k) c_ 5 1 (by8 (hexP X k)), .obj D25 DF, .obj l26 oB28] wD_ → Xd_ [1, 2, 3, 4, 5, 6] [(3, pt p9 0), (13, .int .u8 (((sg ((X.getD (31 - k) 0).toNat / 16))).toNat : Int)), (16, .int .u8 (((sg ((X.getD (31 - k) 0).toNat % 16))).toNat : Int))] wD_ := by
     intro wD_ HD_
     rw [hXd_]
     have hS78 : Hp w [] [.blk p3 (by8 X) 24, .blk B17 [.slice (some ⟨p3, 0, none⟩) 32 32] 28, .obj D25 DF, .obj l26 oB28] wD_ := HD_.sub (List.Sublist.cons_cons _ (List.Sublist.cons _ (List.Sublist.cons_cons _ (List.Sublist.cons _ (List.Sublist.cons_cons _ (List.Sublist.cons_cons _ (List.Sublist.slnil)))))))
     refine GP.all2 0 7 (by kernel_rfl) ?_ ?_
     · skip
       have hS79 : Hp w [] [.blk p3 (by8 X) 24, .blk B17 [.slice (some ⟨p3, 0, none⟩) 32 32] 28, .obj D25 DF, .obj l26 oB28] wD_ := HD_.sub (List.Sublist.cons_cons _ (List.Sublist.cons _ (List.Sublist.cons_cons _ (List.Sublist.cons _ (List.Sublist.cons_cons _ (List.Sublist.cons_cons _ (List.Sublist.slnil)))))))
       have hS80 : Hp w [] [.blk p3 (by8 X) 24, .blk B17 [.slice (some ⟨p3, 0, none⟩) 32 32] 28, .obj D25 DF, .obj l26 oB28] wD_ := HD_.sub (List.Sublist.cons_cons _ (List.Sublist.cons _ (List.Sublist.cons_cons _ (List.Sublist.cons _ (List.Sublist.cons_cons _ (List.Sublist.cons_cons _ (List.Sublist.slnil)))))))
       refine GO.made (HD_.ld (o := 0) (ty := 28) (v := .slice A_ (2 * k) c_) 1 rfl (by kernel_rfl) rfl) [3, 10, 13, 16] [(3, pt p9 0), (10, .slice A_ (2 * k) c_), (13, lb (((sg ((X.getD (31 - k) 0).toNat / 16))).toNat : Int)), (16, lb (((sg ((X.getD (31 - k) 0).toNat % 16))).toNat : Int))] (by kernel_rfl) (by kernel_rfl) hS80 ?_
       refine GP.perm [1, 2, 3, 4, 5, 6, 0] (by kernel_rfl) rfl ?_
       rw [← hXd_]
       exact st52 _ HD_
     · skip
       have hS81 : Hp w [] [.blk p3 (by8 X) 24, .blk B17 [.slice (some ⟨p3, 0, none⟩) 32 32] 28, .obj D25 DF, .obj l26 oB28] wD_ := HD_.sub (List.Sublist.cons_cons _ (List.Sublist.cons _ (List.Sublist.cons_cons _ (List.Sublist.cons _ (List.Sublist.cons_cons _ (List.Sublist.cons_cons _ (List.Sublist.slnil)))))))
       obtain ⟨p82, w83, r84, H85⟩ := HD_.madeRow (P := Try.prog) (Instr.buildSlice 28 2 #[(0, lb (((sg ((X.getD (31 - k) 0).toNat / 16))).toNat : Int)), (1, lb (((sg ((X.getD (31 - k) 0).toNat % 16))).toNat : Int))]) (fun b_ => .slice (some ⟨b_, 0, none⟩) 2 2) [lb (((sg ((X.getD (31 - k) 0).toNat / 16))).toNat : Int), lb (((sg ((X.getD (31 - k) 0).toNat % 16))).toNat : Int)] 5 2 2 1 (by kernel_rfl) (by decide) (by decide) rfl
       have hS86 : Hp w [] [.blk p3 (by8 X) 24, .blk B17 [.slice (some ⟨p3, 0, none⟩) 32 32] 28, .obj D25 DF, .obj l26 oB28] w83 := H85.sub (List.Sublist.cons_cons _ (List.Sublist.cons _ (List.Sublist.cons_cons _ (List.Sublist.cons _ (List.Sublist.cons_cons _ (List.Sublist.cons_cons _ (List.Sublist.cons _ (List.Sublist.slnil))))))))
       refine GO.made r84 [3, 17] [(3, pt p9 0), (17, .slice (some ⟨p82, 0, none⟩) 2 2)] (by kernel_rfl) (by kernel_rfl) hS86 ?_
       refine GP.perm [1, 2, 3, 4, 5, 6, 7] (by kernel_rfl) rfl ?_
       rw [← hXd_]
       exact st53 _ p82 H85
   exact st51 _ H34
 · skip
   rintro D90 ⟨A_, c_⟩ w87 hx88 H89
   refine RG.kk hK14 (fun _ _ h => h) ?_
   refine RG.seqK fun K91 hK92 => ?_
   refine RG.region (by kernel_rfl) ?_
   refine RL.sem (j := 1) (H89.ld (o := 0) (ty := 28) (v := .slice A_ (2 * 32) c_) 1 rfl (by kernel_rfl) rfl) [19] [(19, .slice A_ (2 * 32) c_)] (by kernel_rfl) (by kernel_rfl) rfl ?_
   refine RL.sem (j := 2) (run_toStr (P := Try.prog) (src := 28) (dst := 9) (A := A_) (bs := (hexP X 32)) (n := (2 * 32)) (c := c_) (by kernel_rfl) (by kernel_rfl) (H89.rdRow 3 rfl) (by rw [hexP_length])) [20] [(20, .string (strOf (hexP X 32)))] (by kernel_rfl) (by kernel_rfl) rfl ?_
   refine RL.run (j := 3) 1 [2] [(2, .string (strOf (hexP X 32)))] (by kernel_rfl) rfl ?_
   refine RL.k rfl hK92 (fun _ _ h => h) ?_
   refine RG.ret ?_
   have hD93 := H89.objAt 4 rfl
   have H94 : Hp w [] [.blk p3 (by8 X) 24, .blk p9 [.slice A_ (2 * 32) c_] 28, .blk B17 [.slice (some ⟨p3, 0, none⟩) 32 32] 28, .row A_ (2 * 32) c_ 5 1 (by8 (hexP X 32)), .obj D90 (.deferred none)] (World.putObj w87 D90 (.deferred none)) := H89.putObj 4 (.deferred none) rfl
   intro F_ hF_ hM_
   refine hRet _ _ (postK_1 hD93 rfl (RV.tmp rfl) ?_ F_ hF_ hM_)
   exact ⟨rfl, H94.sub (List.nil_sublist _)⟩
 · skip
   rintro D98 ⟨A_, c_⟩ w95 hx96 H97
   exact hx96.elim
theorem Parse_calls (s : List UInt8) (w : World) (hs : s.length ≤ maxLen) : Calls Try.prog 43 #[.string (strOf s)] w fun e w' => e = .returned (.tuple #[.agg (by8 (parT s)).toArray, .int .i64 ((parE s : Nat) : Int)]) ∧ Hp w [] [] w' := by
 have hsm : s.length ≤ 9223372036854775807 := Nat.le_trans hs (by decide)
 have hsz := strOf_size s
 refine calls_G (args := [.string (strOf s)]) Try.func43 rfl Try.ntmps43 rfl ?_
 intro Q0 hRet hNor hPan
 have H := Hp.start w
 refine G.sr fun K1 hK2 => ?_
 obtain ⟨p3, w4, r5, H6⟩ := H.alloc (P := Try.prog) 24 (by8 (List.replicate 32 0)) (by kernel_rfl)
 refine GL.s 1 (r5) [(0, .string (strOf s)), (2, pt p3 0)] ?_
 refine GL.r 2 1 [(0, .string (strOf s)), (2, pt p3 0)] ?_
 refine GL.q hK2 ?_
 refine G.sr fun K7 hK8 => ?_
 obtain ⟨p9, w10, r11, H12⟩ := H6.alloc (P := Try.prog) 24 (by8 (List.replicate 32 0)) (by kernel_rfl)
 refine GL.s 1 (r11) [(0, .string (strOf s)), (2, pt p3 0), (4, pt p9 0)] ?_
 refine GL.q hK8 ?_
 refine G.seqK fun K13 hK14 => ?_
 refine G.sr fun K15 hK16 => ?_
 refine GL.r 3 3 [(0, .string (strOf s)), (2, pt p3 0), (4, pt p9 0), (9, .bool (((strOf s).size : Int) != 64))] ?_
 refine GL.q hK16 ?_
 cases hb17 : (((strOf s).size : Int) != 64)
 · skip
   have hb17f : ((strOf s).size : Int) = 64 := bne_eq_false_iff_eq.1 hb17
   refine G.no rfl ?_
   refine G.skipK hK14 (fun _ _ h => h) ?_
   refine G.seqK fun K18 hK19 => ?_
   refine G.sr fun K20 hK21 => ?_
   refine GL.r 1 1 [(0, .string (strOf s)), (2, pt p3 0), (4, pt p9 0), (11, .string (strOf s))] ?_
   obtain ⟨k22, w23, r24, H25⟩ := H12.strRange (P := Try.prog) (t := 9) (by kernel_rfl) (strOf s)
   refine GL.s 2 (r24) [(0, .string (strOf s)), (2, pt p3 0), (4, pt p9 0), (12, pt k22 0)] ?_
   refine GL.q hK21 ?_
   refine G.block ?_
   have hs64 : s.length = 64 := by omega
   refine G.fit [0, 2, 4, 12] (M' := [(0, .string (strOf s)), (2, pt p3 0), (4, pt p9 0), (12, pt k22 0)]) (by kernel_rfl) ?_
   refine G.loop (X := Nat) (fun k => [(0, .string (strOf s)), (2, pt p3 0), (4, pt p9 0), (12, pt k22 0)]) (fun k w_ => (k ≤ 64 ∧ (s.take k).all hexOK = true) ∧ Hp w [] [.blk p3 (by8 (List.replicate 32 0)) 24, .blk p9 (by8 (pX s k)) 24, .obj k22 (.stringIter (strOf s) k)] w_) (fun k => 64 - k) 0 [0, 2, 4, 12] (by kernel_rfl) ⟨⟨by omega, by rw [List.take_zero]; rfl⟩, H25⟩ ?_
   rintro k w26 ⟨hi27, H28⟩
   refine G.eq (M' := [(0, .string (strOf s)), (2, pt p3 0), (4, pt p9 0), (12, pt k22 0)]) rfl ?_
   obtain ⟨hk64, hal⟩ := hi27
   by_cases hkk : k < 64
   · skip
     refine G.sr fun K29 hK30 => ?_
     obtain ⟨r31, wd32, w33, hr34, H35, h36⟩ := H28.strAny (P := Try.prog) 2 rfl (getD8 (bs := s) (k := k) (by omega)) 0
     refine GL.s 1 (hr34) [(0, .string (strOf s)), (2, pt p3 0), (4, pt p9 0), (12, pt k22 0), (13, .tuple #[.bool true, vi k, .int .i32 (r31 : Int)])] ?_
     refine GL.r 2 1 [(0, .string (strOf s)), (2, pt p3 0), (4, pt p9 0), (12, pt k22 0), (13, .tuple #[.bool true, vi k, .int .i32 (r31 : Int)]), (14, .bool true)] ?_
     refine GL.q hK30 ?_
     refine G.seqK fun K37 hK38 => ?_
     refine G.yes rfl ?_
     refine G.skipK hK38 (fun _ _ h => h) ?_
     refine G.block ?_
     refine G.sr fun K39 hK40 => ?_
     refine GL.r 2 2 [(0, .string (strOf s)), (2, pt p3 0), (4, pt p9 0), (5, vi k), (12, pt k22 0)] ?_
     refine GL.q hK40 ?_
     refine G.sr fun K41 hK42 => ?_
     refine GL.r 2 2 [(0, .string (strOf s)), (2, pt p3 0), (4, pt p9 0), (5, vi k), (12, pt k22 0), (16, .string (strOf s)), (17, vi k)] ?_
     refine GL.s 3 (run_strIdx (P := Try.prog) (k := .i64) (t := 9) (s := s) (i := k) (by kernel_rfl) (getD8 (by omega)) _) [(0, .string (strOf s)), (2, pt p3 0), (4, pt p9 0), (5, vi k), (12, pt k22 0), (18, lb (((s.getD k 0)).toNat : Int))] ?_
     refine GL.call (j := 4) (Index1_calls ((s.getD k 0)) w33) (by kernel_rfl) rfl (fun e_ w43 hR => ?_)
     obtain ⟨rfl, H45⟩ := hR
     have H44 : Hp w [] [.blk p3 (by8 (List.replicate 32 0)) 24, .blk p9 (by8 (pX s k)) 24, .obj k22 (.stringIter (strOf s) (k + wd32))] w43 := H35.callNil H45
     refine ⟨_, rfl, [0, 2, 4, 5, 12, 19], [(0, .string (strOf s)), (2, pt p3 0), (4, pt p9 0), (5, vi k), (12, pt k22 0), (19, li (hexZ ((s.getD k 0))))], by kernel_rfl, ?_⟩
     refine GL.r 5 1 [(0, .string (strOf s)), (2, pt p3 0), (4, pt p9 0), (5, vi k), (6, li (hexZ ((s.getD k 0)))), (12, pt k22 0)] ?_
     refine GL.q hK42 ?_
     refine G.seqK fun K46 hK47 => ?_
     refine G.sr fun K48 hK49 => ?_
     refine GL.r 2 2 [(0, .string (strOf s)), (2, pt p3 0), (4, pt p9 0), (5, vi k), (6, li (hexZ ((s.getD k 0)))), (12, pt k22 0), (21, .bool (decide ((hexZ ((s.getD k 0))) < 0)))] ?_
     refine GL.q hK49 ?_
     cases hb50 : (decide ((hexZ ((s.getD k 0))) < 0))
     · skip
       have hb50f := of_decide_eq_false hb50
       have hok := hexZ_pos (c := s.getD k 0) (by omega)
       have hdl := hexD_lt hok.1
       refine G.eq (M' := [(0, .string (strOf s)), (2, pt p3 0), (4, pt p9 0), (5, vi k), (6, vi (hexD (s.getD k 0))), (12, pt k22 0), (21, .bool false)]) (by rw [hok.2]) ?_
       refine G.no rfl ?_
       refine G.skipK hK47 (fun _ _ h => h) ?_
       refine G.region ?_
       refine GL.r 4 4 [(0, .string (strOf s)), (2, pt p3 0), (4, pt p9 0), (6, vi (hexD (s.getD k 0))), (12, pt k22 0), (24, li (IntKind.i64.wrap (Int.tdiv (k : Int) 2))), (26, li (IntKind.i64.wrap (Int.tdiv (k : Int) 2)))] ?_
       have e51 : (IntKind.i64.wrap (Int.tdiv (k : Int) 2)) = (((k / 2) : Nat) : Int) := i_quo 2 (by omega)
       rw [e51]
       clear e51
       refine GL.s 5 (run_idxArr (P := Try.prog) (k := .i64) (t := 24) (len := 32) (sz := 1) (b := p9) (o := 0) (j := (k / 2)) (by kernel_rfl) rfl (by omega)) [(0, .string (strOf s)), (2, pt p3 0), (4, pt p9 0), (6, vi (hexD (s.getD k 0))), (12, pt k22 0), (24, vi (k / 2)), (27, pt p9 (0 + (k / 2) * 1))] ?_
       refine GL.s 6 (H44.ld (o := (0 + (k / 2) * 1)) (ty := 5) (v := .int .u8 ((((pX s k).getD (k / 2) 0)).toNat : Int)) 1 rfl (by kernel_rfl) (by rw [show (0 + (k / 2) * 1) = (k / 2) by omega]; exact by8_at (getD8 (by rw [pX_length]; omega)))) [(0, .string (strOf s)), (2, pt p3 0), (4, pt p9 0), (6, vi (hexD (s.getD k 0))), (12, pt k22 0), (24, vi (k / 2)), (28, lb ((((pX s k).getD (k / 2) 0)).toNat : Int))] ?_
       refine GL.r 10 4 [(0, .string (strOf s)), (2, pt p3 0), (4, pt p9 0), (12, pt k22 0), (24, vi (k / 2)), (32, lb (Go.bits .or .u8 (IntKind.u8.wrap (((((pX s k).getD (k / 2) 0)).toNat : Int) * 2 ^ 4)) (IntKind.u8.wrap (((hexD (s.getD k 0)) : Nat) : Int))))] ?_
       have e52 : (IntKind.u8.wrap (((((pX s k).getD (k / 2) 0)).toNat : Int) * 2 ^ 4)) = ((((((pX s k).getD (k / 2) 0)).toNat * 16 % 256) : Nat) : Int) := u8_mul16 _
       have e53 : (IntKind.u8.wrap (((hexD (s.getD k 0)) : Nat) : Int)) = (((hexD (s.getD k 0)) : Nat) : Int) := in_u8 (by omega)
       have e54 : (Go.bits .or .u8 ((((((pX s k).getD (k / 2) 0)).toNat * 16 % 256) : Nat) : Int) (((hexD (s.getD k 0)) : Nat) : Int)) = (((nib (((pX s k).getD (k / 2) 0)) (hexD (s.getD k 0))).toNat : Nat) : Int) := u8_or16 hdl
       rw [e52, e53, e54]
       clear e52 e53 e54
       refine GL.s 11 (run_idxArr (P := Try.prog) (k := .i64) (t := 24) (len := 32) (sz := 1) (b := p9) (o := 0) (j := (k / 2)) (by kernel_rfl) rfl (by omega)) [(0, .string (strOf s)), (2, pt p3 0), (4, pt p9 0), (12, pt k22 0), (32, lb (((nib (((pX s k).getD (k / 2) 0)) (hexD (s.getD k 0))).toNat : Nat) : Int)), (33, pt p9 (0 + (k / 2) * 1))] ?_
       obtain ⟨w55, r56, H57⟩ := H44.st (P := Try.prog) (o := (0 + (k / 2) * 1)) (ty := 5) (v := .int .u8 (((nib (((pX s k).getD (k / 2) 0)) (hexD (s.getD k 0))).toNat : Nat) : Int)) 1 rfl (by kernel_rfl) (by rw [by8_length, pX_length]; omega) rfl
       rw [show (0 + (k / 2) * 1) = (k / 2) by omega, by8_set] at H57
       refine GL.u 12 r56 [(0, .string (strOf s)), (2, pt p3 0), (4, pt p9 0), (12, pt k22 0)] ?_
       have hwd : wd32 = 1 := h36 (hex_ascii hok.1)
       rw [hwd] at H57
       have H58 : Hp w [] [.blk p3 (by8 (List.replicate 32 0)) 24, .blk p9 (by8 (pX s (k + 1))) 24, .obj k22 (.stringIter (strOf s) (k + 1))] w55 := by rw [pX]; exact H57
       exact GL.againB (k + 1) [0, 2, 4, 12] rfl (by kernel_rfl) (by show 64 - (k + 1) < 64 - k; omega) ⟨⟨by omega, all_step (by omega) hal hok.1⟩, H58⟩
     · skip
       have hb50f := of_decide_eq_true hb50
       have hno := okT_no (s := s) (.inr ⟨k, by omega, hexZ_neg (by omega)⟩)
       refine G.yes rfl ?_
       refine G.sr fun K59 hK60 => ?_
       refine GL.r 1 1 [(2, pt p3 0), (22, .agg (by8 (List.replicate 32 0)).toArray)] ?_
       obtain ⟨w61, r62, H63⟩ := H44.stA (P := Try.prog) (o := 0) (vs := by8 (List.replicate 32 0)) (ty := 24) (m := 32) 0 rfl (by kernel_rfl) (by rw [by8_length, List.length_replicate]) (Nat.le_of_eq (by rw [Nat.zero_add]; exact ((show (by8 (List.replicate 32 0)).length = 32 from by rw [by8_length]; rfl)).symm)) (by8_one _)
       rw [st_whole (by rw [by8_length]; rfl)] at H63
       refine GL.u 2 r62 [(2, pt p3 0)] ?_
       refine GL.r 3 1 [(2, pt p3 0), (3, li 2)] ?_
       refine GL.q hK60 ?_
       refine G.ret fun F_ hF_ hM_ => hRet _ _ (bodyPost_2 rfl (RV.cell rfl (H63.ldA (o := 0) (ty := 24) (m := 32) (sub := by8 (List.replicate 32 0)) 0 rfl (by kernel_rfl) (sub_whole (by rw [by8_length, List.length_replicate])) (by rw [by8_length, List.length_replicate]))) (RV.tmp rfl) ?_ F_ hF_ hM_)
       obtain ⟨e1, e2⟩ := par_no hno
       rw [e1, e2]
       exact ⟨rfl, H63.sub (List.nil_sublist _)⟩
   · skip
     refine G.sr fun K64 hK65 => ?_
     refine GL.s 1 (H28.strEnd (P := Try.prog) 2 rfl (by omega) 0) [(0, .string (strOf s)), (2, pt p3 0), (4, pt p9 0), (12, pt k22 0), (13, .tuple #[.bool false])] ?_
     refine GL.r 2 1 [(0, .string (strOf s)), (2, pt p3 0), (4, pt p9 0), (12, pt k22 0), (13, .tuple #[.bool false]), (14, .bool false)] ?_
     refine GL.q hK65 ?_
     refine G.seqK fun K66 hK67 => ?_
     refine G.no rfl ?_
     refine G.exitK hK19 (fun _ _ h => h) ?_
     refine G.sr fun K68 hK69 => ?_
     refine GL.r 1 1 [(2, pt p3 0), (4, pt p9 0), (34, .slice (some ⟨p9, 0, none⟩) 32 32)] ?_
     have H70 := (Hp.reorder (L' := [.blk p9 (by8 (pX s k)) 24, .blk p3 (by8 (List.replicate 32 0)) 24, .obj k22 (.stringIter (strOf s) k)]) H28 (List.Perm.trans (List.Perm.swap _ _ _) (List.Perm.refl _)))
     refine GL.call (j := 2) (Reverse_calls (ids [.blk p9 (by8 (pX s k)) 24]) p9 (pX s k) (by rw [pX_length]) w26 (Hp.startL (A := [.blk p9 (by8 (pX s k)) 24]) (B := [.blk p3 (by8 (List.replicate 32 0)) 24, .obj k22 (.stringIter (strOf s) k)]) H70)) (by kernel_rfl) rfl (fun e_ w71 hR => ?_)
     obtain ⟨rfl, H73⟩ := hR
     have H72 : Hp w [] [.blk p9 (by8 (List.reverse (pX s k))) 24, .blk p3 (by8 (List.replicate 32 0)) 24, .obj k22 (.stringIter (strOf s) k)] w71 := Hp.callL (A := [.blk p9 (by8 (pX s k)) 24]) (B := [.blk p3 (by8 (List.replicate 32 0)) 24, .obj k22 (.stringIter (strOf s) k)]) H70 H73
     refine ⟨_, rfl, [2, 4], [(2, pt p3 0), (4, pt p9 0)], by kernel_rfl, ?_⟩
     refine GL.q hK69 ?_
     refine G.sr fun K74 hK75 => ?_
     refine GL.s 1 (H72.ldA (o := 0) (ty := 24) (m := 32) (sub := by8 (List.reverse (pX s k))) 0 rfl (by kernel_rfl) (sub_whole (by rw [by8_length, List.length_reverse, pX_length])) (by rw [by8_length, List.length_reverse, pX_length])) [(2, pt p3 0), (36, .agg (by8 (List.reverse (pX s k))).toArray)] ?_
     obtain ⟨w76, r77, H78⟩ := H72.stA (P := Try.prog) (o := 0) (vs := by8 (List.reverse (pX s k))) (ty := 24) (m := 32) 1 rfl (by kernel_rfl) (by rw [by8_length, List.length_reverse, pX_length]) (Nat.le_of_eq (by rw [Nat.zero_add]; exact ((show (by8 (List.replicate 32 0)).length = 32 from by rw [by8_length]; rfl)).symm)) (by8_one _)
     rw [st_whole (by rw [by8_length]; rfl)] at H78
     refine GL.u 2 r77 [(2, pt p3 0)] ?_
     refine GL.r 3 1 [(2, pt p3 0), (3, li 0)] ?_
     refine GL.q hK75 ?_
     refine G.ret fun F_ hF_ hM_ => hRet _ _ (bodyPost_2 rfl (RV.cell rfl (H78.ldA (o := 0) (ty := 24) (m := 32) (sub := by8 (List.reverse (pX s k))) 1 rfl (by kernel_rfl) (sub_whole (by rw [by8_length, List.length_reverse, pX_length])) (by rw [by8_length, List.length_reverse, pX_length]))) (RV.tmp rfl) ?_ F_ hF_ hM_)
     rw [show k = 64 by omega] at hal
     obtain ⟨_, e1, e2⟩ := par_yes hs64 (by rw [List.take_of_length_le (by omega)] at hal; exact hal)
     rw [e1, e2, show 64 = k by omega]
     exact ⟨rfl, H78.sub (List.nil_sublist _)⟩
 · skip
   have hb17f : ((strOf s).size : Int) ≠ 64 := bne_iff_ne.1 hb17
   have hno := okT_no (s := s) (.inl (by omega))
   refine G.yes rfl ?_
   refine G.sr fun K79 hK80 => ?_
   refine GL.r 1 1 [(2, pt p3 0), (10, .agg (by8 (List.replicate 32 0)).toArray)] ?_
   obtain ⟨w81, r82, H83⟩ := H12.stA (P := Try.prog) (o := 0) (vs := by8 (List.replicate 32 0)) (ty := 24) (m := 32) 0 rfl (by kernel_rfl) (by rw [by8_length, List.length_replicate]) (Nat.le_of_eq (by rw [Nat.zero_add]; exact ((show (by8 (List.replicate 32 0)).length = 32 from by rw [by8_length]; rfl)).symm)) (by8_one _)
   rw [st_whole (by rw [by8_length]; rfl)] at H83
   refine GL.u 2 r82 [(2, pt p3 0)] ?_
   refine GL.r 3 1 [(2, pt p3 0), (3, li 2)] ?_
   refine GL.q hK80 ?_
   refine G.ret fun F_ hF_ hM_ => hRet _ _ (bodyPost_2 rfl (RV.cell rfl (H83.ldA (o := 0) (ty := 24) (m := 32) (sub := by8 (List.replicate 32 0)) 0 rfl (by kernel_rfl) (sub_whole (by rw [by8_length, List.length_replicate])) (by rw [by8_length, List.length_replicate]))) (RV.tmp rfl) ?_ F_ hF_ hM_)
   obtain ⟨e1, e2⟩ := par_no hno
   rw [e1, e2]
   exact ⟨rfl, H83.sub (List.nil_sublist _)⟩
end Go.Proofs.Ytdepaaphgfapjaa
namespace Go.Proofs.Ytdepaaphgfapjaa
open Go.RowKit
def hdC (v : Nat) (A R : List UInt8) (t b n : Nat) : List Value := .int .u32 (v : Int) :: (by8 A ++ (by8 R ++ [.int .u32 (t : Int), .int .u32 (b : Int), .int .u32 (n : Int)]))
def hdB (v : Nat) (A R : List UInt8) (t b n : Nat) : List UInt8 := putB v 4 ++ A ++ R ++ putB t 4 ++ putB b 4 ++ putB n 4
section
variable {v t b n : Nat} {A R : List UInt8}
theorem hdC_length (hA : A.length = 32) (hR : R.length = 32) : (hdC v A R t b n).length = 68 := by simp [hdC, by8_length, hA, hR]
theorem hdB_length (hA : A.length = 32) (hR : R.length = 32) : (hdB v A R t b n).length = 80 := by simp [hdB, putB_length, hA, hR]
theorem hdC_tail (hA : A.length = 32) (hR : R.length = 32) (i : Nat) : (hdC v A R t b n)[65 + i]? = ([.int .u32 (t : Int), .int .u32 (b : Int), .int .u32 (n : Int)] : List Value)[i]? := by
 rw [hdC, show 65 + i = (32 + (32 + i)) + 1 by omega, List.getElem?_cons_succ, List.getElem?_append_right (by rw [by8_length]; omega), List.getElem?_append_right (by rw [by8_length, by8_length]; omega), by8_length, by8_length, hA, hR]
 congr 1
 omega
theorem hdC_t (hA : A.length = 32) (hR : R.length = 32) : (hdC v A R t b n)[65]? = some (.int .u32 (t : Int)) := hdC_tail hA hR 0
theorem hdC_b (hA : A.length = 32) (hR : R.length = 32) : (hdC v A R t b n)[66]? = some (.int .u32 (b : Int)) := hdC_tail hA hR 1
theorem hdC_n (hA : A.length = 32) (hR : R.length = 32) : (hdC v A R t b n)[67]? = some (.int .u32 (n : Int)) := hdC_tail hA hR 2
theorem hdC_A (hA : A.length = 32) : ((hdC v A R t b n).drop 1).take 32 = by8 A := by
 show (by8 A ++ _).take 32 = _
 exact List.take_left' (by rw [by8_length, hA])
theorem hdC_R (hA : A.length = 32) (hR : R.length = 32) : ((hdC v A R t b n).drop 33).take 32 = by8 R := by
 show ((by8 A ++ _).drop 32).take 32 = _
 rw [List.drop_left' (by rw [by8_length, hA])]
 exact List.take_left' (by rw [by8_length, hR])
theorem hdC_one : ∀ q ∈ hdC v A R t b n, q.oneCell' = true := by
 intro q hq
 simp only [hdC, List.mem_cons, List.mem_append, List.not_mem_nil, or_false] at hq
 rcases hq with rfl | h | h | rfl | rfl | rfl
 · rfl
 · exact by8_one _ q h
 · exact by8_one _ q h
 · rfl
 · rfl
 · rfl
end
theorem HBytes_calls (v : Nat) (A R : List UInt8) (t b n : Nat) (w : World) (hA : A.length = 32) (hR : R.length = 32) (hv : v < 4294967296) (ht : t < 4294967296) (hb : b < 4294967296) (hn : n < 4294967296) : Calls Try.prog 8 #[.agg (hdC v A R t b n).toArray] w fun e w' => ∃ A' c', e = .returned (.slice A' 80 c') ∧ Hp w [] [.row A' 80 c' 5 1 (by8 (hdB v A R t b n))] w' := by
 refine calls_G (args := [.agg (hdC v A R t b n).toArray]) Try.func8 rfl Try.ntmps8 rfl ?_
 intro Q0 hRet hNor hPan
 have H := Hp.start w
 refine G.sr fun K1 hK2 => ?_
 obtain ⟨p3, w4, r5, H6⟩ := H.box (P := Try.prog) 26 (hdC v A R t b n) (.agg (hdC v A R t b n).toArray) rfl
 refine GL.s 1 (r5) [(1, pt p3 0)] ?_
 refine GL.r 2 1 [(1, pt p3 0)] ?_
 refine GL.q hK2 ?_
 refine G.sr fun K7 hK8 => ?_
 obtain ⟨p9, w10, r11, H12⟩ := H6.alloc (P := Try.prog) 57 [.slice none 0 0] (by kernel_rfl)
 refine GL.s 1 (r11) [(1, pt p3 0), (3, pt p9 0)] ?_
 refine GL.q hK8 ?_
 refine G.sr fun K13 hK14 => ?_
 refine GL.r 1 1 [(1, pt p3 0), (3, pt p9 0), (6, pt p3 0)] ?_
 refine GL.s 2 (H12.ld (o := 0) (ty := 22) (v := vw v) 0 rfl (by kernel_rfl) (rfl)) [(1, pt p3 0), (3, pt p9 0), (7, vw v)] ?_
 refine GL.r 3 1 [(1, pt p3 0), (3, pt p9 0), (8, lu (IntKind.u64.wrap (v : Int)))] ?_
 have e15 : (IntKind.u64.wrap (v : Int)) = (v : Int) := in_u64 (by omega)
 rw [e15]
 clear e15
 have H16 := H12.rowNil 5 1
 have H19 := (Hp.reorder (L' := [.blk p9 [.slice none 0 0] 57, .row none 0 0 5 1 (by8 ([] : List UInt8)), .blk p3 (hdC v A R t b n) 26]) H16 (List.Perm.trans (List.Perm.swap _ _ _) (List.Perm.cons _ (List.Perm.trans (List.Perm.swap _ _ _) (List.Perm.refl _)))))
 refine GL.call (j := 4) (Put4_calls (ids [.blk p9 [.slice none 0 0] 57, .row none 0 0 5 1 (by8 ([] : List UInt8))]) p9 none 0 0 ([] : List UInt8) v w10 (Hp.startL (A := [.blk p9 [.slice none 0 0] 57, .row none 0 0 5 1 (by8 ([] : List UInt8))]) (B := [.blk p3 (hdC v A R t b n) 26]) H19) (by omega)) (by kernel_rfl) rfl (fun e_ w20 hR => ?_)
 obtain ⟨A17, c18, rfl, H22⟩ := hR
 have H21 : Hp w [] [.blk p9 [.slice A17 4 c18] 57, .row A17 4 c18 5 1 (by8 (putB v 4)), .blk p3 (hdC v A R t b n) 26] w20 := Hp.callL (A := [.blk p9 [.slice none 0 0] 57, .row none 0 0 5 1 (by8 ([] : List UInt8))]) (B := [.blk p3 (hdC v A R t b n) 26]) H19 H22
 refine ⟨_, rfl, [1, 3], [(1, pt p3 0), (3, pt p9 0)], by kernel_rfl, ?_⟩
 refine GL.q hK14 ?_
 refine G.sr fun K23 hK24 => ?_
 refine GL.r 2 2 [(1, pt p3 0), (3, pt p9 0), (11, .slice (some ⟨p3, 1, none⟩) 32 32)] ?_
 refine GL.call (j := 3) (WRaw_calls (ids [.blk p9 [.slice A17 4 c18] 57, .row A17 4 c18 5 1 (by8 (putB v 4))]) p9 A17 4 c18 (putB v 4) (some ⟨p3, 1, none⟩) 32 32 A w20 (Hp.startL (A := [.blk p9 [.slice A17 4 c18] 57, .row A17 4 c18 5 1 (by8 (putB v 4))]) (B := [.blk p3 (hdC v A R t b n) 26]) H21) (by omega) (RdO.blk (A' := [.blk p9 [.slice A17 4 c18] 57, .row A17 4 c18 5 1 (by8 (putB v 4))]) (B' := [.blk p3 (hdC v A R t b n) 26]) H21 0 32 rfl (hdC_A hA)) (by first | rfl | omega | (simp only [List.length_cons, List.length_nil, List.length_drop, List.length_take, List.length_append] <;> omega)) (by omega)) (by kernel_rfl) rfl (fun e_ w27 hR => ?_)
 obtain ⟨A25, c26, rfl, H29⟩ := hR
 have H28 : Hp w [] [.blk p9 [.slice A25 (4 + 32) c26] 57, .row A25 (4 + 32) c26 5 1 (by8 ((putB v 4) ++ A)), .blk p3 (hdC v A R t b n) 26] w27 := Hp.callL (A := [.blk p9 [.slice A17 4 c18] 57, .row A17 4 c18 5 1 (by8 (putB v 4))]) (B := [.blk p3 (hdC v A R t b n) 26]) H21 H29
 refine ⟨_, rfl, [1, 3], [(1, pt p3 0), (3, pt p9 0)], by kernel_rfl, ?_⟩
 refine GL.q hK24 ?_
 refine G.sr fun K30 hK31 => ?_
 refine GL.r 2 2 [(1, pt p3 0), (3, pt p9 0), (14, .slice (some ⟨p3, 33, none⟩) 32 32)] ?_
 refine GL.call (j := 3) (WRaw_calls (ids [.blk p9 [.slice A25 (4 + 32) c26] 57, .row A25 (4 + 32) c26 5 1 (by8 ((putB v 4) ++ A))]) p9 A25 (4 + 32) c26 ((putB v 4) ++ A) (some ⟨p3, 33, none⟩) 32 32 R w27 (Hp.startL (A := [.blk p9 [.slice A25 (4 + 32) c26] 57, .row A25 (4 + 32) c26 5 1 (by8 ((putB v 4) ++ A))]) (B := [.blk p3 (hdC v A R t b n) 26]) H28) (by omega) (RdO.blk (A' := [.blk p9 [.slice A25 (4 + 32) c26] 57, .row A25 (4 + 32) c26 5 1 (by8 ((putB v 4) ++ A))]) (B' := [.blk p3 (hdC v A R t b n) 26]) H28 0 32 rfl (hdC_R hA hR)) (by first | rfl | omega | (simp only [List.length_cons, List.length_nil, List.length_drop, List.length_take, List.length_append] <;> omega)) (by omega)) (by kernel_rfl) rfl (fun e_ w34 hR => ?_)
 obtain ⟨A32, c33, rfl, H36⟩ := hR
 have H35 : Hp w [] [.blk p9 [.slice A32 ((4 + 32) + 32) c33] 57, .row A32 ((4 + 32) + 32) c33 5 1 (by8 (((putB v 4) ++ A) ++ R)), .blk p3 (hdC v A R t b n) 26] w34 := Hp.callL (A := [.blk p9 [.slice A25 (4 + 32) c26] 57, .row A25 (4 + 32) c26 5 1 (by8 ((putB v 4) ++ A))]) (B := [.blk p3 (hdC v A R t b n) 26]) H28 H36
 refine ⟨_, rfl, [1, 3], [(1, pt p3 0), (3, pt p9 0)], by kernel_rfl, ?_⟩
 refine GL.q hK31 ?_
 refine G.seqK fun K37 hK38 => ?_
 refine G.sr fun K39 hK40 => ?_
 refine GL.r 1 1 [(1, pt p3 0), (3, pt p9 0), (16, pt p3 65)] ?_
 refine GL.s 2 (H35.ld (o := 65) (ty := 22) (v := vw t) 2 rfl (by kernel_rfl) (hdC_t hA hR)) [(1, pt p3 0), (3, pt p9 0), (17, vw t)] ?_
 refine GL.r 3 1 [(1, pt p3 0), (3, pt p9 0), (17, vw t), (18, pt p3 66)] ?_
 refine GL.s 4 (H35.ld (o := 66) (ty := 22) (v := vw b) 2 rfl (by kernel_rfl) (hdC_b hA hR)) [(1, pt p3 0), (3, pt p9 0), (17, vw t), (19, vw b)] ?_
 refine GL.r 5 1 [(3, pt p9 0), (17, vw t), (19, vw b), (20, pt p3 67)] ?_
 refine GL.s 6 (H35.ld (o := 67) (ty := 22) (v := vw n) 2 rfl (by kernel_rfl) (hdC_n hA hR)) [(3, pt p9 0), (17, vw t), (19, vw b), (21, vw n)] ?_
 refine GL.r 8 2 [(3, pt p9 0), (22, .agg #[vw t, vw b, vw n]), (23, li 0)] ?_
 refine GL.q hK40 ?_
 refine G.block ?_
 refine G.unroll 4 ?_
 refine G.sr fun K41 hK42 => ?_
 refine GL.r 1 1 [(3, pt p9 0), (22, .agg #[vw t, vw b, vw n]), (23, li 0), (24, .bool true)] ?_
 refine GL.q hK42 ?_
 refine G.seqK fun K43 hK44 => ?_
 refine G.yes rfl ?_
 refine G.skipK hK44 (fun _ _ h => h) ?_
 refine G.seqK fun K45 hK46 => ?_
 refine G.block ?_
 refine G.sr fun K47 hK48 => ?_
 refine GL.r 2 2 [(3, pt p9 0), (5, vw t), (22, .agg #[vw t, vw b, vw n]), (23, li 0)] ?_
 refine GL.q hK48 ?_
 refine G.region ?_
 refine GL.r 2 2 [(3, pt p9 0), (22, .agg #[vw t, vw b, vw n]), (23, li 0), (27, lu (IntKind.u64.wrap (t : Int)))] ?_
 have e49 : (IntKind.u64.wrap (t : Int)) = (t : Int) := in_u64 (by omega)
 rw [e49]
 clear e49
 refine GL.call (j := 3) (Put4_calls (ids [.blk p9 [.slice A32 ((4 + 32) + 32) c33] 57, .row A32 ((4 + 32) + 32) c33 5 1 (by8 (((putB v 4) ++ A) ++ R))]) p9 A32 ((4 + 32) + 32) c33 (((putB v 4) ++ A) ++ R) t w34 (Hp.startL (A := [.blk p9 [.slice A32 ((4 + 32) + 32) c33] 57, .row A32 ((4 + 32) + 32) c33 5 1 (by8 (((putB v 4) ++ A) ++ R))]) (B := [.blk p3 (hdC v A R t b n) 26]) H35) (by omega)) (by kernel_rfl) rfl (fun e_ w52 hR => ?_)
 obtain ⟨A50, c51, rfl, H54⟩ := hR
 have H53 : Hp w [] [.blk p9 [.slice A50 (((4 + 32) + 32) + 4) c51] 57, .row A50 (((4 + 32) + 32) + 4) c51 5 1 (by8 ((((putB v 4) ++ A) ++ R) ++ (putB t 4))), .blk p3 (hdC v A R t b n) 26] w52 := Hp.callL (A := [.blk p9 [.slice A32 ((4 + 32) + 32) c33] 57, .row A32 ((4 + 32) + 32) c33 5 1 (by8 (((putB v 4) ++ A) ++ R))]) (B := [.blk p3 (hdC v A R t b n) 26]) H35 H54
 refine ⟨_, rfl, [3, 22, 23], [(3, pt p9 0), (22, .agg #[vw t, vw b, vw n]), (23, li 0)], by kernel_rfl, ?_⟩
 refine GL.q hK46 ?_
 refine G.region ?_
 refine GL.r 2 2 [(3, pt p9 0), (22, .agg #[vw t, vw b, vw n]), (23, li 1)] ?_
 refine GL.round rfl ?_
 refine G.sr fun K55 hK56 => ?_
 refine GL.r 1 1 [(3, pt p9 0), (22, .agg #[vw t, vw b, vw n]), (23, li 1), (24, .bool true)] ?_
 refine GL.q hK56 ?_
 refine G.seqK fun K57 hK58 => ?_
 refine G.yes rfl ?_
 refine G.skipK hK58 (fun _ _ h => h) ?_
 refine G.seqK fun K59 hK60 => ?_
 refine G.block ?_
 refine G.sr fun K61 hK62 => ?_
 refine GL.r 2 2 [(3, pt p9 0), (5, vw b), (22, .agg #[vw t, vw b, vw n]), (23, li 1)] ?_
 refine GL.q hK62 ?_
 refine G.region ?_
 refine GL.r 2 2 [(3, pt p9 0), (22, .agg #[vw t, vw b, vw n]), (23, li 1), (27, lu (IntKind.u64.wrap (b : Int)))] ?_
 have e63 : (IntKind.u64.wrap (b : Int)) = (b : Int) := in_u64 (by omega)
 rw [e63]
 clear e63
 refine GL.call (j := 3) (Put4_calls (ids [.blk p9 [.slice A50 (((4 + 32) + 32) + 4) c51] 57, .row A50 (((4 + 32) + 32) + 4) c51 5 1 (by8 ((((putB v 4) ++ A) ++ R) ++ (putB t 4)))]) p9 A50 (((4 + 32) + 32) + 4) c51 ((((putB v 4) ++ A) ++ R) ++ (putB t 4)) b w52 (Hp.startL (A := [.blk p9 [.slice A50 (((4 + 32) + 32) + 4) c51] 57, .row A50 (((4 + 32) + 32) + 4) c51 5 1 (by8 ((((putB v 4) ++ A) ++ R) ++ (putB t 4)))]) (B := [.blk p3 (hdC v A R t b n) 26]) H53) (by omega)) (by kernel_rfl) rfl (fun e_ w66 hR => ?_)
 obtain ⟨A64, c65, rfl, H68⟩ := hR
 have H67 : Hp w [] [.blk p9 [.slice A64 ((((4 + 32) + 32) + 4) + 4) c65] 57, .row A64 ((((4 + 32) + 32) + 4) + 4) c65 5 1 (by8 (((((putB v 4) ++ A) ++ R) ++ (putB t 4)) ++ (putB b 4))), .blk p3 (hdC v A R t b n) 26] w66 := Hp.callL (A := [.blk p9 [.slice A50 (((4 + 32) + 32) + 4) c51] 57, .row A50 (((4 + 32) + 32) + 4) c51 5 1 (by8 ((((putB v 4) ++ A) ++ R) ++ (putB t 4)))]) (B := [.blk p3 (hdC v A R t b n) 26]) H53 H68
 refine ⟨_, rfl, [3, 22, 23], [(3, pt p9 0), (22, .agg #[vw t, vw b, vw n]), (23, li 1)], by kernel_rfl, ?_⟩
 refine GL.q hK60 ?_
 refine G.region ?_
 refine GL.r 2 2 [(3, pt p9 0), (22, .agg #[vw t, vw b, vw n]), (23, li 2)] ?_
 refine GL.round rfl ?_
 refine G.sr fun K69 hK70 => ?_
 refine GL.r 1 1 [(3, pt p9 0), (22, .agg #[vw t, vw b, vw n]), (23, li 2), (24, .bool true)] ?_
 refine GL.q hK70 ?_
 refine G.seqK fun K71 hK72 => ?_
 refine G.yes rfl ?_
 refine G.skipK hK72 (fun _ _ h => h) ?_
 refine G.seqK fun K73 hK74 => ?_
 refine G.block ?_
 refine G.sr fun K75 hK76 => ?_
 refine GL.r 2 2 [(3, pt p9 0), (5, vw n), (22, .agg #[vw t, vw b, vw n]), (23, li 2)] ?_
 refine GL.q hK76 ?_
 refine G.region ?_
 refine GL.r 2 2 [(3, pt p9 0), (22, .agg #[vw t, vw b, vw n]), (23, li 2), (27, lu (IntKind.u64.wrap (n : Int)))] ?_
 have e77 : (IntKind.u64.wrap (n : Int)) = (n : Int) := in_u64 (by omega)
 rw [e77]
 clear e77
 refine GL.call (j := 3) (Put4_calls (ids [.blk p9 [.slice A64 ((((4 + 32) + 32) + 4) + 4) c65] 57, .row A64 ((((4 + 32) + 32) + 4) + 4) c65 5 1 (by8 (((((putB v 4) ++ A) ++ R) ++ (putB t 4)) ++ (putB b 4)))]) p9 A64 ((((4 + 32) + 32) + 4) + 4) c65 (((((putB v 4) ++ A) ++ R) ++ (putB t 4)) ++ (putB b 4)) n w66 (Hp.startL (A := [.blk p9 [.slice A64 ((((4 + 32) + 32) + 4) + 4) c65] 57, .row A64 ((((4 + 32) + 32) + 4) + 4) c65 5 1 (by8 (((((putB v 4) ++ A) ++ R) ++ (putB t 4)) ++ (putB b 4)))]) (B := [.blk p3 (hdC v A R t b n) 26]) H67) (by omega)) (by kernel_rfl) rfl (fun e_ w80 hR => ?_)
 obtain ⟨A78, c79, rfl, H82⟩ := hR
 have H81 : Hp w [] [.blk p9 [.slice A78 (((((4 + 32) + 32) + 4) + 4) + 4) c79] 57, .row A78 (((((4 + 32) + 32) + 4) + 4) + 4) c79 5 1 (by8 ((((((putB v 4) ++ A) ++ R) ++ (putB t 4)) ++ (putB b 4)) ++ (putB n 4))), .blk p3 (hdC v A R t b n) 26] w80 := Hp.callL (A := [.blk p9 [.slice A64 ((((4 + 32) + 32) + 4) + 4) c65] 57, .row A64 ((((4 + 32) + 32) + 4) + 4) c65 5 1 (by8 (((((putB v 4) ++ A) ++ R) ++ (putB t 4)) ++ (putB b 4)))]) (B := [.blk p3 (hdC v A R t b n) 26]) H67 H82
 refine ⟨_, rfl, [3, 22, 23], [(3, pt p9 0), (22, .agg #[vw t, vw b, vw n]), (23, li 2)], by kernel_rfl, ?_⟩
 refine GL.q hK74 ?_
 refine G.region ?_
 refine GL.r 2 2 [(3, pt p9 0), (22, .agg #[vw t, vw b, vw n]), (23, li 3)] ?_
 refine GL.round rfl ?_
 refine G.sr fun K83 hK84 => ?_
 refine GL.r 1 1 [(3, pt p9 0), (22, .agg #[vw t, vw b, vw n]), (23, li 3), (24, .bool false)] ?_
 refine GL.q hK84 ?_
 refine G.seqK fun K85 hK86 => ?_
 refine G.no rfl ?_
 refine G.exitK hK38 (fun _ _ h => h) ?_
 refine G.sr fun K87 hK88 => ?_
 refine GL.call (j := 1) (WBytes_calls (ids [.blk p9 [.slice A78 (((((4 + 32) + 32) + 4) + 4) + 4) c79] 57, .row A78 (((((4 + 32) + 32) + 4) + 4) + 4) c79 5 1 (by8 ((((((putB v 4) ++ A) ++ R) ++ (putB t 4)) ++ (putB b 4)) ++ (putB n 4)))]) p9 A78 (((((4 + 32) + 32) + 4) + 4) + 4) c79 ((((((putB v 4) ++ A) ++ R) ++ (putB t 4)) ++ (putB b 4)) ++ (putB n 4)) w80 (Hp.startL (A := [.blk p9 [.slice A78 (((((4 + 32) + 32) + 4) + 4) + 4) c79] 57, .row A78 (((((4 + 32) + 32) + 4) + 4) + 4) c79 5 1 (by8 ((((((putB v 4) ++ A) ++ R) ++ (putB t 4)) ++ (putB b 4)) ++ (putB n 4)))]) (B := [.blk p3 (hdC v A R t b n) 26]) H81) (by omega)) (by kernel_rfl) rfl (fun e_ w91 hR => ?_)
 obtain ⟨A89, c90, rfl, H93⟩ := hR
 have H92 : Hp w [] [.blk p9 [.slice A78 (((((4 + 32) + 32) + 4) + 4) + 4) c79] 57, .row A78 (((((4 + 32) + 32) + 4) + 4) + 4) c79 5 1 (by8 ((((((putB v 4) ++ A) ++ R) ++ (putB t 4)) ++ (putB b 4)) ++ (putB n 4))), .row A89 (((((4 + 32) + 32) + 4) + 4) + 4) c90 5 1 (by8 ((((((putB v 4) ++ A) ++ R) ++ (putB t 4)) ++ (putB b 4)) ++ (putB n 4))), .blk p3 (hdC v A R t b n) 26] w91 := Hp.callL (A := [.blk p9 [.slice A78 (((((4 + 32) + 32) + 4) + 4) + 4) c79] 57, .row A78 (((((4 + 32) + 32) + 4) + 4) + 4) c79 5 1 (by8 ((((((putB v 4) ++ A) ++ R) ++ (putB t 4)) ++ (putB b 4)) ++ (putB n 4)))]) (B := [.blk p3 (hdC v A R t b n) 26]) H81 H93
 refine ⟨_, rfl, [30], [(30, .slice A89 (((((4 + 32) + 32) + 4) + 4) + 4) c90)], by kernel_rfl, ?_⟩
 refine GL.r 2 1 [(2, .slice A89 (((((4 + 32) + 32) + 4) + 4) + 4) c90)] ?_
 refine GL.q hK88 ?_
 refine G.ret fun F_ hF_ hM_ => hRet _ _ (bodyPost_1 rfl (RV.tmp rfl) ?_ F_ hF_ hM_)
 exact ⟨_, _, rfl, H92.sub (List.Sublist.cons _ (List.Sublist.cons _ (List.Sublist.cons_cons _ (List.Sublist.cons _ (List.Sublist.slnil)))))⟩
theorem HHash_calls (v : Nat) (A R : List UInt8) (t b n : Nat) (w : World) (hA : A.length = 32) (hR : R.length = 32) (hv : v < 4294967296) (ht : t < 4294967296) (hb : b < 4294967296) (hn : n < 4294967296) : Calls Try.prog 18 #[.agg (hdC v A R t b n).toArray] w fun e w' => e = .returned (.agg (by8 (sha (sha (hdB v A R t b n)))).toArray) ∧ Hp w [] [] w' := by
 refine calls_G (args := [.agg (hdC v A R t b n).toArray]) Try.func18 rfl Try.ntmps18 rfl ?_
 intro Q0 hRet hNor hPan
 have H := Hp.start w
 refine G.sr fun K1 hK2 => ?_
 obtain ⟨p3, w4, r5, H6⟩ := H.box (P := Try.prog) 26 (hdC v A R t b n) (.agg (hdC v A R t b n).toArray) rfl
 refine GL.s 1 (r5) [(1, pt p3 0)] ?_
 obtain ⟨p7, w8, r9, H10⟩ := H6.alloc (P := Try.prog) 24 (by8 (bsP (fun _ => 0) 32 0)) (by kernel_rfl)
 refine GL.s 2 (r9) [(1, pt p3 0), (2, pt p7 0)] ?_
 refine GL.q hK2 ?_
 refine G.sr fun K11 hK12 => ?_
 refine GL.s 1 (H10.ldA (o := 0) (ty := 26) (m := 68) (sub := hdC v A R t b n) 0 rfl (by kernel_rfl) (sub_whole (hdC_length hA hR)) (hdC_length hA hR)) [(2, pt p7 0), (3, .agg (hdC v A R t b n).toArray)] ?_
 refine GL.call (j := 2) (HBytes_calls v A R t b n w8 hA hR (by omega) (by omega) (by omega) (by omega)) (by kernel_rfl) rfl (fun e_ w15 hR => ?_)
 obtain ⟨A13, c14, rfl, H17⟩ := hR
 have H16 : Hp w [] [.blk p3 (hdC v A R t b n) 26, .blk p7 (by8 (bsP (fun _ => 0) 32 0)) 24, .row A13 80 c14 5 1 (by8 (hdB v A R t b n))] w15 := H10.callNew H17
 refine ⟨_, rfl, [2, 4], [(2, pt p7 0), (4, .slice A13 80 c14)], by kernel_rfl, ?_⟩
 refine GL.call (j := 3) (Double_calls A13 80 c14 (hdB v A R t b n) w15 (H16.rdRow 2 rfl) ((hdB_length hA hR).symm) (by rw [hdB_length hA hR]; decide)) (by kernel_rfl) rfl (fun e_ w18 hR => ?_)
 obtain ⟨rfl, H20⟩ := hR
 have H19 : Hp w [] [.blk p3 (hdC v A R t b n) 26, .blk p7 (by8 (bsP (fun _ => 0) 32 0)) 24, .row A13 80 c14 5 1 (by8 (hdB v A R t b n))] w18 := H16.callNil H20
 refine ⟨_, rfl, [2, 5], [(2, pt p7 0), (5, .agg (by8 (sha (sha (hdB v A R t b n)))).toArray)], by kernel_rfl, ?_⟩
 obtain ⟨w21, r22, H23⟩ := H19.stA (P := Try.prog) (o := 0) (vs := by8 (sha (sha (hdB v A R t b n)))) (ty := 24) (m := 32) 1 rfl (by kernel_rfl) (by rw [by8_length, sha_length]) (Nat.le_of_eq (by rw [Nat.zero_add]; exact ((show (by8 (bsP (fun _ => 0) 32 0)).length = 32 from by rw [by8_length, bsP_length (by omega)])).symm)) (by8_one _)
 rw [st_whole (by rw [by8_length, bsP_length (by omega)])] at H23
 refine GL.u 4 r22 [(2, pt p7 0)] ?_
 refine GL.q hK12 ?_
 refine G.ret fun F_ hF_ hM_ => hRet _ _ (bodyPost_1 rfl (RV.cell rfl (H23.ldA (o := 0) (ty := 24) (m := 32) (sub := by8 (sha (sha (hdB v A R t b n)))) 1 rfl (by kernel_rfl) (sub_whole (by rw [by8_length, sha_length])) (by rw [by8_length, sha_length]))) ?_ F_ hF_ hM_)
 exact ⟨rfl, H23.sub (List.nil_sublist _)⟩
end Go.Proofs.Ytdepaaphgfapjaa
