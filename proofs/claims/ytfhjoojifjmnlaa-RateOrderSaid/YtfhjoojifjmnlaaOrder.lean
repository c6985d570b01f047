/- What was enough is enough still: the walk. -/
import Derived.Test.YtfhjoojifjmnlaaLives
namespace Go.Proofs.Ytfhjoojifjmnlaa
open Go.RowKit
theorem RateOrder_calls (a b m f p q t u : Nat) (ha : a < K) (hb : b < K) (hm : m < K) (hf : f < K) (hp : p < K) (hq : q < K) (ht : t < K) (hu : u < K) (w : World) : Calls Try.prog 3 #[.int .u64 (a : Int), .int .u64 (b : Int), .int .u64 (m : Int), .int .u64 (f : Int), .int .u64 (p : Int), .int .u64 (q : Int), .int .u64 (t : Int), .int .u64 (u : Int)] w fun e w' => e = .returned (.bool true) ∧ Hp w [] [] w' := by
  have hMX : MX = 4611686018427387904 := rfl
  have hK0 : K = 18446744073709551616 := rfl
  have hK40 : K4 = 115792089237316195423570985008687907853269984665640564039457584007913129639936 := rfl
  refine calls_G (args := [.int .u64 (a : Int), .int .u64 (b : Int), .int .u64 (m : Int), .int .u64 (f : Int), .int .u64 (p : Int), .int .u64 (q : Int), .int .u64 (t : Int), .int .u64 (u : Int)]) Try.func3 rfl Try.ntmps3 rfl ?_
  intro Q0 hRet hNor hPan
  have H := Hp.start w
  have H : Hp w [] [] w := H
  refine G.seqK fun K1 hK2 => ?_
  refine G.region ?_
  refine GL.run (j := 1) 1 [0, 1, 2, 3, 4, 5, 6, 7, 16] [(0, .int .u64 (a : Int)), (1, .int .u64 (b : Int)), (2, .int .u64 (m : Int)), (3, .int .u64 (f : Int)), (4, .int .u64 (p : Int)), (5, .int .u64 (q : Int)), (6, .int .u64 (t : Int)), (7, .int .u64 (u : Int)), (16, .bool false)] (by kernel_rfl) rfl ?_
  refine GL.k rfl hK2 (fun _ _ h => h) ?_
  refine G.seqK fun K3 hK4 => ?_
  refine G.seqK fun K5 hK6 => ?_
  refine G.region ?_
  refine GL.call (j := 1) (lives_calls w) (by kernel_rfl) rfl (fun e_ w7 hR => ?_)
  obtain ⟨rfl, H9⟩ := hR
  have H8 : Hp w [] [] w7 := H.callNil H9
  refine ⟨_, rfl, [0, 1, 2, 3, 4, 5, 6, 7, 16, 17], [(0, .int .u64 (a : Int)), (1, .int .u64 (b : Int)), (2, .int .u64 (m : Int)), (3, .int .u64 (f : Int)), (4, .int .u64 (p : Int)), (5, .int .u64 (q : Int)), (6, .int .u64 (t : Int)), (7, .int .u64 (u : Int)), (16, .bool false), (17, .bool true)], by kernel_rfl, ?_⟩
  refine GL.run (j := 2) 1 [0, 1, 2, 3, 4, 5, 6, 7, 16, 18] [(0, .int .u64 (a : Int)), (1, .int .u64 (b : Int)), (2, .int .u64 (m : Int)), (3, .int .u64 (f : Int)), (4, .int .u64 (p : Int)), (5, .int .u64 (q : Int)), (6, .int .u64 (t : Int)), (7, .int .u64 (u : Int)), (16, .bool false), (18, .bool false)] (by kernel_rfl) rfl ?_
  refine GL.k rfl hK6 (fun _ _ h => h) ?_
  refine G.no rfl ?_
  refine G.skipK hK4 (fun _ _ h => h) ?_
  refine G.seqK fun K10 hK11 => ?_
  refine G.seqK fun K12 hK13 => ?_
  refine G.region ?_
  refine GL.run (j := 4) 4 [0, 1, 2, 3, 4, 5, 6, 7, 16, 18, 19, 20, 21, 22] [(0, .int .u64 (a : Int)), (1, .int .u64 (b : Int)), (2, .int .u64 (m : Int)), (3, .int .u64 (f : Int)), (4, .int .u64 (p : Int)), (5, .int .u64 (q : Int)), (6, .int .u64 (t : Int)), (7, .int .u64 (u : Int)), (16, .bool false), (18, .bool false), (19, .int .u64 (a : Int)), (20, .int .u64 (b : Int)), (21, .int .u64 (p : Int)), (22, .int .u64 (t : Int))] (by kernel_rfl) rfl ?_
  refine GL.call (j := 5) (Enough_calls a b p t ha hb hp ht w7) (by kernel_rfl) rfl (fun e_ w14 hR => ?_)
  obtain ⟨rfl, H16⟩ := hR
  have H15 : Hp w [] [] w14 := H8.callNil H16
  refine ⟨_, rfl, [0, 1, 2, 3, 4, 5, 6, 7, 16, 18, 23], [(0, .int .u64 (a : Int)), (1, .int .u64 (b : Int)), (2, .int .u64 (m : Int)), (3, .int .u64 (f : Int)), (4, .int .u64 (p : Int)), (5, .int .u64 (q : Int)), (6, .int .u64 (t : Int)), (7, .int .u64 (u : Int)), (16, .bool false), (18, .bool false), (23, .bool (enough a b p t))], by kernel_rfl, ?_⟩
  refine GL.run (j := 6) 1 [0, 1, 2, 3, 4, 5, 6, 7, 16, 18, 24] [(0, .int .u64 (a : Int)), (1, .int .u64 (b : Int)), (2, .int .u64 (m : Int)), (3, .int .u64 (f : Int)), (4, .int .u64 (p : Int)), (5, .int .u64 (q : Int)), (6, .int .u64 (t : Int)), (7, .int .u64 (u : Int)), (16, .bool false), (18, .bool false), (24, .bool (!(enough a b p t)))] (by kernel_rfl) rfl ?_
  refine GL.k rfl hK13 (fun _ _ h => h) ?_
  cases hb17 : (enough a b p t)
  · skip
    refine G.yes rfl ?_
    refine G.seqK fun K18 hK19 => ?_
    refine G.region ?_
    refine GL.run (j := 1) 1 [0, 1, 2, 3, 4, 5, 6, 7, 16, 18, 24] [(0, .int .u64 (a : Int)), (1, .int .u64 (b : Int)), (2, .int .u64 (m : Int)), (3, .int .u64 (f : Int)), (4, .int .u64 (p : Int)), (5, .int .u64 (q : Int)), (6, .int .u64 (t : Int)), (7, .int .u64 (u : Int)), (16, .bool true), (18, .bool false), (24, .bool true)] (by kernel_rfl) rfl ?_
    refine GL.k rfl hK19 (fun _ _ h => h) ?_
    refine G.ret ?_
    intro F_ hF_ hM_
    refine hRet _ _ (bodyPost_1 rfl (RV.tmp rfl) ?_ F_ hF_ hM_)
    exact ⟨rfl, H15.sub (List.nil_sublist _)⟩
  · skip
    have hE := hb17
    have hE0 := of_decide_eq_true hE
    refine G.no rfl ?_
    refine G.skipK hK11 (fun _ _ h => h) ?_
    refine G.seqK fun K20 hK21 => ?_
    refine G.region ?_
    refine GL.run (j := 5) 5 [0, 1, 2, 3, 4, 5, 6, 7, 16, 18, 24] [(0, .int .u64 (if (if (4611686018427387904 : Int) < (m : Int) then (4611686018427387904 : Int) else (m : Int)) > (a : Int) then (if (4611686018427387904 : Int) < (m : Int) then (4611686018427387904 : Int) else (m : Int)) else (a : Int))), (1, .int .u64 (b : Int)), (2, .int .u64 (m : Int)), (3, .int .u64 (f : Int)), (4, .int .u64 (p : Int)), (5, .int .u64 (q : Int)), (6, .int .u64 (t : Int)), (7, .int .u64 (u : Int)), (16, .bool false), (18, .bool false), (24, .bool false)] (by kernel_rfl) rfl ?_
    have e22 : (if (4611686018427387904 : Int) < (m : Int) then (4611686018427387904 : Int) else (m : Int)) = (((min m 4611686018427387904) : Nat) : Int) := min_int m 4611686018427387904
    have e23 : (if (((min m 4611686018427387904) : Nat) : Int) > (a : Int) then (((min m 4611686018427387904) : Nat) : Int) else (a : Int)) = (((max a (min m 4611686018427387904)) : Nat) : Int) := max_int a (min m 4611686018427387904)
    refine GL.eq (M' := [(0, .int .u64 (((max a (min m 4611686018427387904)) : Nat) : Int)), (1, .int .u64 (b : Int)), (2, .int .u64 (m : Int)), (3, .int .u64 (f : Int)), (4, .int .u64 (p : Int)), (5, .int .u64 (q : Int)), (6, .int .u64 (t : Int)), (7, .int .u64 (u : Int)), (16, .bool false), (18, .bool false), (24, .bool false)]) (by rw [e22, e23]) ?_
    clear e22 e23
    refine GL.k rfl hK21 (fun _ _ h => h) ?_
    refine G.seqK fun K24 hK25 => ?_
    refine G.region ?_
    refine GL.run (j := 14) 14 [0, 1, 2, 3, 4, 5, 6, 7, 16, 18, 24] [(0, .int .u64 (((max a (min m 4611686018427387904)) : Nat) : Int)), (1, .int .u64 (if (f : Int) < (b : Int) then (f : Int) else (b : Int))), (2, .int .u64 (m : Int)), (3, .int .u64 (f : Int)), (4, .int .u64 (if (if (q : Int) < (p : Int) then (q : Int) else (p : Int)) > (1 : Int) then (if (q : Int) < (p : Int) then (q : Int) else (p : Int)) else (1 : Int))), (5, .int .u64 (q : Int)), (6, .int .u64 (if (if (u : Int) < (t : Int) then (u : Int) else (t : Int)) > (1 : Int) then (if (u : Int) < (t : Int) then (u : Int) else (t : Int)) else (1 : Int))), (7, .int .u64 (u : Int)), (16, .bool false), (18, .bool false), (24, .bool false)] (by kernel_rfl) rfl ?_
    have e26 : (if (f : Int) < (b : Int) then (f : Int) else (b : Int)) = (((min b f) : Nat) : Int) := min_int b f
    have e27 : (if (q : Int) < (p : Int) then (q : Int) else (p : Int)) = (((min p q) : Nat) : Int) := min_int p q
    have e28 : (if (((min p q) : Nat) : Int) > (1 : Int) then (((min p q) : Nat) : Int) else (1 : Int)) = (((max 1 (min p q)) : Nat) : Int) := max_int 1 (min p q)
    have e29 : (if (u : Int) < (t : Int) then (u : Int) else (t : Int)) = (((min t u) : Nat) : Int) := min_int t u
    have e30 : (if (((min t u) : Nat) : Int) > (1 : Int) then (((min t u) : Nat) : Int) else (1 : Int)) = (((max 1 (min t u)) : Nat) : Int) := max_int 1 (min t u)
    refine GL.eq (M' := [(0, .int .u64 (((max a (min m 4611686018427387904)) : Nat) : Int)), (1, .int .u64 (((min b f) : Nat) : Int)), (2, .int .u64 (m : Int)), (3, .int .u64 (f : Int)), (4, .int .u64 (((max 1 (min p q)) : Nat) : Int)), (5, .int .u64 (q : Int)), (6, .int .u64 (((max 1 (min t u)) : Nat) : Int)), (7, .int .u64 (u : Int)), (16, .bool false), (18, .bool false), (24, .bool false)]) (by rw [e26, e27, e28, e29, e30]) ?_
    clear e26 e27 e28 e29 e30
    refine GL.k rfl hK25 (fun _ _ h => h) ?_
    refine G.seqK fun K31 hK32 => ?_
    refine G.region ?_
    refine GL.run (j := 4) 4 [0, 1, 2, 3, 4, 5, 6, 7, 16, 18, 24, 40, 41, 42, 43] [(0, .int .u64 (((max a (min m 4611686018427387904)) : Nat) : Int)), (1, .int .u64 (((min b f) : Nat) : Int)), (2, .int .u64 (m : Int)), (3, .int .u64 (f : Int)), (4, .int .u64 (((max 1 (min p q)) : Nat) : Int)), (5, .int .u64 (q : Int)), (6, .int .u64 (((max 1 (min t u)) : Nat) : Int)), (7, .int .u64 (u : Int)), (16, .bool false), (18, .bool false), (24, .bool false), (40, .int .u64 (((max a (min m 4611686018427387904)) : Nat) : Int)), (41, .int .u64 (((min b f) : Nat) : Int)), (42, .int .u64 (((max 1 (min p q)) : Nat) : Int)), (43, .int .u64 (((max 1 (min t u)) : Nat) : Int))] (by kernel_rfl) rfl ?_
    refine GL.call (j := 5) (Enough_calls (max a (min m 4611686018427387904)) (min b f) (max 1 (min p q)) (max 1 (min t u)) (by omega) (by omega) (by omega) (by omega) w14) (by kernel_rfl) rfl (fun e_ w33 hR => ?_)
    obtain ⟨rfl, H35⟩ := hR
    have H34 : Hp w [] [] w33 := H15.callNil H35
    refine ⟨_, rfl, [0, 1, 2, 3, 4, 5, 6, 7, 16, 18, 24, 44], [(0, .int .u64 (((max a (min m 4611686018427387904)) : Nat) : Int)), (1, .int .u64 (((min b f) : Nat) : Int)), (2, .int .u64 (m : Int)), (3, .int .u64 (f : Int)), (4, .int .u64 (((max 1 (min p q)) : Nat) : Int)), (5, .int .u64 (q : Int)), (6, .int .u64 (((max 1 (min t u)) : Nat) : Int)), (7, .int .u64 (u : Int)), (16, .bool false), (18, .bool false), (24, .bool false), (44, .bool (enough (max a (min m 4611686018427387904)) (min b f) (max 1 (min p q)) (max 1 (min t u))))], by kernel_rfl, ?_⟩
    refine GL.run (j := 6) 1 [0, 1, 2, 3, 4, 5, 6, 7, 16, 18, 24] [(0, .int .u64 (((max a (min m 4611686018427387904)) : Nat) : Int)), (1, .int .u64 (((min b f) : Nat) : Int)), (2, .int .u64 (m : Int)), (3, .int .u64 (f : Int)), (4, .int .u64 (((max 1 (min p q)) : Nat) : Int)), (5, .int .u64 (q : Int)), (6, .int .u64 (((max 1 (min t u)) : Nat) : Int)), (7, .int .u64 (u : Int)), (16, .bool (enough (max a (min m 4611686018427387904)) (min b f) (max 1 (min p q)) (max 1 (min t u)))), (18, .bool false), (24, .bool false)] (by kernel_rfl) rfl ?_
    refine GL.k rfl hK32 (fun _ _ h => h) ?_
    refine G.ret ?_
    intro F_ hF_ hM_
    refine hRet _ _ (bodyPost_1 rfl (RV.tmp rfl) ?_ F_ hF_ hM_)
    have hb36 : (enough (max a (min m 4611686018427387904)) (min b f) (max 1 (min p q)) (max 1 (min t u))) = true := enough_mono hE (by omega) (by omega) (by omega) (by omega) (by omega) (by omega) (by omega)
    rw [hb36]
    exact ⟨rfl, H34.sub (List.nil_sublist _)⟩
end Go.Proofs.Ytfhjoojifjmnlaa
