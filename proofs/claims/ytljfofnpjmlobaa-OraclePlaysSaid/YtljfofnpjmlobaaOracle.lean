/- The contracts of package oracle. -/
import Derived.Test.YtljfofnpjmlobaaRate
import Derived.Test.YtljfofnpjmlobaaNc
namespace Go.Proofs.Ytljfofnpjmlobaa
open Go.RowKit
/-- Between which the next price may be; why a price is refused; what is kept. -/
def lowV (m p : Nat) : Nat := if p = 0 then 1 else max (p - p * m / 1000) 1
def highV (m p : Nat) : Nat := if p = 0 then 1099511627776 else min (p + p * m / 1000) 1099511627776
def setE (m p t q n : Nat) : Nat := if ¬ (1 ≤ q ∧ q ≤ 1099511627776) ∨ 1099511627776 < n then 1 else if 0 < p ∧ n ≤ t then 11 else if q < lowV m p ∨ highV m p < q then 17 else 0
def setP (m p t q n : Nat) : Nat := if setE m p t q n = 0 then q else p
def setT (m p t q n : Nat) : Nat := if setE m p t q n = 0 then n else t
theorem move_le {m p : Nat} (hm : m ≤ 1000) : p * m / 1000 ≤ p := Nat.le_trans (Nat.div_le_div_right (Nat.mul_le_mul_left p hm)) (Nat.le_of_eq (Nat.mul_div_cancel _ (by decide)))
theorem set_cases (m p t q n : Nat) : (setE m p t q n = 1 ∧ setP m p t q n = p ∧ setT m p t q n = t ∧ (¬ (1 ≤ q ∧ q ≤ 1099511627776) ∨ 1099511627776 < n)) ∨
    (setE m p t q n = 11 ∧ setP m p t q n = p ∧ setT m p t q n = t ∧ ((1 ≤ q ∧ q ≤ 1099511627776) ∧ n ≤ 1099511627776) ∧ 0 < p ∧ n ≤ t) ∨
    (setE m p t q n = 17 ∧ setP m p t q n = p ∧ setT m p t q n = t ∧ ((1 ≤ q ∧ q ≤ 1099511627776) ∧ n ≤ 1099511627776) ∧ ¬ (0 < p ∧ n ≤ t) ∧ (q < lowV m p ∨ highV m p < q)) ∨
    (setE m p t q n = 0 ∧ setP m p t q n = q ∧ setT m p t q n = n ∧ ((1 ≤ q ∧ q ≤ 1099511627776) ∧ n ≤ 1099511627776) ∧ ¬ (0 < p ∧ n ≤ t) ∧ lowV m p ≤ q ∧ q ≤ highV m p) := by
  unfold setP setT setE
  generalize lowV m p = l
  generalize highV m p = h
  by_cases h1 : ¬ (1 ≤ q ∧ q ≤ 1099511627776) ∨ 1099511627776 < n
  · rw [if_pos h1]
    exact .inl ⟨rfl, rfl, rfl, h1⟩
  · rw [if_neg h1]
    by_cases h2 : 0 < p ∧ n ≤ t
    · rw [if_pos h2]
      exact .inr (.inl ⟨rfl, rfl, rfl, by omega, h2⟩)
    · rw [if_neg h2]
      by_cases h3 : q < l ∨ h < q
      · rw [if_pos h3]
        exact .inr (.inr (.inl ⟨rfl, rfl, rfl, by omega, h2, h3⟩))
      · rw [if_neg h3]
        exact .inr (.inr (.inr ⟨rfl, rfl, rfl, by omega, h2, by omega, by omega⟩))
theorem bounds_ok {m p : Nat} (hm : m ≤ 1000) (hp : 1 ≤ p) (hp2 : p ≤ 1099511627776) : 1 ≤ lowV m p ∧ lowV m p ≤ p ∧ p ≤ highV m p ∧ highV m p ≤ 1099511627776 := by
  have := move_le (p := p) hm
  unfold lowV highV
  rw [if_neg (by omega), if_neg (by omega)]
  generalize p * m / 1000 = u at *
  omega
theorem bounds_none (m : Nat) : lowV m 0 = 1 ∧ highV m 0 = 1099511627776 := ⟨rfl, rfl⟩
theorem high_le (m p : Nat) : highV m p ≤ 1099511627776 := by
  unfold highV
  split <;> omega
theorem low_lt {m p : Nat} (hp : p ≤ 1099511627776) : lowV m p ≤ 1099511627776 := by
  unfold lowV
  generalize p * m / 1000 = u
  split <;> omega
theorem Bounds_calls (b m g p t : Nat) (hm : m ≤ 1000) (hp : p ≤ 1099511627776) (w : World) (hb : Blk w b [.int .u64 (m : Int), .int .u64 (g : Int), .int .u64 (p : Int), .int .u64 (t : Int)] 46) : Calls Try.prog 8 #[pt b 0] w fun e w' => e = .returned (.tuple #[.int .u64 ((lowV m p : Nat) : Int), .int .u64 ((highV m p : Nat) : Int)]) ∧ Hp w [b] [.blk b [.int .u64 (m : Int), .int .u64 (g : Int), .int .u64 (p : Int), .int .u64 (t : Int)] 46] w' := by
  have hMX : MX = 4611686018427387904 := rfl
  have hK0 : K = 18446744073709551616 := rfl
  have hK40 : K4 = 115792089237316195423570985008687907853269984665640564039457584007913129639936 := rfl
  refine calls_G (args := [pt b 0]) Try.func8 rfl Try.ntmps8 rfl ?_
  intro Q0 hRet hNor hPan
  have H := Hp.startBlk hb
  have H : Hp w [b] [.blk b [.int .u64 (m : Int), .int .u64 (g : Int), .int .u64 (p : Int), .int .u64 (t : Int)] 46] w := H
  refine G.seqK fun K1 hK2 => ?_
  refine G.region ?_
  refine GL.run (j := 2) 2 [0] [(0, pt b 0)] (by kernel_rfl) rfl ?_
  refine GL.k rfl hK2 (fun _ _ h => h) ?_
  refine G.seqK fun K3 hK4 => ?_
  refine G.block ?_
  refine G.seqK fun K5 hK6 => ?_
  refine G.region ?_
  refine GL.run (j := 3) 3 [0, 6] [(0, pt b 0), (6, .bool false)] (by kernel_rfl) rfl ?_
  refine GL.k rfl hK6 (fun _ _ h => h) ?_
  refine G.no rfl ?_
  refine G.seqK fun K7 hK8 => ?_
  refine G.region ?_
  refine GL.run (j := 3) 3 [0, 12] [(0, pt b 0), (12, pt b 2)] (by kernel_rfl) rfl ?_
  refine GL.sem (j := 4) (H.ld (o := 2) (ty := 23) (v := .int .u64 (p : Int)) 0 rfl (by kernel_rfl) rfl) [0, 13] [(0, pt b 0), (13, .int .u64 (p : Int))] (by kernel_rfl) (by kernel_rfl) rfl ?_
  refine GL.run (j := 6) 2 [0, 9] [(0, pt b 0), (9, .bool ((p : Int) == 0))] (by kernel_rfl) rfl ?_
  refine GL.k rfl hK8 (fun _ _ h => h) ?_
  cases hb9 : ((p : Int) == 0)
  · skip
    have hb9f := ne_of_beq_false hb9
    refine G.no rfl ?_
    refine G.skipK hK4 (fun _ _ h => h) ?_
    refine G.seqK fun K10 hK11 => ?_
    refine G.heldP (Hp w [b] [.blk b [.int .u64 (m : Int), .int .u64 (g : Int), .int .u64 (p : Int), .int .u64 (t : Int)] 46]) (by kernel_rfl) (by kernel_rfl) (fun c_ a_ d_ v_ w_ h_ => hPan c_ a_ d_ v_ w_ h_) ?_
    have H12 := H.drew
    generalize ({ w with drawn := w.drawn + 1 } : World) = w13 at H12 ⊢
    have hS14 : Hp w [b] [.blk b [.int .u64 (m : Int), .int .u64 (g : Int), .int .u64 (p : Int), .int .u64 (t : Int)] 46] w13 := H12.sub (List.Sublist.cons_cons _ (List.Sublist.slnil))
    refine GP.run [0, 1, 2] [0, 18] [(0, pt b 0), (18, pt b 2)] [0, 1, 2] (by kernel_rfl) rfl hS14 ?_
    refine GP.sem 3 (fun w_ H_ => H_.ld (o := 2) (ty := 23) (v := .int .u64 (p : Int)) 0 rfl (by kernel_rfl) rfl) [0, 19] [(0, pt b 0), (19, .int .u64 (p : Int))] (by kernel_rfl) (by kernel_rfl) (by kernel_rfl) hS14 ?_
    refine GP.run [4, 5, 6, 7] [0, 19, 23] [(0, pt b 0), (19, .int .u64 (p : Int)), (23, pt b 0)] [0, 1, 2, 3, 4, 5, 6, 7] (by kernel_rfl) rfl hS14 ?_
    refine GP.sem 8 (fun w_ H_ => H_.ld (o := 0) (ty := 22) (v := .int .u64 (m : Int)) 0 rfl (by kernel_rfl) rfl) [0, 19, 24] [(0, pt b 0), (19, .int .u64 (p : Int)), (24, .int .u64 (m : Int))] (by kernel_rfl) (by kernel_rfl) (by kernel_rfl) hS14 ?_
    have hul := move_le (p := p) hm
    obtain ⟨eE, eV⟩ := part_ok (a := p) (u := m) (d := 1000) (m := false) (by omega) (by decide) (by rw [partQ_down]; omega)
    rw [partQ_down] at eV
    obtain ⟨U, hU⟩ : ∃ v : Nat, v = p * m / 1000 := ⟨_, rfl⟩
    rw [← hU] at eV hul
    refine GP.call 9 (Part_down p m 1000 (by omega) (by omega) (by decide) (by decide) w13) (by kernel_rfl) (by kernel_rfl) (fun e_ w15 hR => ?_)
    obtain ⟨he_, H17⟩ := hR
    rw [eE, eV] at he_
    subst he_
    have H16 : Hp w [b] [.blk b [.int .u64 (m : Int), .int .u64 (g : Int), .int .u64 (p : Int), .int .u64 (t : Int)] 46] w15 := H12.callNil H17
    have hS18 : Hp w [b] [.blk b [.int .u64 (m : Int), .int .u64 (g : Int), .int .u64 (p : Int), .int .u64 (t : Int)] 46] w15 := H16.sub (List.Sublist.cons_cons _ (List.Sublist.slnil))
    refine ⟨_, rfl, hS18, [0, 25], [(0, pt b 0), (25, .tuple #[.int .u64 (U : Int), .int .i64 0])], by kernel_rfl, ?_⟩
    refine GP.run [10, 11, 12, 13, 14] [0, 4] [(0, pt b 0), (4, .int .u64 (U : Int))] [0, 1, 2, 3, 4, 5, 6, 7, 8, 9, 10, 11, 12, 13, 14] (by kernel_rfl) rfl hS18 ?_
    refine GP.k (by kernel_rfl) hK11 (fun _ _ h => h) ?_
    refine G.seqK fun K19 hK20 => ?_
    refine G.draw H16 (by kernel_rfl) (by kernel_rfl) ?_
    refine GQ.run (j := 3) 3 [0, 4, 30] [(0, pt b 0), (4, .int .u64 (U : Int)), (30, pt b 2)] (by kernel_rfl) rfl ?_
    refine GQ.sem (j := 4) (fun w_ H_ => H_.ld (o := 2) (ty := 23) (v := .int .u64 (p : Int)) 0 rfl (by kernel_rfl) rfl) [0, 4, 31] [(0, pt b 0), (4, .int .u64 (U : Int)), (31, .int .u64 (p : Int))] (by kernel_rfl) (by kernel_rfl) rfl ?_
    refine GQ.run (j := 10) 6 [4, 34, 37] [(4, .int .u64 (U : Int)), (34, .int .u64 (if (1 : Int) > (IntKind.u64.wrap ((p : Int) - (U : Int))) then (1 : Int) else (IntKind.u64.wrap ((p : Int) - (U : Int))))), (37, pt b 2)] (by kernel_rfl) rfl ?_
    have e21 : (IntKind.u64.wrap ((p : Int) - (U : Int))) = ((p - U : Nat) : Int) := n_sub (a := p) (b := U) (by omega) (by omega)
    have e22 : (if (1 : Int) > ((p - U : Nat) : Int) then (1 : Int) else ((p - U : Nat) : Int)) = (((max (p - U) 1) : Nat) : Int) := max_int (p - U) 1
    refine GQ.eq (M' := [(4, .int .u64 (U : Int)), (34, .int .u64 (((max (p - U) 1) : Nat) : Int)), (37, pt b 2)]) (by rw [e21, e22]) ?_
    clear e21 e22
    refine GQ.sem (j := 11) (fun w_ H_ => H_.ld (o := 2) (ty := 23) (v := .int .u64 (p : Int)) 0 rfl (by kernel_rfl) rfl) [4, 34, 38] [(4, .int .u64 (U : Int)), (34, .int .u64 (((max (p - U) 1) : Nat) : Int)), (38, .int .u64 (p : Int))] (by kernel_rfl) (by kernel_rfl) rfl ?_
    refine GQ.run (j := 16) 5 [2, 3] [(2, .int .u64 (((max (p - U) 1) : Nat) : Int)), (3, .int .u64 (if (1099511627776 : Int) < (IntKind.u64.wrap ((p : Int) + (U : Int))) then (1099511627776 : Int) else (IntKind.u64.wrap ((p : Int) + (U : Int)))))] (by kernel_rfl) rfl ?_
    have e23 : (IntKind.u64.wrap ((p : Int) + (U : Int))) = ((p + U : Nat) : Int) := n_add' (a := p) (b := U) (by omega)
    have e24 : (if (1099511627776 : Int) < ((p + U : Nat) : Int) then (1099511627776 : Int) else ((p + U : Nat) : Int)) = (((min (p + U) 1099511627776) : Nat) : Int) := min_int (p + U) 1099511627776
    refine GQ.eq (M' := [(2, .int .u64 (((max (p - U) 1) : Nat) : Int)), (3, .int .u64 (((min (p + U) 1099511627776) : Nat) : Int))]) (by rw [e23, e24]) ?_
    clear e23 e24
    refine GQ.k rfl hK20 (fun _ _ h => h) (fun w25 H26 => ?_)
    refine G.ret ?_
    intro F_ hF_ hM_
    refine hRet _ _ (bodyPost_2 rfl (RV.tmp rfl) (RV.tmp rfl) ?_ F_ hF_ hM_)
    have e1 : lowV m p = (max (p - U) 1) := by rw [lowV, if_neg (by omega), ← hU]
    have e2 : highV m p = (min (p + U) 1099511627776) := by rw [highV, if_neg (by omega), ← hU]
    rw [e1, e2]
    exact ⟨rfl, H26⟩
  · skip
    have hb9f := eq_of_beq hb9
    refine G.yes rfl ?_
    refine G.seqK fun K27 hK28 => ?_
    refine G.region ?_
    refine GL.run (j := 2) 2 [2, 3] [(2, .int .u64 1), (3, .int .u64 1099511627776)] (by kernel_rfl) rfl ?_
    refine GL.k rfl hK28 (fun _ _ h => h) ?_
    refine G.ret ?_
    intro F_ hF_ hM_
    refine hRet _ _ (bodyPost_2 rfl (RV.tmp rfl) (RV.tmp rfl) ?_ F_ hF_ hM_)
    have e1 : lowV m p = 1 := by rw [lowV, if_pos (by omega)]
    have e2 : highV m p = 1099511627776 := by rw [highV, if_pos (by omega)]
    rw [e1, e2]
    exact ⟨rfl, H⟩
theorem Set_calls (b m g p t q n : Nat) (hm : m ≤ 1000) (hp : p ≤ 1099511627776) (ht : t < K) (hq : q < K) (hn : n < K) (w : World) (hb : Blk w b [.int .u64 (m : Int), .int .u64 (g : Int), .int .u64 (p : Int), .int .u64 (t : Int)] 46) : Calls Try.prog 7 #[pt b 0, .int .u64 (q : Int), .int .u64 (n : Int)] w fun e w' => e = .returned (.int .i64 ((setE m p t q n : Nat) : Int)) ∧ Hp w [b] [.blk b [.int .u64 (m : Int), .int .u64 (g : Int), .int .u64 (((setP m p t q n) : Nat) : Int), .int .u64 (((setT m p t q n) : Nat) : Int)] 46] w' := by
  have hMX : MX = 4611686018427387904 := rfl
  have hK0 : K = 18446744073709551616 := rfl
  have hK40 : K4 = 115792089237316195423570985008687907853269984665640564039457584007913129639936 := rfl
  refine calls_G (args := [pt b 0, .int .u64 (q : Int), .int .u64 (n : Int)]) Try.func7 rfl Try.ntmps7 rfl ?_
  intro Q0 hRet hNor hPan
  have H := Hp.startBlk hb
  have H : Hp w [b] [.blk b [.int .u64 (m : Int), .int .u64 (g : Int), .int .u64 (p : Int), .int .u64 (t : Int)] 46] w := H
  refine G.seqK fun K1 hK2 => ?_
  refine G.region ?_
  refine GL.run (j := 1) 1 [0, 1, 2] [(0, pt b 0), (1, .int .u64 (q : Int)), (2, .int .u64 (n : Int))] (by kernel_rfl) rfl ?_
  refine GL.k rfl hK2 (fun _ _ h => h) ?_
  refine G.seqK fun K3 hK4 => ?_
  refine G.block ?_
  refine G.seqK fun K5 hK6 => ?_
  refine G.region ?_
  refine GL.run (j := 4) 4 [0, 1, 2, 12, 13] [(0, pt b 0), (1, .int .u64 (q : Int)), (2, .int .u64 (n : Int)), (12, .bool false), (13, .int .u64 (q : Int))] (by kernel_rfl) rfl ?_
  refine GL.call (j := 5) (PRight_calls q w) (by kernel_rfl) rfl (fun e_ w7 hR => ?_)
  obtain ⟨rfl, H9⟩ := hR
  have H8 : Hp w [b] [.blk b [.int .u64 (m : Int), .int .u64 (g : Int), .int .u64 (p : Int), .int .u64 (t : Int)] 46] w7 := H.callNil H9
  refine ⟨_, rfl, [0, 1, 2, 12, 14], [(0, pt b 0), (1, .int .u64 (q : Int)), (2, .int .u64 (n : Int)), (12, .bool false), (14, .bool (decide (1 ≤ q ∧ q ≤ 1099511627776)))], by kernel_rfl, ?_⟩
  refine GL.run (j := 8) 3 [0, 1, 2, 17] [(0, pt b 0), (1, .int .u64 (q : Int)), (2, .int .u64 (n : Int)), (17, .bool (!(decide (1 ≤ q ∧ q ≤ 1099511627776))))] (by kernel_rfl) rfl ?_
  cases hb10 : (decide (1 ≤ q ∧ q ≤ 1099511627776))
  · skip
    have hb10f := of_decide_eq_false hb10
    refine GL.run (j := 12) 4 [0, 1, 2, 9] [(0, pt b 0), (1, .int .u64 (q : Int)), (2, .int .u64 (n : Int)), (9, .bool true)] (by kernel_rfl) rfl ?_
    refine GL.k rfl hK6 (fun _ _ h => h) ?_
    refine G.yes rfl ?_
    refine G.seqK fun K11 hK12 => ?_
    refine G.region ?_
    refine GL.run (j := 1) 1 [6] [(6, .int .i64 1)] (by kernel_rfl) rfl ?_
    refine GL.k rfl hK12 (fun _ _ h => h) ?_
    refine G.ret ?_
    intro F_ hF_ hM_
    refine hRet _ _ (bodyPost_1 rfl (RV.tmp rfl) ?_ F_ hF_ hM_)
    have c0 := set_cases m p t q n
    have e0 : setE m p t q n = 1 := by omega
    have e1 : setP m p t q n = p := by omega
    have e2 : setT m p t q n = t := by omega
    rw [e0, e1, e2]
    exact ⟨rfl, H8⟩
  · skip
    have hb10f := of_decide_eq_true hb10
    refine GL.run (j := 12) 4 [0, 1, 2, 9] [(0, pt b 0), (1, .int .u64 (q : Int)), (2, .int .u64 (n : Int)), (9, .bool (decide (1099511627776 < (n : Int))))] (by kernel_rfl) rfl ?_
    refine GL.k rfl hK6 (fun _ _ h => h) ?_
    cases hb13 : (decide (1099511627776 < (n : Int)))
    · skip
      have hb13f := of_decide_eq_false hb13
      refine G.no rfl ?_
      refine G.seqK fun K14 hK15 => ?_
      refine G.region ?_
      refine GL.run (j := 3) 3 [0, 1, 2, 24] [(0, pt b 0), (1, .int .u64 (q : Int)), (2, .int .u64 (n : Int)), (24, pt b 2)] (by kernel_rfl) rfl ?_
      refine GL.sem (j := 4) (H8.ld (o := 2) (ty := 23) (v := .int .u64 (p : Int)) 0 rfl (by kernel_rfl) rfl) [0, 1, 2, 25] [(0, pt b 0), (1, .int .u64 (q : Int)), (2, .int .u64 (n : Int)), (25, .int .u64 (p : Int))] (by kernel_rfl) (by kernel_rfl) rfl ?_
      refine GL.run (j := 6) 2 [0, 1, 2, 27] [(0, pt b 0), (1, .int .u64 (q : Int)), (2, .int .u64 (n : Int)), (27, .bool (decide (0 < (p : Int))))] (by kernel_rfl) rfl ?_
      cases hb16 : (decide (0 < (p : Int)))
      · skip
        have hb16f := of_decide_eq_false hb16
        refine GL.run (j := 14) 8 [0, 1, 2, 21] [(0, pt b 0), (1, .int .u64 (q : Int)), (2, .int .u64 (n : Int)), (21, .bool false)] (by kernel_rfl) rfl ?_
        refine GL.k rfl hK15 (fun _ _ h => h) ?_
        refine G.no rfl ?_
        refine G.skipK hK4 (fun _ _ h => h) ?_
        refine G.seqK fun K17 hK18 => ?_
        refine G.seqK fun K19 hK20 => ?_
        refine G.region ?_
        refine GL.run (j := 1) 1 [0, 1, 2, 36] [(0, pt b 0), (1, .int .u64 (q : Int)), (2, .int .u64 (n : Int)), (36, pt b 0)] (by kernel_rfl) rfl ?_
        refine GL.call (j := 2) (Bounds_calls b m g p t (by omega) (by omega) w7 (H8.blkAt 0 rfl)) (by kernel_rfl) rfl (fun e_ w21 hR => ?_)
        obtain ⟨rfl, H23⟩ := hR
        have H22 : Hp w [b] [.blk b [.int .u64 (m : Int), .int .u64 (g : Int), .int .u64 (p : Int), .int .u64 (t : Int)] 46] w21 := H8.callIn 0 rfl H23
        refine ⟨_, rfl, [0, 1, 2, 37], [(0, pt b 0), (1, .int .u64 (q : Int)), (2, .int .u64 (n : Int)), (37, .tuple #[.int .u64 (((lowV m p) : Nat) : Int), .int .u64 (((highV m p) : Nat) : Int)])], by kernel_rfl, ?_⟩
        refine GL.run (j := 7) 5 [0, 1, 2, 7, 8] [(0, pt b 0), (1, .int .u64 (q : Int)), (2, .int .u64 (n : Int)), (7, .int .u64 (((lowV m p) : Nat) : Int)), (8, .int .u64 (((highV m p) : Nat) : Int))] (by kernel_rfl) rfl ?_
        refine GL.k rfl hK20 (fun _ _ h => h) ?_
        refine G.seqK fun K24 hK25 => ?_
        refine G.region ?_
        refine GL.run (j := 4) 4 [0, 1, 2, 8, 43] [(0, pt b 0), (1, .int .u64 (q : Int)), (2, .int .u64 (n : Int)), (8, .int .u64 (((highV m p) : Nat) : Int)), (43, .bool (decide ((q : Int) < (((lowV m p) : Nat) : Int))))] (by kernel_rfl) rfl ?_
        cases hb26 : (decide ((q : Int) < (((lowV m p) : Nat) : Int)))
        · skip
          have hb26f := of_decide_eq_false hb26
          refine GL.run (j := 8) 4 [0, 1, 2, 47] [(0, pt b 0), (1, .int .u64 (q : Int)), (2, .int .u64 (n : Int)), (47, .bool (decide ((((highV m p) : Nat) : Int) < (q : Int))))] (by kernel_rfl) rfl ?_
          refine GL.k rfl hK25 (fun _ _ h => h) ?_
          cases hb27 : (decide ((((highV m p) : Nat) : Int) < (q : Int)))
          · skip
            have hb27f := of_decide_eq_false hb27
            refine G.no rfl ?_
            refine G.skipK hK18 (fun _ _ h => h) ?_
            refine G.seqK fun K28 hK29 => ?_
            refine G.region ?_
            refine GL.run (j := 6) 6 [49, 50, 51, 53] [(49, pt b 0), (50, .int .u64 (q : Int)), (51, .int .u64 (n : Int)), (53, pt b 2)] (by kernel_rfl) rfl ?_
            obtain ⟨w30, r31, H32⟩ := H22.st (P := Try.prog) (o := 2) (ty := 23) (v := .int .u64 (q : Int)) 0 rfl (by kernel_rfl) (by simp) rfl
            have H32 : Hp w [b] [.blk b [.int .u64 (m : Int), .int .u64 (g : Int), .int .u64 (q : Int), .int .u64 (t : Int)] 46] w30 := H32
            refine GL.semU (j := 7) r31 [49, 51] [(49, pt b 0), (51, .int .u64 (n : Int))] (by kernel_rfl) rfl rfl rfl ?_
            refine GL.run (j := 9) 2 [51, 55] [(51, .int .u64 (n : Int)), (55, pt b 3)] (by kernel_rfl) rfl ?_
            obtain ⟨w33, r34, H35⟩ := H32.st (P := Try.prog) (o := 3) (ty := 22) (v := .int .u64 (n : Int)) 0 rfl (by kernel_rfl) (by simp) rfl
            have H35 : Hp w [b] [.blk b [.int .u64 (m : Int), .int .u64 (g : Int), .int .u64 (q : Int), .int .u64 (n : Int)] 46] w33 := H35
            refine GL.semU (j := 10) r34 [] [] (by kernel_rfl) rfl rfl rfl ?_
            refine GL.k rfl hK29 (fun _ _ h => h) ?_
            refine G.seqK fun K36 hK37 => ?_
            refine G.region ?_
            refine GL.run (j := 1) 1 [6] [(6, .int .i64 0)] (by kernel_rfl) rfl ?_
            refine GL.k rfl hK37 (fun _ _ h => h) ?_
            refine G.ret ?_
            intro F_ hF_ hM_
            refine hRet _ _ (bodyPost_1 rfl (RV.tmp rfl) ?_ F_ hF_ hM_)
            have c0 := set_cases m p t q n
            have e0 : setE m p t q n = 0 := by omega
            have e1 : setP m p t q n = q := by omega
            have e2 : setT m p t q n = n := by omega
            rw [e0, e1, e2]
            exact ⟨rfl, H35⟩
          · skip
            have hb27f := of_decide_eq_true hb27
            refine G.yes rfl ?_
            refine G.seqK fun K38 hK39 => ?_
            refine G.region ?_
            refine GL.run (j := 1) 1 [6] [(6, .int .i64 17)] (by kernel_rfl) rfl ?_
            refine GL.k rfl hK39 (fun _ _ h => h) ?_
            refine G.ret ?_
            intro F_ hF_ hM_
            refine hRet _ _ (bodyPost_1 rfl (RV.tmp rfl) ?_ F_ hF_ hM_)
            have c0 := set_cases m p t q n
            have e0 : setE m p t q n = 17 := by omega
            have e1 : setP m p t q n = p := by omega
            have e2 : setT m p t q n = t := by omega
            rw [e0, e1, e2]
            exact ⟨rfl, H22⟩
        · skip
          have hb26f := of_decide_eq_true hb26
          refine GL.run (j := 8) 4 [0, 1, 2, 47] [(0, pt b 0), (1, .int .u64 (q : Int)), (2, .int .u64 (n : Int)), (47, .bool true)] (by kernel_rfl) rfl ?_
          refine GL.k rfl hK25 (fun _ _ h => h) ?_
          refine G.yes rfl ?_
          refine G.seqK fun K40 hK41 => ?_
          refine G.region ?_
          refine GL.run (j := 1) 1 [6] [(6, .int .i64 17)] (by kernel_rfl) rfl ?_
          refine GL.k rfl hK41 (fun _ _ h => h) ?_
          refine G.ret ?_
          intro F_ hF_ hM_
          refine hRet _ _ (bodyPost_1 rfl (RV.tmp rfl) ?_ F_ hF_ hM_)
          have c0 := set_cases m p t q n
          have e0 : setE m p t q n = 17 := by omega
          have e1 : setP m p t q n = p := by omega
          have e2 : setT m p t q n = t := by omega
          rw [e0, e1, e2]
          exact ⟨rfl, H22⟩
      · skip
        have hb16f := of_decide_eq_true hb16
        refine GL.run (j := 10) 4 [0, 1, 2, 27, 28, 31] [(0, pt b 0), (1, .int .u64 (q : Int)), (2, .int .u64 (n : Int)), (27, .bool true), (28, .int .u64 (n : Int)), (31, pt b 3)] (by kernel_rfl) rfl ?_
        refine GL.sem (j := 11) (H8.ld (o := 3) (ty := 22) (v := .int .u64 (t : Int)) 0 rfl (by kernel_rfl) rfl) [0, 1, 2, 27, 28, 32] [(0, pt b 0), (1, .int .u64 (q : Int)), (2, .int .u64 (n : Int)), (27, .bool true), (28, .int .u64 (n : Int)), (32, .int .u64 (t : Int))] (by kernel_rfl) (by kernel_rfl) rfl ?_
        refine GL.run (j := 14) 3 [0, 1, 2, 21] [(0, pt b 0), (1, .int .u64 (q : Int)), (2, .int .u64 (n : Int)), (21, .bool (decide ((n : Int) ≤ (t : Int))))] (by kernel_rfl) rfl ?_
        refine GL.k rfl hK15 (fun _ _ h => h) ?_
        cases hb42 : (decide ((n : Int) ≤ (t : Int)))
        · skip
          have hb42f := of_decide_eq_false hb42
          refine G.no rfl ?_
          refine G.skipK hK4 (fun _ _ h => h) ?_
          refine G.seqK fun K43 hK44 => ?_
          refine G.seqK fun K45 hK46 => ?_
          refine G.region ?_
          refine GL.run (j := 1) 1 [0, 1, 2, 36] [(0, pt b 0), (1, .int .u64 (q : Int)), (2, .int .u64 (n : Int)), (36, pt b 0)] (by kernel_rfl) rfl ?_
          refine GL.call (j := 2) (Bounds_calls b m g p t (by omega) (by omega) w7 (H8.blkAt 0 rfl)) (by kernel_rfl) rfl (fun e_ w47 hR => ?_)
          obtain ⟨rfl, H49⟩ := hR
          have H48 : Hp w [b] [.blk b [.int .u64 (m : Int), .int .u64 (g : Int), .int .u64 (p : Int), .int .u64 (t : Int)] 46] w47 := H8.callIn 0 rfl H49
          refine ⟨_, rfl, [0, 1, 2, 37], [(0, pt b 0), (1, .int .u64 (q : Int)), (2, .int .u64 (n : Int)), (37, .tuple #[.int .u64 (((lowV m p) : Nat) : Int), .int .u64 (((highV m p) : Nat) : Int)])], by kernel_rfl, ?_⟩
          refine GL.run (j := 7) 5 [0, 1, 2, 7, 8] [(0, pt b 0), (1, .int .u64 (q : Int)), (2, .int .u64 (n : Int)), (7, .int .u64 (((lowV m p) : Nat) : Int)), (8, .int .u64 (((highV m p) : Nat) : Int))] (by kernel_rfl) rfl ?_
          refine GL.k rfl hK46 (fun _ _ h => h) ?_
          refine G.seqK fun K50 hK51 => ?_
          refine G.region ?_
          refine GL.run (j := 4) 4 [0, 1, 2, 8, 43] [(0, pt b 0), (1, .int .u64 (q : Int)), (2, .int .u64 (n : Int)), (8, .int .u64 (((highV m p) : Nat) : Int)), (43, .bool (decide ((q : Int) < (((lowV m p) : Nat) : Int))))] (by kernel_rfl) rfl ?_
          cases hb52 : (decide ((q : Int) < (((lowV m p) : Nat) : Int)))
          · skip
            have hb52f := of_decide_eq_false hb52
            refine GL.run (j := 8) 4 [0, 1, 2, 47] [(0, pt b 0), (1, .int .u64 (q : Int)), (2, .int .u64 (n : Int)), (47, .bool (decide ((((highV m p) : Nat) : Int) < (q : Int))))] (by kernel_rfl) rfl ?_
            refine GL.k rfl hK51 (fun _ _ h => h) ?_
            cases hb53 : (decide ((((highV m p) : Nat) : Int) < (q : Int)))
            · skip
              have hb53f := of_decide_eq_false hb53
              refine G.no rfl ?_
              refine G.skipK hK44 (fun _ _ h => h) ?_
              refine G.seqK fun K54 hK55 => ?_
              refine G.region ?_
              refine GL.run (j := 6) 6 [49, 50, 51, 53] [(49, pt b 0), (50, .int .u64 (q : Int)), (51, .int .u64 (n : Int)), (53, pt b 2)] (by kernel_rfl) rfl ?_
              obtain ⟨w56, r57, H58⟩ := H48.st (P := Try.prog) (o := 2) (ty := 23) (v := .int .u64 (q : Int)) 0 rfl (by kernel_rfl) (by simp) rfl
              have H58 : Hp w [b] [.blk b [.int .u64 (m : Int), .int .u64 (g : Int), .int .u64 (q : Int), .int .u64 (t : Int)] 46] w56 := H58
              refine GL.semU (j := 7) r57 [49, 51] [(49, pt b 0), (51, .int .u64 (n : Int))] (by kernel_rfl) rfl rfl rfl ?_
              refine GL.run (j := 9) 2 [51, 55] [(51, .int .u64 (n : Int)), (55, pt b 3)] (by kernel_rfl) rfl ?_
              obtain ⟨w59, r60, H61⟩ := H58.st (P := Try.prog) (o := 3) (ty := 22) (v := .int .u64 (n : Int)) 0 rfl (by kernel_rfl) (by simp) rfl
              have H61 : Hp w [b] [.blk b [.int .u64 (m : Int), .int .u64 (g : Int), .int .u64 (q : Int), .int .u64 (n : Int)] 46] w59 := H61
              refine GL.semU (j := 10) r60 [] [] (by kernel_rfl) rfl rfl rfl ?_
              refine GL.k rfl hK55 (fun _ _ h => h) ?_
              refine G.seqK fun K62 hK63 => ?_
              refine G.region ?_
              refine GL.run (j := 1) 1 [6] [(6, .int .i64 0)] (by kernel_rfl) rfl ?_
              refine GL.k rfl hK63 (fun _ _ h => h) ?_
              refine G.ret ?_
              intro F_ hF_ hM_
              refine hRet _ _ (bodyPost_1 rfl (RV.tmp rfl) ?_ F_ hF_ hM_)
              have c0 := set_cases m p t q n
              have e0 : setE m p t q n = 0 := by omega
              have e1 : setP m p t q n = q := by omega
              have e2 : setT m p t q n = n := by omega
              rw [e0, e1, e2]
              exact ⟨rfl, H61⟩
            · skip
              have hb53f := of_decide_eq_true hb53
              refine G.yes rfl ?_
              refine G.seqK fun K64 hK65 => ?_
              refine G.region ?_
              refine GL.run (j := 1) 1 [6] [(6, .int .i64 17)] (by kernel_rfl) rfl ?_
              refine GL.k rfl hK65 (fun _ _ h => h) ?_
              refine G.ret ?_
              intro F_ hF_ hM_
              refine hRet _ _ (bodyPost_1 rfl (RV.tmp rfl) ?_ F_ hF_ hM_)
              have c0 := set_cases m p t q n
              have e0 : setE m p t q n = 17 := by omega
              have e1 : setP m p t q n = p := by omega
              have e2 : setT m p t q n = t := by omega
              rw [e0, e1, e2]
              exact ⟨rfl, H48⟩
          · skip
            have hb52f := of_decide_eq_true hb52
            refine GL.run (j := 8) 4 [0, 1, 2, 47] [(0, pt b 0), (1, .int .u64 (q : Int)), (2, .int .u64 (n : Int)), (47, .bool true)] (by kernel_rfl) rfl ?_
            refine GL.k rfl hK51 (fun _ _ h => h) ?_
            refine G.yes rfl ?_
            refine G.seqK fun K66 hK67 => ?_
            refine G.region ?_
            refine GL.run (j := 1) 1 [6] [(6, .int .i64 17)] (by kernel_rfl) rfl ?_
            refine GL.k rfl hK67 (fun _ _ h => h) ?_
            refine G.ret ?_
            intro F_ hF_ hM_
            refine hRet _ _ (bodyPost_1 rfl (RV.tmp rfl) ?_ F_ hF_ hM_)
            have c0 := set_cases m p t q n
            have e0 : setE m p t q n = 17 := by omega
            have e1 : setP m p t q n = p := by omega
            have e2 : setT m p t q n = t := by omega
            rw [e0, e1, e2]
            exact ⟨rfl, H48⟩
        · skip
          have hb42f := of_decide_eq_true hb42
          refine G.yes rfl ?_
          refine G.seqK fun K68 hK69 => ?_
          refine G.region ?_
          refine GL.run (j := 1) 1 [6] [(6, .int .i64 11)] (by kernel_rfl) rfl ?_
          refine GL.k rfl hK69 (fun _ _ h => h) ?_
          refine G.ret ?_
          intro F_ hF_ hM_
          refine hRet _ _ (bodyPost_1 rfl (RV.tmp rfl) ?_ F_ hF_ hM_)
          have c0 := set_cases m p t q n
          have e0 : setE m p t q n = 11 := by omega
          have e1 : setP m p t q n = p := by omega
          have e2 : setT m p t q n = t := by omega
          rw [e0, e1, e2]
          exact ⟨rfl, H8⟩
    · skip
      have hb13f := of_decide_eq_true hb13
      refine G.yes rfl ?_
      refine G.seqK fun K70 hK71 => ?_
      refine G.region ?_
      refine GL.run (j := 1) 1 [6] [(6, .int .i64 1)] (by kernel_rfl) rfl ?_
      refine GL.k rfl hK71 (fun _ _ h => h) ?_
      refine G.ret ?_
      intro F_ hF_ hM_
      refine hRet _ _ (bodyPost_1 rfl (RV.tmp rfl) ?_ F_ hF_ hM_)
      have c0 := set_cases m p t q n
      have e0 : setE m p t q n = 1 := by omega
      have e1 : setP m p t q n = p := by omega
      have e2 : setT m p t q n = t := by omega
      rw [e0, e1, e2]
      exact ⟨rfl, H8⟩
theorem Last_calls (b m g p t : Nat) (w : World) (hb : Blk w b [.int .u64 (m : Int), .int .u64 (g : Int), .int .u64 (p : Int), .int .u64 (t : Int)] 46) : Calls Try.prog 9 #[pt b 0] w fun e w' => e = .returned (.tuple #[.int .u64 (p : Int), .int .u64 (t : Int), .bool (decide (0 < p))]) ∧ Hp w [b] [.blk b [.int .u64 (m : Int), .int .u64 (g : Int), .int .u64 (p : Int), .int .u64 (t : Int)] 46] w' := by
  have hMX : MX = 4611686018427387904 := rfl
  have hK0 : K = 18446744073709551616 := rfl
  have hK40 : K4 = 115792089237316195423570985008687907853269984665640564039457584007913129639936 := rfl
  refine calls_G (args := [pt b 0]) Try.func9 rfl Try.ntmps9 rfl ?_
  intro Q0 hRet hNor hPan
  have H := Hp.startBlk hb
  have H : Hp w [b] [.blk b [.int .u64 (m : Int), .int .u64 (g : Int), .int .u64 (p : Int), .int .u64 (t : Int)] 46] w := H
  refine G.seqK fun K1 hK2 => ?_
  refine G.region ?_
  refine GL.run (j := 3) 3 [0] [(0, pt b 0)] (by kernel_rfl) rfl ?_
  refine GL.k rfl hK2 (fun _ _ h => h) ?_
  refine G.seqK fun K3 hK4 => ?_
  refine G.seqK fun K5 hK6 => ?_
  refine G.region ?_
  refine GL.run (j := 2) 2 [0, 6] [(0, pt b 0), (6, .bool false)] (by kernel_rfl) rfl ?_
  refine GL.k rfl hK6 (fun _ _ h => h) ?_
  refine G.no rfl ?_
  refine G.skipK hK4 (fun _ _ h => h) ?_
  refine G.seqK fun K7 hK8 => ?_
  refine G.draw H (by kernel_rfl) (by kernel_rfl) ?_
  refine GQ.run (j := 3) 3 [0, 9] [(0, pt b 0), (9, pt b 2)] (by kernel_rfl) rfl ?_
  refine GQ.sem (j := 4) (fun w_ H_ => H_.ld (o := 2) (ty := 23) (v := .int .u64 (p : Int)) 0 rfl (by kernel_rfl) rfl) [0, 10] [(0, pt b 0), (10, .int .u64 (p : Int))] (by kernel_rfl) (by kernel_rfl) rfl ?_
  refine GQ.run (j := 7) 3 [0, 10, 13] [(0, pt b 0), (10, .int .u64 (p : Int)), (13, pt b 3)] (by kernel_rfl) rfl ?_
  refine GQ.sem (j := 8) (fun w_ H_ => H_.ld (o := 3) (ty := 22) (v := .int .u64 (t : Int)) 0 rfl (by kernel_rfl) rfl) [0, 10, 14] [(0, pt b 0), (10, .int .u64 (p : Int)), (14, .int .u64 (t : Int))] (by kernel_rfl) (by kernel_rfl) rfl ?_
  refine GQ.run (j := 11) 3 [10, 14, 17] [(10, .int .u64 (p : Int)), (14, .int .u64 (t : Int)), (17, pt b 2)] (by kernel_rfl) rfl ?_
  refine GQ.sem (j := 12) (fun w_ H_ => H_.ld (o := 2) (ty := 23) (v := .int .u64 (p : Int)) 0 rfl (by kernel_rfl) rfl) [10, 14, 18] [(10, .int .u64 (p : Int)), (14, .int .u64 (t : Int)), (18, .int .u64 (p : Int))] (by kernel_rfl) (by kernel_rfl) rfl ?_
  refine GQ.run (j := 16) 4 [2, 3, 4] [(2, .int .u64 (p : Int)), (3, .int .u64 (t : Int)), (4, .bool (decide (0 < (p : Int))))] (by kernel_rfl) rfl ?_
  refine GQ.k rfl hK8 (fun _ _ h => h) (fun w9 H10 => ?_)
  refine G.ret ?_
  intro F_ hF_ hM_
  refine hRet _ _ (bodyPost_3 rfl (RV.tmp rfl) (RV.tmp rfl) (RV.tmp rfl) ?_ F_ hF_ hM_)
  have e0 : ((decide (0 < (p : Int))) : Bool) = decide (0 < p) := by rw [Bool.eq_iff_iff]; simp only [decide_eq_true_eq]; omega
  rw [e0]
  exact ⟨rfl, H10⟩
theorem New_calls (m g : Nat) (hm : m ≤ 1000) (hg : g ≤ 1099511627776) (w : World) : Calls Try.prog 6 #[.agg #[.int .u64 (m : Int), .int .u64 (g : Int)]] w fun e w' => ∃ b, e = .returned (.tuple #[.pointer (some ⟨b, 0, none⟩), .int .i64 0]) ∧ Hp w [] [.blk b [.int .u64 (m : Int), .int .u64 (g : Int), .int .u64 0, .int .u64 0] 46] w' := by
  refine calls_G (args := [.agg #[.int .u64 (m : Int), .int .u64 (g : Int)]]) Try.func6 rfl Try.ntmps6 rfl ?_
  intro Q0 hRet hNor hPan
  have H := Hp.start w
  have H : Hp w [] [] w := H
  refine G.seqK fun K1 hK2 => ?_
  refine G.region ?_
  obtain ⟨p3, w4, r5, H6⟩ := H.box (P := Try.prog) 30 [.int .u64 (m : Int), .int .u64 (g : Int)] (.agg #[.int .u64 (m : Int), .int .u64 (g : Int)]) rfl
  have H6 : Hp w [] [.blk p3 [.int .u64 (m : Int), .int .u64 (g : Int)] 30] w4 := H6
  refine GL.sem (j := 1) (r5) [1] [(1, pt p3 0)] (by kernel_rfl) (by kernel_rfl) rfl ?_
  refine GL.run (j := 3) 2 [1] [(1, pt p3 0)] (by kernel_rfl) rfl ?_
  refine GL.k rfl hK2 (fun _ _ h => h) ?_
  refine G.seqK fun K7 hK8 => ?_
  refine G.seqK fun K9 hK10 => ?_
  refine G.region ?_
  refine GL.run (j := 1) 1 [1, 4] [(1, pt p3 0), (4, pt p3 0)] (by kernel_rfl) rfl ?_
  refine GL.sem (j := 2) (H6.ld (o := 0) (ty := 22) (v := .int .u64 (m : Int)) 0 rfl (by kernel_rfl) rfl) [1, 5] [(1, pt p3 0), (5, .int .u64 (m : Int))] (by kernel_rfl) (by kernel_rfl) rfl ?_
  refine GL.run (j := 4) 2 [1, 7] [(1, pt p3 0), (7, .bool (decide (1000 < (m : Int))))] (by kernel_rfl) rfl ?_
  have hb11 : (decide (1000 < (m : Int))) = false := decide_eq_false (by omega)
  rw [hb11]
  refine GL.run (j := 5) 1 [1, 7, 8] [(1, pt p3 0), (7, .bool false), (8, pt p3 1)] (by kernel_rfl) rfl ?_
  refine GL.sem (j := 6) (H6.ld (o := 1) (ty := 22) (v := .int .u64 (g : Int)) 0 rfl (by kernel_rfl) rfl) [1, 7, 9] [(1, pt p3 0), (7, .bool false), (9, .int .u64 (g : Int))] (by kernel_rfl) (by kernel_rfl) rfl ?_
  refine GL.run (j := 8) 2 [1, 11] [(1, pt p3 0), (11, .bool (decide (1099511627776 < (g : Int))))] (by kernel_rfl) rfl ?_
  refine GL.k rfl hK10 (fun _ _ h => h) ?_
  have hb12 : (decide (1099511627776 < (g : Int))) = false := decide_eq_false (by omega)
  rw [hb12]
  refine G.no rfl ?_
  refine G.skipK hK8 (fun _ _ h => h) ?_
  refine G.seqK fun K13 hK14 => ?_
  refine G.region ?_
  refine GL.sem (j := 1) (H6.ldA (o := 0) (ty := 30) (m := 2) (sub := [.int .u64 (m : Int), .int .u64 (g : Int)]) 0 rfl (by kernel_rfl) rfl rfl) [12] [(12, .agg #[.int .u64 (m : Int), .int .u64 (g : Int)])] (by kernel_rfl) (by kernel_rfl) rfl ?_
  refine GL.run (j := 2) 1 [13] [(13, .agg #[.int .u64 (m : Int), .int .u64 (g : Int), .int .u64 0, .int .u64 0])] (by kernel_rfl) rfl ?_
  obtain ⟨p15, w16, r17, H18⟩ := H6.box (P := Try.prog) 46 [.int .u64 (m : Int), .int .u64 (g : Int), .int .u64 0, .int .u64 0] (.agg #[.int .u64 (m : Int), .int .u64 (g : Int), .int .u64 0, .int .u64 0]) rfl
  have H18 : Hp w [] [.blk p3 [.int .u64 (m : Int), .int .u64 (g : Int)] 30, .blk p15 [.int .u64 (m : Int), .int .u64 (g : Int), .int .u64 0, .int .u64 0] 46] w16 := H18
  refine GL.sem (j := 3) (r17) [14] [(14, pt p15 0)] (by kernel_rfl) (by kernel_rfl) rfl ?_
  refine GL.run (j := 5) 2 [2, 3] [(2, pt p15 0), (3, .int .i64 0)] (by kernel_rfl) rfl ?_
  refine GL.k rfl hK14 (fun _ _ h => h) ?_
  refine G.ret ?_
  intro F_ hF_ hM_
  refine hRet _ _ (bodyPost_2 rfl (RV.tmp rfl) (RV.tmp rfl) ?_ F_ hF_ hM_)
  have HF : Hp w [] [.blk p15 [.int .u64 (m : Int), .int .u64 (g : Int), .int .u64 0, .int .u64 0] 46] w16 := H18.sub (List.Sublist.cons _ (List.Sublist.cons_cons _ (List.Sublist.slnil)))
  exact ⟨_, rfl, HF⟩
end Go.Proofs.Ytljfofnpjmlobaa
