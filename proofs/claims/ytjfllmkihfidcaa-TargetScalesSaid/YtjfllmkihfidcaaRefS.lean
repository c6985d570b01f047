/- The document's scaled target. -/
import Derived.Test.YtjfllmkihfidcaaRefW
import Derived.Test.YtjfllmkihfidcaaTargetS
namespace Go.Proofs.Ytjfllmkihfidcaa
open Go.RowKit
theorem scV_lt {t u d m : Nat} (hm : m < K4) : scV t u d m < K4 := by
  have hK40 : K4 = 115792089237316195423570985008687907853269984665640564039457584007913129639936 := rfl
  unfold scV
  generalize t * u / d = q
  split
  · exact hm
  · split <;> omega
theorem sc_cases (t u d m : Nat) : (d = 0 ∧ scE d m = 5 ∧ scR t u d m = 0) ∨ (d ≠ 0 ∧ m = 0 ∧ scE d m = 1 ∧ scR t u d m = 0) ∨ (d ≠ 0 ∧ m ≠ 0 ∧ scE d m = 0 ∧ scR t u d m = scV t u d m) := by
  unfold scE scR
  by_cases h1 : d = 0
  · rw [if_pos h1, if_pos (.inl h1)]
    exact .inl ⟨h1, rfl, rfl⟩
  · by_cases h2 : m = 0
    · rw [if_neg h1, if_pos h2, if_pos (.inr h2)]
      exact .inr (.inl ⟨h1, h2, rfl, rfl⟩)
    · rw [if_neg h1, if_neg h2, if_neg (by omega)]
      exact .inr (.inr ⟨h1, h2, rfl, rfl⟩)
theorem Scale6_calls (t u d m : Nat) (A : Option Addr) (c : Nat) (B : Option Addr) (b : Nat) (w : World) (hr : RdS w A (dg (digs t))) (hs : RdS w B (dg (digs m))) (hnt : ndg t ≤ 16) (hnm : ndg m ≤ 16) (hu : u < K) (hd : d < K) (hd0 : d ≠ 0) : Calls Try.prog 24 #[.slice A (ndg t) c, .int .u64 (u : Int), .int .u64 (d : Int), .slice B (ndg m) b] w fun e w' => ∃ A c, e = .returned (.slice A (ndg (scV t u d m)) c) ∧ RdS w' A (dg (digs (scV t u d m))) ∧ Hp w [] [] w' := by
  have hMX : MX = 4611686018427387904 := rfl
  have hK0 : K = 18446744073709551616 := rfl
  have hK40 : K4 = 115792089237316195423570985008687907853269984665640564039457584007913129639936 := rfl
  refine calls_G (args := [.slice A (ndg t) c, .int .u64 (u : Int), .int .u64 (d : Int), .slice B (ndg m) b]) Try.func24 rfl Try.ntmps24 rfl ?_
  intro Q0 hRet hNor hPan
  have H := Hp.start w
  have H : Hp w [] [] w := H
  refine G.seqK fun K1 hK2 => ?_
  refine G.region ?_
  refine GL.run (j := 1) 1 [0, 1, 2, 3] [(0, .slice A (ndg t) c), (1, .int .u64 (u : Int)), (2, .int .u64 (d : Int)), (3, .slice B (ndg m) b)] (by kernel_rfl) rfl ?_
  refine GL.k rfl hK2 (fun _ _ h => h) ?_
  refine G.seqK fun K3 hK4 => ?_
  refine G.region ?_
  refine GL.run (j := 2) 2 [2, 3, 12, 13] [(2, .int .u64 (d : Int)), (3, .slice B (ndg m) b), (12, .slice A (ndg t) c), (13, .int .u64 (u : Int))] (by kernel_rfl) rfl ?_
  have hN10 : ndg u ≤ 4 := ndg_K hu
  refine GL.call (j := 3) (one_calls u hu w) (by kernel_rfl) rfl (fun e_ w9 hR => ?_)
  obtain ⟨A5, c6, rfl, H8⟩ := hR
  have H7 : Hp w [] [.row A5 (ndg u) c6 22 1 (dg (digs u))] w9 := H.callNew H8
  refine ⟨_, rfl, [2, 3, 12, 14], [(2, .int .u64 (d : Int)), (3, .slice B (ndg m) b), (12, .slice A (ndg t) c), (14, .slice A5 (ndg u) c6)], by kernel_rfl, ?_⟩
  have hN16 : ndg (t * u) ≤ 20 := ndg_mul hnt hN10
  refine GL.call (j := 4) (MulN_calls t u A c A5 c6 w9 (hr.hp H7) (H7.rdRow 0 rfl) (Nat.le_trans hnt (by decide)) (Nat.le_trans hN10 (by decide))) (by kernel_rfl) rfl (fun e_ w15 hR => ?_)
  obtain ⟨A11, c12, rfl, H14⟩ := hR
  have H13 : Hp w [] [.row A5 (ndg u) c6 22 1 (dg (digs u)), .row A11 (ndg (t * u)) c12 22 1 (dg (digs (t * u)))] w15 := H7.callNew H14
  refine ⟨_, rfl, [2, 3, 15], [(2, .int .u64 (d : Int)), (3, .slice B (ndg m) b), (15, .slice A11 (ndg (t * u)) c12)], by kernel_rfl, ?_⟩
  refine GL.run (j := 5) 1 [3, 15, 16] [(3, .slice B (ndg m) b), (15, .slice A11 (ndg (t * u)) c12), (16, .int .u64 (d : Int))] (by kernel_rfl) rfl ?_
  have hN22 : ndg d ≤ 4 := ndg_K hd
  refine GL.call (j := 6) (one_calls d hd w15) (by kernel_rfl) rfl (fun e_ w21 hR => ?_)
  obtain ⟨A17, c18, rfl, H20⟩ := hR
  have H19 : Hp w [] [.row A5 (ndg u) c6 22 1 (dg (digs u)), .row A11 (ndg (t * u)) c12 22 1 (dg (digs (t * u))), .row A17 (ndg d) c18 22 1 (dg (digs d))] w21 := H13.callNew H20
  refine ⟨_, rfl, [3, 15, 17], [(3, .slice B (ndg m) b), (15, .slice A11 (ndg (t * u)) c12), (17, .slice A17 (ndg d) c18)], by kernel_rfl, ?_⟩
  have hN30 : ndg ((t * u) / d) ≤ 20 := ndg_div hN16
  have hN31 : ndg ((t * u) % d) ≤ 20 := ndg_mod hN16
  refine GL.call (j := 7) (DivN_calls (t * u) d A11 c12 A17 c18 w21 (H19.rdRow 1 rfl) (H19.rdRow 2 rfl) (Nat.le_trans hN16 (by decide)) (Nat.le_trans hN22 (by decide)) (hd0)) (by kernel_rfl) rfl (fun e_ w29 hR => ?_)
  obtain ⟨A23, c24, A25, c26, rfl, H28⟩ := hR
  have H27 : Hp w [] [.row A5 (ndg u) c6 22 1 (dg (digs u)), .row A11 (ndg (t * u)) c12 22 1 (dg (digs (t * u))), .row A17 (ndg d) c18 22 1 (dg (digs d)), .row A25 (ndg ((t * u) % d)) c26 22 1 (dg (digs ((t * u) % d))), .row A23 (ndg ((t * u) / d)) c24 22 1 (dg (digs ((t * u) / d)))] w29 := H19.callNew H28
  refine ⟨_, rfl, [3, 18], [(3, .slice B (ndg m) b), (18, .tuple #[.slice A23 (ndg ((t * u) / d)) c24, .slice A25 (ndg ((t * u) % d)) c26])], by kernel_rfl, ?_⟩
  refine GL.run (j := 12) 5 [3, 9] [(3, .slice B (ndg m) b), (9, .slice A23 (ndg ((t * u) / d)) c24)] (by kernel_rfl) rfl ?_
  refine GL.k rfl hK4 (fun _ _ h => h) ?_
  refine G.seqK fun K32 hK33 => ?_
  refine G.seqK fun K34 hK35 => ?_
  refine G.region ?_
  refine GL.run (j := 2) 2 [3, 9, 21, 22] [(3, .slice B (ndg m) b), (9, .slice A23 (ndg ((t * u) / d)) c24), (21, .slice A23 (ndg ((t * u) / d)) c24), (22, .slice B (ndg m) b)] (by kernel_rfl) rfl ?_
  refine GL.call (j := 3) (CmpN_calls ((t * u) / d) m A23 B c24 b w29 (H27.rdRow 4 rfl) (hs.hp H27) (Nat.le_trans hN30 (by decide)) (Nat.le_trans hnm (by decide))) (by kernel_rfl) rfl (fun e_ w36 hR => ?_)
  obtain ⟨rfl, H38⟩ := hR
  have H37 : Hp w [] [.row A5 (ndg u) c6 22 1 (dg (digs u)), .row A11 (ndg (t * u)) c12 22 1 (dg (digs (t * u))), .row A17 (ndg d) c18 22 1 (dg (digs d)), .row A25 (ndg ((t * u) % d)) c26 22 1 (dg (digs ((t * u) % d))), .row A23 (ndg ((t * u) / d)) c24 22 1 (dg (digs ((t * u) / d)))] w36 := H27.callNil H38
  refine ⟨_, rfl, [3, 9, 23], [(3, .slice B (ndg m) b), (9, .slice A23 (ndg ((t * u) / d)) c24), (23, .int .i64 (cmpN ((t * u) / d) m))], by kernel_rfl, ?_⟩
  refine GL.run (j := 4) 1 [3, 9, 24] [(3, .slice B (ndg m) b), (9, .slice A23 (ndg ((t * u) / d)) c24), (24, .bool (decide (0 < (cmpN ((t * u) / d) m))))] (by kernel_rfl) rfl ?_
  refine GL.k rfl hK35 (fun _ _ h => h) ?_
  cases hb39 : (decide (0 < (cmpN ((t * u) / d) m)))
  · skip
    have hb39f := of_decide_eq_false hb39
    have hcm : ¬ m < t * u / d := fun h => hb39f (cmp_gt0.2 h)
    refine G.no rfl ?_
    refine G.skipK hK33 (fun _ _ h => h) ?_
    refine G.seqK fun K40 hK41 => ?_
    refine G.seqK fun K42 hK43 => ?_
    refine G.region ?_
    refine GL.run (j := 3) 3 [9, 28] [(9, .slice A23 (ndg ((t * u) / d)) c24), (28, .bool ((((ndg ((t * u) / d)) : Nat) : Int) == 0))] (by kernel_rfl) rfl ?_
    refine GL.k rfl hK43 (fun _ _ h => h) ?_
    cases hb44 : ((((ndg ((t * u) / d)) : Nat) : Int) == 0)
    · skip
      have hb44f := ne_of_beq_false hb44
      have hz : ¬ t * u / d = 0 := by have := @ndg_pos (t * u / d); omega
      refine G.no rfl ?_
      refine G.skipK hK41 (fun _ _ h => h) ?_
      refine G.seqK fun K45 hK46 => ?_
      refine G.region ?_
      refine GL.run (j := 2) 2 [8] [(8, .slice A23 (ndg ((t * u) / d)) c24)] (by kernel_rfl) rfl ?_
      refine GL.k rfl hK46 (fun _ _ h => h) ?_
      refine G.ret ?_
      intro F_ hF_ hM_
      refine hRet _ _ (bodyPost_1 rfl (RV.tmp rfl) ?_ F_ hF_ hM_)
      have hN : ((t * u) / d) = scV t u d m := by
        unfold scV
        rw [if_neg hcm, if_neg hz]
      have hF := H37.rdRow 4 rfl
      rw [← hN]
      exact ⟨_, _, rfl, hF, H37.sub (List.nil_sublist _)⟩
    · skip
      have hb44f := eq_of_beq hb44
      have hz : t * u / d = 0 := by have := @ndg_pos (t * u / d); omega
      refine G.yes rfl ?_
      refine G.seqK fun K47 hK48 => ?_
      refine G.region ?_
      have hN54 : ndg 1 ≤ 4 := ndg_K (by decide)
      refine GL.call (j := 1) (one_calls 1 (by decide) w36) (by kernel_rfl) rfl (fun e_ w53 hR => ?_)
      obtain ⟨A49, c50, rfl, H52⟩ := hR
      have H51 : Hp w [] [.row A5 (ndg u) c6 22 1 (dg (digs u)), .row A11 (ndg (t * u)) c12 22 1 (dg (digs (t * u))), .row A17 (ndg d) c18 22 1 (dg (digs d)), .row A25 (ndg ((t * u) % d)) c26 22 1 (dg (digs ((t * u) % d))), .row A23 (ndg ((t * u) / d)) c24 22 1 (dg (digs ((t * u) / d))), .row A49 (ndg 1) c50 22 1 (dg (digs 1))] w53 := H37.callNew H52
      refine ⟨_, rfl, [29], [(29, .slice A49 (ndg 1) c50)], by kernel_rfl, ?_⟩
      refine GL.run (j := 2) 1 [8] [(8, .slice A49 (ndg 1) c50)] (by kernel_rfl) rfl ?_
      refine GL.k rfl hK48 (fun _ _ h => h) ?_
      refine G.ret ?_
      intro F_ hF_ hM_
      refine hRet _ _ (bodyPost_1 rfl (RV.tmp rfl) ?_ F_ hF_ hM_)
      have hN : 1 = scV t u d m := by
        unfold scV
        rw [if_neg hcm, if_pos hz]
      have hF := H51.rdRow 5 rfl
      rw [← hN]
      exact ⟨_, _, rfl, hF, H51.sub (List.nil_sublist _)⟩
  · skip
    have hb39f := of_decide_eq_true hb39
    have hcm : m < t * u / d := cmp_gt0.1 hb39f
    refine G.yes rfl ?_
    refine G.seqK fun K55 hK56 => ?_
    refine G.region ?_
    refine GL.run (j := 2) 2 [8] [(8, .slice B (ndg m) b)] (by kernel_rfl) rfl ?_
    refine GL.k rfl hK56 (fun _ _ h => h) ?_
    refine G.ret ?_
    intro F_ hF_ hM_
    refine hRet _ _ (bodyPost_1 rfl (RV.tmp rfl) ?_ F_ hF_ hM_)
    have hN : m = scV t u d m := by
      unfold scV
      rw [if_pos hcm]
    have hF := hs.hp H37
    rw [← hN]
    exact ⟨_, _, rfl, hF, H37.sub (List.nil_sublist _)⟩
end Go.Proofs.Ytjfllmkihfidcaa
