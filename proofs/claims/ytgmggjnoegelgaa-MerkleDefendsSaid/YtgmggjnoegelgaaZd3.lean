/- Part 3 of what merkleDefends_proved stands on. -/
import Derived.Test.YtgmggjnoegelgaaZd2
set_option linter.unusedVariables false
namespace Go.Proofs.Ytgmggjnoegelgaa
open Go.RowKit
theorem Grow_nil (n : Nat) (hn : n ≤ 1099511627776) (w : World) : Calls Try.prog 36 #[.slice none 0 0, .int .i64 (n : Int)] w fun e w' =>
    ∃ A c, e = .returned (.slice A 0 c) ∧ n ≤ c ∧ Hp w [] [.row A 0 c 5 1 (by8 [])] w' := by
  refine calls_G (args := [.slice none 0 0, .int .i64 (n : Int)]) Try.func36 rfl Try.ntmps36 rfl ?_
  intro Q0 hRet hNor hPan
  have H := Hp.start w
  have H : Hp w [] [] w := H
  refine G.seqK fun K1 hK2 => ?_
  refine G.region ?_
  refine GL.run (j := 1) 1 [0, 1] [(0, .slice none 0 0), (1, .int .i64 (n : Int))] (by kernel_rfl) rfl ?_
  refine GL.k rfl hK2 (fun _ _ h => h) ?_
  refine G.seqK fun K3 hK4 => ?_
  refine G.seqK fun K5 hK6 => ?_
  refine G.region ?_
  refine GL.run (j := 2) 2 [0, 1, 6] [(0, .slice none 0 0), (1, .int .i64 (n : Int)), (6, .bool (decide ((n : Int) < 0)))] (by kernel_rfl) rfl ?_
  refine GL.k rfl hK6 (fun _ _ h => h) ?_
  have hb7 : (decide ((n : Int) < 0)) = false := decide_eq_false (by omega)
  rw [hb7]
  refine G.no rfl ?_
  refine G.skipK hK4 (fun _ _ h => h) ?_
  refine G.seqK fun K8 hK9 => ?_
  refine G.seqK fun K10 hK11 => ?_
  refine G.region ?_
  refine GL.run (j := 8) 8 [0, 1] [(0, .slice none 0 0), (1, .int .i64 (IntKind.i64.wrap ((n : Int) - 0)))] (by kernel_rfl) rfl ?_
  have e12 : (IntKind.i64.wrap ((n : Int) - 0)) = (n : Int) := by rw [in_i64 (by omega)]; omega
  refine GL.eq (M' := [(0, .slice none 0 0), (1, .int .i64 (n : Int))]) (by rw [e12]) ?_
  clear e12
  refine GL.k rfl hK11 (fun _ _ h => h) ?_
  refine G.seqK fun K13 hK14 => ?_
  refine G.region ?_
  refine GL.run (j := 2) 2 [0, 1, 16] [(0, .slice none 0 0), (1, .int .i64 (n : Int)), (16, .bool (decide (0 < (n : Int))))] (by kernel_rfl) rfl ?_
  refine GL.k rfl hK14 (fun _ _ h => h) ?_
  cases hb15 : (decide (0 < (n : Int)))
  · skip
    have hb15f := of_decide_eq_false hb15
    have hn0 : n = 0 := by have := of_decide_eq_false hb15; omega
    refine G.no rfl ?_
    refine G.skipK hK9 (fun _ _ h => h) ?_
    refine G.seqK fun K16 hK17 => ?_
    refine G.region ?_
    refine GL.run (j := 2) 2 [4] [(4, .slice none 0 0)] (by kernel_rfl) rfl ?_
    refine GL.k rfl hK17 (fun _ _ h => h) ?_
    refine G.ret ?_
    intro F_ hF_ hM_
    refine hRet _ _ (bodyPost_1 rfl (RV.tmp rfl) ?_ F_ hF_ hM_)
    exact ⟨none, 0, rfl, by omega, H.rowNil 5 1⟩
  · skip
    have hb15f := of_decide_eq_true hb15
    have hn0 : 0 < n := by have := of_decide_eq_true hb15; omega
    refine G.yes rfl ?_
    refine G.region ?_
    refine GL.run (j := 5) 5 [0, 20, 21] [(0, .slice none 0 0), (20, .slice none 0 0), (21, .int .i64 (n : Int))] (by kernel_rfl) rfl ?_
    obtain ⟨b18, c19, w20, r21, hc22, H23⟩ := H.appendMake (P := Try.prog) (t := 49) (ti := 3) (ty := 49) (by_ := 1) (n := n) (by kernel_rfl) (by kernel_rfl) (by assumption) (by omega) (by simp only [maxLen]; omega)
    have H23 : Hp w [] [.row (some ⟨b18, 0, none⟩) 0 c19 5 1 (by8 [])] w20 := H23
    refine GL.sem (j := 6) (r21) [0, 22] [(0, .slice none 0 0), (22, .slice (some ⟨b18, 0, none⟩) n c19)] (by kernel_rfl) (by kernel_rfl) rfl ?_
    refine GL.run (j := 8) 2 [22, 24] [(22, .slice (some ⟨b18, 0, none⟩) n c19), (24, .int .i64 0)] (by kernel_rfl) rfl ?_
    refine GL.sem (j := 9) (run_sliceSl0 (P := Try.prog) (lo := none) (hi := some (.int .i64 0)) (t := 49) (len := n) (cap := c19) (A := (some ⟨b18, 0, none⟩)) (h := 0) (by kernel_rfl) (Or.inl ⟨rfl, rfl⟩) (Or.inr ⟨_, _, rfl, rfl⟩) (by omega)) [25] [(25, .slice (some ⟨b18, 0, none⟩) 0 c19)] (by kernel_rfl) (by kernel_rfl) rfl ?_
    refine GL.run (j := 10) 1 [0] [(0, .slice (some ⟨b18, 0, none⟩) 0 c19)] (by kernel_rfl) rfl ?_
    refine GL.k rfl hK9 (fun _ _ h => h) ?_
    refine G.seqK fun K24 hK25 => ?_
    refine G.region ?_
    refine GL.run (j := 2) 2 [4] [(4, .slice (some ⟨b18, 0, none⟩) 0 c19)] (by kernel_rfl) rfl ?_
    refine GL.k rfl hK25 (fun _ _ h => h) ?_
    refine G.ret ?_
    intro F_ hF_ hM_
    refine hRet _ _ (bodyPost_1 rfl (RV.tmp rfl) ?_ F_ hF_ hM_)
    exact ⟨_, _, rfl, by omega, H23⟩
theorem Concat_calls (b : Nat) (vs : List SB) (w : World) (hb : Blk w b (vs.map sv) 49) (hr : ∀ s ∈ vs, RdS w s.1 (by8 s.2.2)) (hn : (flat vs).length ≤ 1099511627776) (hvs : vs.length ≤ 1099511627776) :
    Calls Try.prog 30 #[.slice (some ⟨b, 0, none⟩) vs.length vs.length] w fun e w' => ∃ A c, e = .returned (.slice A (flat vs).length c) ∧ Hp w [] [.row A (flat vs).length c 5 1 (by8 (flat vs))] w' := by
  refine calls_G (args := [.slice (some ⟨b, 0, none⟩) vs.length vs.length]) Try.func30 rfl Try.ntmps30 rfl ?_
  intro Q0 hRet hNor hPan
  have H := Hp.start w
  have H : Hp w [] [] w := H
  refine G.seqK fun K1 hK2 => ?_
  refine G.region ?_
  refine GL.run (j := 1) 1 [0] [(0, .slice (some ⟨b, 0, none⟩) vs.length vs.length)] (by kernel_rfl) rfl ?_
  refine GL.k rfl hK2 (fun _ _ h => h) ?_
  refine G.seqK fun K3 hK4 => ?_
  refine G.region ?_
  refine GL.run (j := 1) 1 [0, 3] [(0, .slice (some ⟨b, 0, none⟩) vs.length vs.length), (3, .int .i64 0)] (by kernel_rfl) rfl ?_
  refine GL.k rfl hK4 (fun _ _ h => h) ?_
  refine G.seqK fun K5 hK6 => ?_
  refine G.seqK fun K7 hK8 => ?_
  refine G.region ?_
  refine GL.run (j := 3) 3 [0, 3, 9, 10, 11] [(0, .slice (some ⟨b, 0, none⟩) vs.length vs.length), (3, .int .i64 0), (9, .slice (some ⟨b, 0, none⟩) vs.length vs.length), (10, .int .i64 (vs.length : Int)), (11, .int .i64 0)] (by kernel_rfl) rfl ?_
  refine GL.k rfl hK8 (fun _ _ h => h) ?_
  refine G.block ?_
  refine G.fit [0, 3, 9, 10, 11] (M' := [(0, .slice (some ⟨b, 0, none⟩) vs.length vs.length), (3, .int .i64 0), (9, .slice (some ⟨b, 0, none⟩) vs.length vs.length), (10, .int .i64 (vs.length : Int)), (11, .int .i64 0)]) (by kernel_rfl) ?_
  refine G.eq (M' := [(0, .slice (some ⟨b, 0, none⟩) vs.length vs.length), (3, .int .i64 (((flat (vs.take 0)).length : Nat) : Int)), (9, .slice (some ⟨b, 0, none⟩) vs.length vs.length), (10, .int .i64 (vs.length : Int)), (11, .int .i64 0)]) (by rfl) ?_
  refine G.loop (X := Nat) (fun k => [(0, .slice (some ⟨b, 0, none⟩) vs.length vs.length), (3, .int .i64 (((flat (vs.take k)).length : Nat) : Int)), (9, .slice (some ⟨b, 0, none⟩) vs.length vs.length), (10, .int .i64 (vs.length : Int)), (11, .int .i64 (k : Int))]) (fun k w_ => (k ≤ vs.length) ∧ Hp w [] [] w_) (fun k => vs.length - (k)) 0 [0, 3, 9, 10, 11] (by kernel_rfl) ⟨Nat.zero_le _, H⟩ ?_
  rintro k w9 ⟨hi10, H11⟩
  refine G.eq (M' := [(0, .slice (some ⟨b, 0, none⟩) vs.length vs.length), (3, .int .i64 (((flat (vs.take k)).length : Nat) : Int)), (9, .slice (some ⟨b, 0, none⟩) vs.length vs.length), (10, .int .i64 (vs.length : Int)), (11, .int .i64 (k : Int))]) rfl ?_
  have H11 : Hp w [] [] w9 := H11
  have hk := hi10
  refine G.seqK fun K12 hK13 => ?_
  refine G.region ?_
  refine GL.run (j := 1) 1 [0, 3, 9, 10, 11, 12] [(0, .slice (some ⟨b, 0, none⟩) vs.length vs.length), (3, .int .i64 (((flat (vs.take k)).length : Nat) : Int)), (9, .slice (some ⟨b, 0, none⟩) vs.length vs.length), (10, .int .i64 (vs.length : Int)), (11, .int .i64 (k : Int)), (12, .bool (decide ((k : Int) < (vs.length : Int))))] (by kernel_rfl) rfl ?_
  refine GL.k rfl hK13 (fun _ _ h => h) ?_
  refine G.seqK fun K14 hK15 => ?_
  cases hb16 : (decide ((k : Int) < (vs.length : Int)))
  · skip
    have hb16f := of_decide_eq_false hb16
    have hge : vs.length ≤ k := by have := of_decide_eq_false hb16; omega
    refine G.no rfl ?_
    refine G.exitK hK6 (fun _ _ h => h) ?_
    refine G.seqK fun K17 hK18 => ?_
    refine G.region ?_
    refine GL.run (j := 1) 1 [0, 23] [(0, .slice (some ⟨b, 0, none⟩) vs.length vs.length), (23, .int .i64 (((flat (vs.take k)).length : Nat) : Int))] (by kernel_rfl) rfl ?_
    have e0 : vs.take k = vs := List.take_of_length_le (by omega)
    rw [e0]
    refine GL.call (j := 2) (Grow_nil ((flat vs).length) (by omega) w9) (by kernel_rfl) rfl (fun e_ w21 hR => ?_)
    obtain ⟨A19, c20, rfl, _, H23⟩ := hR
    have H22 : Hp w [] [.row A19 0 c20 5 1 (by8 [])] w21 := H11.callNew H23
    refine ⟨_, rfl, [0, 24], [(0, .slice (some ⟨b, 0, none⟩) vs.length vs.length), (24, .slice A19 0 c20)], by kernel_rfl, ?_⟩
    refine GL.run (j := 3) 1 [0, 6] [(0, .slice (some ⟨b, 0, none⟩) vs.length vs.length), (6, .slice A19 0 c20)] (by kernel_rfl) rfl ?_
    refine GL.k rfl hK18 (fun _ _ h => h) ?_
    refine G.seqK fun K24 hK25 => ?_
    refine G.seqK fun K26 hK27 => ?_
    refine G.region ?_
    refine GL.run (j := 3) 3 [6, 25, 26, 27] [(6, .slice A19 0 c20), (25, .slice (some ⟨b, 0, none⟩) vs.length vs.length), (26, .int .i64 (vs.length : Int)), (27, .int .i64 0)] (by kernel_rfl) rfl ?_
    refine GL.k rfl hK27 (fun _ _ h => h) ?_
    refine G.block ?_
    refine G.fit [6, 25, 26, 27] (M' := [(6, .slice A19 0 c20), (25, .slice (some ⟨b, 0, none⟩) vs.length vs.length), (26, .int .i64 (vs.length : Int)), (27, .int .i64 0)]) (by kernel_rfl) ?_
    refine G.eq (M' := [(6, .slice A19 ((flat (vs.take 0)).length) c20), (25, .slice (some ⟨b, 0, none⟩) vs.length vs.length), (26, .int .i64 (vs.length : Int)), (27, .int .i64 0)]) (by rfl) ?_
    refine G.loop (X := Nat × Option Addr × Nat) (fun ⟨k, A, c⟩ => [(6, .slice A ((flat (vs.take k)).length) c), (25, .slice (some ⟨b, 0, none⟩) vs.length vs.length), (26, .int .i64 (vs.length : Int)), (27, .int .i64 (k : Int))]) (fun ⟨k, A, c⟩ w_ => (k ≤ vs.length) ∧ Hp w [] [.row A ((flat (vs.take k)).length) c 5 1 (by8 (flat (vs.take k)))] w_) (fun ⟨k, A, c⟩ => vs.length - (k)) ⟨0, A19, c20⟩ [6, 25, 26, 27] (by kernel_rfl) ⟨Nat.zero_le _, H22⟩ ?_
    rintro ⟨k, A, c⟩ w28 ⟨hi29, H30⟩
    refine G.eq (M' := [(6, .slice A ((flat (vs.take k)).length) c), (25, .slice (some ⟨b, 0, none⟩) vs.length vs.length), (26, .int .i64 (vs.length : Int)), (27, .int .i64 (k : Int))]) rfl ?_
    have H30 : Hp w [] [.row A ((flat (vs.take k)).length) c 5 1 (by8 (flat (vs.take k)))] w28 := H30
    have hk := hi29
    refine G.seqK fun K31 hK32 => ?_
    refine G.region ?_
    refine GL.run (j := 1) 1 [6, 25, 26, 27, 28] [(6, .slice A ((flat (vs.take k)).length) c), (25, .slice (some ⟨b, 0, none⟩) vs.length vs.length), (26, .int .i64 (vs.length : Int)), (27, .int .i64 (k : Int)), (28, .bool (decide ((k : Int) < (vs.length : Int))))] (by kernel_rfl) rfl ?_
    refine GL.k rfl hK32 (fun _ _ h => h) ?_
    refine G.seqK fun K33 hK34 => ?_
    cases hb35 : (decide ((k : Int) < (vs.length : Int)))
    · skip
      have hb35f := of_decide_eq_false hb35
      have hge : vs.length ≤ k := by have := of_decide_eq_false hb35; omega
      refine G.no rfl ?_
      refine G.exitK hK25 (fun _ _ h => h) ?_
      refine G.seqK fun K36 hK37 => ?_
      refine G.region ?_
      refine GL.run (j := 2) 2 [2] [(2, .slice A ((flat (vs.take k)).length) c)] (by kernel_rfl) rfl ?_
      refine GL.k rfl hK37 (fun _ _ h => h) ?_
      refine G.ret ?_
      intro F_ hF_ hM_
      refine hRet _ _ (bodyPost_1 rfl (RV.tmp rfl) ?_ F_ hF_ hM_)
      have e0 : vs.take k = vs := List.take_of_length_le (by omega)
      rw [e0] at H30 ⊢
      exact ⟨_, _, rfl, H30⟩
    · skip
      have hb35f := of_decide_eq_true hb35
      have hlt : k < vs.length := by have := of_decide_eq_true hb35; omega
      obtain ⟨s, hs⟩ : ∃ s, vs[k]? = some s := ⟨vs[k], List.getElem?_eq_getElem hlt⟩
      have e1 := flat_take hs
      have e2 := flat_le vs (k + 1)
      rw [e1, List.length_append] at e2
      refine G.yes rfl ?_
      refine G.skipK hK34 (fun _ _ h => h) ?_
      refine G.seqK fun K38 hK39 => ?_
      refine G.block ?_
      refine G.seqK fun K40 hK41 => ?_
      refine G.region ?_
      refine GL.sem (j := 1) (run_idxSl (P := Try.prog) (k := .i64) (t := 69) (sz := 1) (a := ⟨b, 0, none⟩) (len := vs.length) (cap := vs.length) (j := k) (by kernel_rfl) rfl (by first | rfl | omega | (simp only [List.length_cons, List.length_nil, List.length_drop, List.length_take, List.length_append] <;> omega))) [6, 25, 26, 27, 29] [(6, .slice A ((flat (vs.take k)).length) c), (25, .slice (some ⟨b, 0, none⟩) vs.length vs.length), (26, .int .i64 (vs.length : Int)), (27, .int .i64 (k : Int)), (29, .pointer (some (Addr.add ⟨b, 0, none⟩ (k * 1))))] (by kernel_rfl) (by kernel_rfl) rfl ?_
      refine GL.sem (j := 2) (run_ld1 (P := Try.prog) (ty := 49) (a := (Addr.add ⟨b, 0, none⟩ (k * 1))) (v := sv s) (by kernel_rfl) (by rw [addr_add, (H30.oldBlk hb).cell]; simp [hs])) [6, 25, 26, 27, 30] [(6, .slice A ((flat (vs.take k)).length) c), (25, .slice (some ⟨b, 0, none⟩) vs.length vs.length), (26, .int .i64 (vs.length : Int)), (27, .int .i64 (k : Int)), (30, .slice s.1 s.2.2.length s.2.1)] (by kernel_rfl) (by kernel_rfl) rfl ?_
      refine GL.run (j := 3) 1 [6, 8, 25, 26, 27] [(6, .slice A ((flat (vs.take k)).length) c), (8, .slice s.1 s.2.2.length s.2.1), (25, .slice (some ⟨b, 0, none⟩) vs.length vs.length), (26, .int .i64 (vs.length : Int)), (27, .int .i64 (k : Int))] (by kernel_rfl) rfl ?_
      refine GL.k rfl hK41 (fun _ _ h => h) ?_
      refine G.region ?_
      refine GL.run (j := 2) 2 [25, 26, 27, 31, 32] [(25, .slice (some ⟨b, 0, none⟩) vs.length vs.length), (26, .int .i64 (vs.length : Int)), (27, .int .i64 (k : Int)), (31, .slice A ((flat (vs.take k)).length) c), (32, .slice s.1 s.2.2.length s.2.1)] (by kernel_rfl) rfl ?_
      obtain ⟨A42, c43, w44, r45, H46⟩ := H30.append (P := Try.prog) (e := 5) (sz := 1) (by_ := 1) (n := (flat (vs.take k)).length) (c := c) (m := s.2.2.length) (d := s.2.1) (t := 49) (ty := 49) (xs := by8 (flat (vs.take k))) (news := by8 s.2.2) 0 rfl (by kernel_rfl) ((hr s (List.mem_of_getElem? hs)).hp H30) (by simp [by8_length]) (by8_one _) (by omega) (by simp only [maxLen]; omega)
      rw [← by8_append] at H46
      have H46 : Hp w [] [.row A42 ((flat (vs.take k)).length + s.2.2.length) c43 5 1 (by8 ((flat (vs.take k)) ++ s.2.2))] w44 := H46
      refine GL.sem (j := 3) (r45) [25, 26, 27, 33] [(25, .slice (some ⟨b, 0, none⟩) vs.length vs.length), (26, .int .i64 (vs.length : Int)), (27, .int .i64 (k : Int)), (33, .slice A42 ((flat (vs.take k)).length + s.2.2.length) c43)] (by kernel_rfl) (by kernel_rfl) rfl ?_
      refine GL.run (j := 4) 1 [6, 25, 26, 27] [(6, .slice A42 ((flat (vs.take k)).length + s.2.2.length) c43), (25, .slice (some ⟨b, 0, none⟩) vs.length vs.length), (26, .int .i64 (vs.length : Int)), (27, .int .i64 (k : Int))] (by kernel_rfl) rfl ?_
      refine GL.k rfl hK39 (fun _ _ h => h) ?_
      refine G.region ?_
      refine GL.run (j := 2) 2 [6, 25, 26, 27] [(6, .slice A42 ((flat (vs.take k)).length + s.2.2.length) c43), (25, .slice (some ⟨b, 0, none⟩) vs.length vs.length), (26, .int .i64 (vs.length : Int)), (27, .int .i64 (IntKind.i64.wrap ((k : Int) + 1)))] (by kernel_rfl) rfl ?_
      have e47 : (IntKind.i64.wrap ((k : Int) + 1)) = ((k + 1 : Nat) : Int) := by rw [in_i64 (by omega)]; omega
      refine GL.eq (M' := [(6, .slice A42 ((flat (vs.take k)).length + s.2.2.length) c43), (25, .slice (some ⟨b, 0, none⟩) vs.length vs.length), (26, .int .i64 (vs.length : Int)), (27, .int .i64 ((k + 1 : Nat) : Int))]) (by rw [e47]) ?_
      clear e47
      have H48 : Hp w [] [.row A42 ((flat (vs.take (k + 1))).length) c43 5 1 (by8 (flat (vs.take (k + 1))))] w44 := by rw [e1, List.length_append]; exact H46
      refine GL.fit (ts := [6, 25, 26, 27]) (M' := [(6, .slice A42 ((flat (vs.take k)).length + s.2.2.length) c43), (25, .slice (some ⟨b, 0, none⟩) vs.length vs.length), (26, .int .i64 (vs.length : Int)), (27, .int .i64 ((k + 1 : Nat) : Int))]) (by kernel_rfl) ?_
      refine GL.eq (M' := [(6, .slice A42 ((flat (vs.take (k + 1))).length) c43), (25, .slice (some ⟨b, 0, none⟩) vs.length vs.length), (26, .int .i64 (vs.length : Int)), (27, .int .i64 ((k + 1 : Nat) : Int))]) (by rw [e1, List.length_append]) ?_
      exact GL.again ⟨k + 1, A42, c43⟩ [6, 25, 26, 27] rfl (by kernel_rfl) (by show vs.length - (k + 1) < vs.length - (k); omega) ⟨by omega, H48⟩
  · skip
    have hb16f := of_decide_eq_true hb16
    have hlt : k < vs.length := by have := of_decide_eq_true hb16; omega
    obtain ⟨s, hs⟩ : ∃ s, vs[k]? = some s := ⟨vs[k], List.getElem?_eq_getElem hlt⟩
    have e1 := flat_take hs
    have e2 := flat_le vs (k + 1)
    rw [e1, List.length_append] at e2
    refine G.yes rfl ?_
    refine G.skipK hK15 (fun _ _ h => h) ?_
    refine G.seqK fun K49 hK50 => ?_
    refine G.block ?_
    refine G.seqK fun K51 hK52 => ?_
    refine G.region ?_
    refine GL.sem (j := 1) (run_idxSl (P := Try.prog) (k := .i64) (t := 69) (sz := 1) (a := ⟨b, 0, none⟩) (len := vs.length) (cap := vs.length) (j := k) (by kernel_rfl) rfl (by first | rfl | omega | (simp only [List.length_cons, List.length_nil, List.length_drop, List.length_take, List.length_append] <;> omega))) [0, 3, 9, 10, 11, 13] [(0, .slice (some ⟨b, 0, none⟩) vs.length vs.length), (3, .int .i64 (((flat (vs.take k)).length : Nat) : Int)), (9, .slice (some ⟨b, 0, none⟩) vs.length vs.length), (10, .int .i64 (vs.length : Int)), (11, .int .i64 (k : Int)), (13, .pointer (some (Addr.add ⟨b, 0, none⟩ (k * 1))))] (by kernel_rfl) (by kernel_rfl) rfl ?_
    refine GL.sem (j := 2) (run_ld1 (P := Try.prog) (ty := 49) (a := (Addr.add ⟨b, 0, none⟩ (k * 1))) (v := sv s) (by kernel_rfl) (by rw [addr_add, (H11.oldBlk hb).cell]; simp [hs])) [0, 3, 9, 10, 11, 14] [(0, .slice (some ⟨b, 0, none⟩) vs.length vs.length), (3, .int .i64 (((flat (vs.take k)).length : Nat) : Int)), (9, .slice (some ⟨b, 0, none⟩) vs.length vs.length), (10, .int .i64 (vs.length : Int)), (11, .int .i64 (k : Int)), (14, .slice s.1 s.2.2.length s.2.1)] (by kernel_rfl) (by kernel_rfl) rfl ?_
    refine GL.run (j := 3) 1 [0, 3, 5, 9, 10, 11] [(0, .slice (some ⟨b, 0, none⟩) vs.length vs.length), (3, .int .i64 (((flat (vs.take k)).length : Nat) : Int)), (5, .slice s.1 s.2.2.length s.2.1), (9, .slice (some ⟨b, 0, none⟩) vs.length vs.length), (10, .int .i64 (vs.length : Int)), (11, .int .i64 (k : Int))] (by kernel_rfl) rfl ?_
    refine GL.k rfl hK52 (fun _ _ h => h) ?_
    refine G.seqK fun K53 hK54 => ?_
    refine G.region ?_
    refine GL.run (j := 5) 5 [0, 3, 9, 10, 11] [(0, .slice (some ⟨b, 0, none⟩) vs.length vs.length), (3, .int .i64 (IntKind.i64.wrap ((((flat (vs.take k)).length : Nat) : Int) + (s.2.2.length : Int)))), (9, .slice (some ⟨b, 0, none⟩) vs.length vs.length), (10, .int .i64 (vs.length : Int)), (11, .int .i64 (k : Int))] (by kernel_rfl) rfl ?_
    have e55 : (IntKind.i64.wrap ((((flat (vs.take k)).length : Nat) : Int) + (s.2.2.length : Int))) = ((((flat (vs.take k)).length) + s.2.2.length : Nat) : Int) := by rw [in_i64 (by first | rfl | omega | (simp only [List.length_cons, List.length_nil, List.length_drop, List.length_take, List.length_append] <;> omega))]; omega
    refine GL.eq (M' := [(0, .slice (some ⟨b, 0, none⟩) vs.length vs.length), (3, .int .i64 ((((flat (vs.take k)).length) + s.2.2.length : Nat) : Int)), (9, .slice (some ⟨b, 0, none⟩) vs.length vs.length), (10, .int .i64 (vs.length : Int)), (11, .int .i64 (k : Int))]) (by rw [e55]) ?_
    clear e55
    refine GL.k rfl hK54 (fun _ _ h => h) ?_
    refine G.seqK fun K56 hK57 => ?_
    refine G.region ?_
    refine GL.run (j := 2) 2 [0, 3, 9, 10, 11, 20] [(0, .slice (some ⟨b, 0, none⟩) vs.length vs.length), (3, .int .i64 ((((flat (vs.take k)).length) + s.2.2.length : Nat) : Int)), (9, .slice (some ⟨b, 0, none⟩) vs.length vs.length), (10, .int .i64 (vs.length : Int)), (11, .int .i64 (k : Int)), (20, .bool (decide (((((flat (vs.take k)).length) + s.2.2.length : Nat) : Int) < 0)))] (by kernel_rfl) rfl ?_
    refine GL.k rfl hK57 (fun _ _ h => h) ?_
    have hb58 : (decide (((((flat (vs.take k)).length) + s.2.2.length : Nat) : Int) < 0)) = false := decide_eq_false (by omega)
    rw [hb58]
    refine G.no rfl ?_
    refine G.skipK hK50 (fun _ _ h => h) ?_
    refine G.region ?_
    refine GL.run (j := 2) 2 [0, 3, 9, 10, 11] [(0, .slice (some ⟨b, 0, none⟩) vs.length vs.length), (3, .int .i64 ((((flat (vs.take k)).length) + s.2.2.length : Nat) : Int)), (9, .slice (some ⟨b, 0, none⟩) vs.length vs.length), (10, .int .i64 (vs.length : Int)), (11, .int .i64 (IntKind.i64.wrap ((k : Int) + 1)))] (by kernel_rfl) rfl ?_
    have e59 : (IntKind.i64.wrap ((k : Int) + 1)) = ((k + 1 : Nat) : Int) := by rw [in_i64 (by omega)]; omega
    refine GL.eq (M' := [(0, .slice (some ⟨b, 0, none⟩) vs.length vs.length), (3, .int .i64 ((((flat (vs.take k)).length) + s.2.2.length : Nat) : Int)), (9, .slice (some ⟨b, 0, none⟩) vs.length vs.length), (10, .int .i64 (vs.length : Int)), (11, .int .i64 ((k + 1 : Nat) : Int))]) (by rw [e59]) ?_
    clear e59
    refine GL.fit (ts := [0, 3, 9, 10, 11]) (M' := [(0, .slice (some ⟨b, 0, none⟩) vs.length vs.length), (3, .int .i64 ((((flat (vs.take k)).length) + s.2.2.length : Nat) : Int)), (9, .slice (some ⟨b, 0, none⟩) vs.length vs.length), (10, .int .i64 (vs.length : Int)), (11, .int .i64 ((k + 1 : Nat) : Int))]) (by kernel_rfl) ?_
    refine GL.eq (M' := [(0, .slice (some ⟨b, 0, none⟩) vs.length vs.length), (3, .int .i64 (((flat (vs.take (k + 1))).length : Nat) : Int)), (9, .slice (some ⟨b, 0, none⟩) vs.length vs.length), (10, .int .i64 (vs.length : Int)), (11, .int .i64 ((k + 1 : Nat) : Int))]) (by rw [e1, List.length_append]) ?_
    exact GL.again (k + 1) [0, 3, 9, 10, 11] rfl (by kernel_rfl) (by show vs.length - (k + 1) < vs.length - (k); omega) ⟨by omega, H11⟩
theorem as_fun {X : List UInt8} (h : X.length = 32) : ∃ f : Nat → UInt8, X = (List.range 32).map f := ⟨fun i => X.getD i 0, ext8 (by simp [h]) fun i hi => by
  rw [List.getD_eq_getElem?_getD (l := List.map _ _), List.getElem?_map, List.getElem?_range (by omega)]
  rfl⟩
theorem built1_22 (X : List UInt8) (hX : X.length = 32) : nev Try.prog (Instr.buildSlice 22 1 #[(0, .agg (by8 X).toArray)]) = some (.cells (by8 X).toArray 25, fun r => some (.slice (some ⟨r, 0, none⟩) 1 1)) := by
  obtain ⟨f, rfl⟩ := as_fun hX
  kernel_rfl
theorem built1_33 (X : List UInt8) (hX : X.length = 32) : nev Try.prog (Instr.buildSlice 33 1 #[(0, .agg (by8 X).toArray)]) = some (.cells (by8 X).toArray 24, fun r => some (.slice (some ⟨r, 0, none⟩) 1 1)) := by
  obtain ⟨f, rfl⟩ := as_fun hX
  kernel_rfl
theorem built3_22 (X : List UInt8) (hX : X.length = 32) : nev Try.prog (Instr.buildSlice 22 3 #[(0, .agg (by8 X).toArray), (1, .agg (by8 X).toArray), (2, .agg (by8 X).toArray)]) = some (.cells (by8 (flat8 [X, X, X])).toArray 25, fun r => some (.slice (some ⟨r, 0, none⟩) 3 3)) := by
  obtain ⟨f, rfl⟩ := as_fun hX
  kernel_rfl
def leafB (n : Int) : Bool := decide (1 ≤ n ∧ n ≤ 65536)
theorem Leaves_calls (n : Int) (w : World) : Calls Try.prog 24 #[.int .i64 n] w fun e w' => e = .returned (.bool (leafB n)) ∧ Hp w [] [] w' := by
  refine calls_G (args := [.int .i64 n]) Try.func24 rfl Try.ntmps24 rfl ?_
  intro Q0 hRet hNor hPan
  have H := Hp.start w
  have H : Hp w [] [] w := H
  refine G.seqK fun K1 hK2 => ?_
  refine G.region ?_
  refine GL.run (j := 1) 1 [0] [(0, .int .i64 n)] (by kernel_rfl) rfl ?_
  refine GL.k rfl hK2 (fun _ _ h => h) ?_
  refine G.seqK fun K3 hK4 => ?_
  refine G.region ?_
  refine GL.run (j := 3) 3 [0, 5] [(0, .int .i64 n), (5, .bool (decide (1 ≤ n)))] (by kernel_rfl) rfl ?_
  cases hb5 : (decide (1 ≤ n))
  · skip
    have hb5f := of_decide_eq_false hb5
    refine GL.run (j := 7) 4 [2] [(2, .bool false)] (by kernel_rfl) rfl ?_
    refine GL.k rfl hK4 (fun _ _ h => h) ?_
    refine G.ret ?_
    intro F_ hF_ hM_
    refine hRet _ _ (bodyPost_1 rfl (RV.tmp rfl) ?_ F_ hF_ hM_)
    have e0 : leafB n = false := by unfold leafB; first | (rw [Bool.eq_iff_iff]; simp only [decide_eq_true_eq]; omega) | (rw [decide_eq_false_iff_not]; omega)
    rw [e0]
    exact ⟨rfl, H.sub (List.nil_sublist _)⟩
  · skip
    have hb5f := of_decide_eq_true hb5
    refine GL.run (j := 7) 4 [2] [(2, .bool (decide (n ≤ 65536)))] (by kernel_rfl) rfl ?_
    refine GL.k rfl hK4 (fun _ _ h => h) ?_
    refine G.ret ?_
    intro F_ hF_ hM_
    refine hRet _ _ (bodyPost_1 rfl (RV.tmp rfl) ?_ F_ hF_ hM_)
    have e0 : leafB n = (decide (n ≤ 65536)) := by unfold leafB; first | (rw [Bool.eq_iff_iff]; simp only [decide_eq_true_eq]; omega) | (rw [decide_eq_false_iff_not]; omega)
    rw [e0]
    exact ⟨rfl, H.sub (List.nil_sublist _)⟩
def chkE (n : Int) : Nat := if n = 0 then 16 else if leafB n = true then 0 else 3
theorem Check_calls (n : Int) (w : World) : Calls Try.prog 22 #[.int .i64 n] w fun e w' => e = .returned (.int .i64 ((chkE n : Nat) : Int)) ∧ Hp w [] [] w' := by
  refine calls_G (args := [.int .i64 n]) Try.func22 rfl Try.ntmps22 rfl ?_
  intro Q0 hRet hNor hPan
  have H := Hp.start w
  have H : Hp w [] [] w := H
  refine G.seqK fun K1 hK2 => ?_
  refine G.region ?_
  refine GL.run (j := 1) 1 [0] [(0, .int .i64 n)] (by kernel_rfl) rfl ?_
  refine GL.k rfl hK2 (fun _ _ h => h) ?_
  refine G.seqK fun K3 hK4 => ?_
  refine G.block ?_
  refine G.seqK fun K5 hK6 => ?_
  refine G.region ?_
  refine GL.run (j := 3) 3 [0, 3] [(0, .int .i64 n), (3, .bool (n == 0))] (by kernel_rfl) rfl ?_
  refine GL.k rfl hK6 (fun _ _ h => h) ?_
  cases hb7 : (n == 0)
  · skip
    have hb7f := ne_of_beq_false hb7
    refine G.no rfl ?_
    refine G.seqK fun K8 hK9 => ?_
    refine G.region ?_
    refine GL.run (j := 1) 1 [7] [(7, .int .i64 n)] (by kernel_rfl) rfl ?_
    refine GL.call (j := 2) (Leaves_calls n w) (by kernel_rfl) rfl (fun e_ w10 hR => ?_)
    obtain ⟨rfl, H12⟩ := hR
    have H11 : Hp w [] [] w10 := H.callNil H12
    refine ⟨_, rfl, [8], [(8, .bool (leafB n))], by kernel_rfl, ?_⟩
    refine GL.run (j := 4) 2 [6] [(6, .bool (!(leafB n)))] (by kernel_rfl) rfl ?_
    refine GL.k rfl hK9 (fun _ _ h => h) ?_
    cases hb13 : (leafB n)
    · skip
      refine G.yes rfl ?_
      refine G.seqK fun K14 hK15 => ?_
      refine G.region ?_
      refine GL.run (j := 1) 1 [2] [(2, .int .i64 3)] (by kernel_rfl) rfl ?_
      refine GL.k rfl hK15 (fun _ _ h => h) ?_
      refine G.ret ?_
      intro F_ hF_ hM_
      refine hRet _ _ (bodyPost_1 rfl (RV.tmp rfl) ?_ F_ hF_ hM_)
      have e0 : chkE n = 3 := by unfold chkE; (repeat' split) <;> first | rfl | omega | simp_all
      rw [e0]
      exact ⟨rfl, H11.sub (List.nil_sublist _)⟩
    · skip
      refine G.no rfl ?_
      refine G.skipK hK4 (fun _ _ h => h) ?_
      refine G.seqK fun K16 hK17 => ?_
      refine G.region ?_
      refine GL.run (j := 1) 1 [2] [(2, .int .i64 0)] (by kernel_rfl) rfl ?_
      refine GL.k rfl hK17 (fun _ _ h => h) ?_
      refine G.ret ?_
      intro F_ hF_ hM_
      refine hRet _ _ (bodyPost_1 rfl (RV.tmp rfl) ?_ F_ hF_ hM_)
      have e0 : chkE n = 0 := by unfold chkE; (repeat' split) <;> first | rfl | omega | simp_all
      rw [e0]
      exact ⟨rfl, H11.sub (List.nil_sublist _)⟩
  · skip
    have hb7f := eq_of_beq hb7
    refine G.yes rfl ?_
    refine G.seqK fun K18 hK19 => ?_
    refine G.region ?_
    refine GL.run (j := 1) 1 [2] [(2, .int .i64 16)] (by kernel_rfl) rfl ?_
    refine GL.k rfl hK19 (fun _ _ h => h) ?_
    refine G.ret ?_
    intro F_ hF_ hM_
    refine hRet _ _ (bodyPost_1 rfl (RV.tmp rfl) ?_ F_ hF_ hM_)
    have e0 : chkE n = 16 := by unfold chkE; (repeat' split) <;> first | rfl | omega | simp_all
    rw [e0]
    exact ⟨rfl, H.sub (List.nil_sublist _)⟩
theorem Both_calls (X Y : List UInt8) (hX : X.length = 32) (hY : Y.length = 32) (w : World) : Calls Try.prog 26 #[.agg (by8 X).toArray, .agg (by8 Y).toArray] w fun e w' => e = .returned (.agg (by8 (bothH X Y)).toArray) ∧ Hp w [] [] w' := by
  refine calls_G (args := [.agg (by8 X).toArray, .agg (by8 Y).toArray]) Try.func26 rfl Try.ntmps26 rfl ?_
  intro Q0 hRet hNor hPan
  have H := Hp.start w
  have H : Hp w [] [] w := H
  refine G.seqK fun K1 hK2 => ?_
  refine G.region ?_
  obtain ⟨p3, w4, r5, H6⟩ := H.box (P := Try.prog) 25 (by8 X) (.agg (by8 X).toArray) rfl
  have H6 : Hp w [] [.blk p3 (by8 X) 25] w4 := H6
  refine GL.sem (j := 1) (r5) [1, 2] [(1, .agg (by8 Y).toArray), (2, pt p3 0)] (by kernel_rfl) (by kernel_rfl) rfl ?_
  obtain ⟨p7, w8, r9, H10⟩ := H6.box (P := Try.prog) 25 (by8 Y) (.agg (by8 Y).toArray) rfl
  have H10 : Hp w [] [.blk p3 (by8 X) 25, .blk p7 (by8 Y) 25] w8 := H10
  refine GL.sem (j := 2) (r9) [2, 3] [(2, pt p3 0), (3, pt p7 0)] (by kernel_rfl) (by kernel_rfl) rfl ?_
  obtain ⟨p11, w12, r13, H14⟩ := H10.alloc (P := Try.prog) 25 (by8 (List.replicate 32 0)) (by kernel_rfl)
  have H14 : Hp w [] [.blk p3 (by8 X) 25, .blk p7 (by8 Y) 25, .blk p11 (by8 (List.replicate 32 0)) 25] w12 := H14
  refine GL.sem (j := 3) (r13) [2, 3, 4] [(2, pt p3 0), (3, pt p7 0), (4, pt p11 0)] (by kernel_rfl) (by kernel_rfl) rfl ?_
  refine GL.k rfl hK2 (fun _ _ h => h) ?_
  refine G.seqK fun K15 hK16 => ?_
  refine G.heldP (Hp w [] [.blk p3 (by8 X) 25, .blk p7 (by8 Y) 25]) (by kernel_rfl) (by kernel_rfl) (fun c_ a_ d_ v_ w_ h_ => hPan c_ a_ d_ v_ w_ h_) ?_
  have H17 := H14.drew
  generalize ({ w12 with drawn := w12.drawn + 1 } : World) = w18 at H17 ⊢
  have hS19 : Hp w [] [.blk p3 (by8 X) 25, .blk p7 (by8 Y) 25] w18 := H17.sub (List.Sublist.cons_cons _ (List.Sublist.cons_cons _ (List.Sublist.cons _ (List.Sublist.slnil))))
  refine GP.run [0, 1] [4, 5, 6] [(4, pt p11 0), (5, .slice (some ⟨p3, 0, none⟩) 32 32), (6, .slice (some ⟨p7, 0, none⟩) 32 32)] [0, 1] (by kernel_rfl) rfl hS19 ?_
  obtain ⟨p20, w21, r22, H23⟩ := H17.made (P := Try.prog) (Instr.buildSlice 69 2 #[(0, .slice (some ⟨p3, 0, none⟩) 32 32), (1, .slice (some ⟨p7, 0, none⟩) 32 32)]) (fun b_ => .slice (some ⟨b_, 0, none⟩) 2 2) [.slice (some ⟨p3, 0, none⟩) 32 32, .slice (some ⟨p7, 0, none⟩) 32 32] 49 (by kernel_rfl)
  have H23 : Hp w [] [.blk p3 (by8 X) 25, .blk p7 (by8 Y) 25, .blk p11 (by8 (List.replicate 32 0)) 25, .blk p20 [.slice (some ⟨p3, 0, none⟩) 32 32, .slice (some ⟨p7, 0, none⟩) 32 32] 49] w21 := H23
  have hS24 : Hp w [] [.blk p3 (by8 X) 25, .blk p7 (by8 Y) 25] w21 := H23.sub (List.Sublist.cons_cons _ (List.Sublist.cons_cons _ (List.Sublist.cons _ (List.Sublist.cons _ (List.Sublist.slnil)))))
  refine GP.made 2 r22 [4, 7] [(4, pt p11 0), (7, .slice (some ⟨p20, 0, none⟩) 2 2)] (by kernel_rfl) (by kernel_rfl) (by kernel_rfl) hS24 ?_
  have hr30 : ∀ s ∈ ([((some ⟨p3, 0, none⟩), 32, X), ((some ⟨p7, 0, none⟩), 32, Y)] : List SB), RdS w21 s.1 (by8 s.2.2) := by
    intro s hs
    simp only [List.mem_cons, List.not_mem_nil, or_false] at hs
    rcases hs with rfl | rfl
    · exact H23.rdBlk (o := 0) (xs := by8 X) 0 32 rfl (sub_whole (by rw [by8_length, hX]))
    · exact H23.rdBlk (o := 0) (xs := by8 Y) 1 32 rfl (sub_whole (by rw [by8_length, hY]))
  have hX31 : flat ([((some ⟨p3, 0, none⟩), 32, X), ((some ⟨p7, 0, none⟩), 32, Y)] : List SB) = (X ++ Y) := by simp [flat]
  have hvhX31 : ([((some ⟨p3, 0, none⟩), 32, X), ((some ⟨p7, 0, none⟩), 32, Y)] : List SB).map sv = [.slice (some ⟨p3, 0, none⟩) 32 32, .slice (some ⟨p7, 0, none⟩) 32 32] := by simp only [List.map_cons, List.map_nil, sv, hX, hY]
  refine GP.call 3 (by have h_ := Concat_calls p20 ([((some ⟨p3, 0, none⟩), 32, X), ((some ⟨p7, 0, none⟩), 32, Y)] : List SB) w21 (by rw [hvhX31]; exact H23.blkAt 3 rfl) hr30 (by rw [hX31, List.length_append, hX, hY]; decide) (by show 2 ≤ _; decide); rw [hX31] at h_; exact h_) (by kernel_rfl) (by kernel_rfl) (fun e_ w27 hR => ?_)
  obtain ⟨A25, c26, rfl, H29⟩ := hR
  have H28 : Hp w [] [.blk p3 (by8 X) 25, .blk p7 (by8 Y) 25, .blk p11 (by8 (List.replicate 32 0)) 25, .blk p20 [.slice (some ⟨p3, 0, none⟩) 32 32, .slice (some ⟨p7, 0, none⟩) 32 32] 49, .row A25 ((X ++ Y).length) c26 5 1 (by8 (X ++ Y))] w27 := H23.callNew H29
  have hS32 : Hp w [] [.blk p3 (by8 X) 25, .blk p7 (by8 Y) 25] w27 := H28.sub (List.Sublist.cons_cons _ (List.Sublist.cons_cons _ (List.Sublist.cons _ (List.Sublist.cons _ (List.Sublist.cons _ (List.Sublist.slnil))))))
  refine ⟨_, rfl, hS32, [4, 8], [(4, pt p11 0), (8, .slice A25 ((X ++ Y).length) c26)], by kernel_rfl, ?_⟩
  refine GP.call 4 (Double_calls A25 ((X ++ Y).length) c26 (X ++ Y) w27 (H28.rdRow 4 rfl) (by first | rfl | omega) (by rw [List.length_append, hX, hY]; decide)) (by kernel_rfl) (by kernel_rfl) (fun e_ w33 hR => ?_)
  obtain ⟨rfl, H35⟩ := hR
  have H34 : Hp w [] [.blk p3 (by8 X) 25, .blk p7 (by8 Y) 25, .blk p11 (by8 (List.replicate 32 0)) 25, .blk p20 [.slice (some ⟨p3, 0, none⟩) 32 32, .slice (some ⟨p7, 0, none⟩) 32 32] 49, .row A25 ((X ++ Y).length) c26 5 1 (by8 (X ++ Y))] w33 := H28.callNil H35
  have hS36 : Hp w [] [.blk p3 (by8 X) 25, .blk p7 (by8 Y) 25] w33 := H34.sub (List.Sublist.cons_cons _ (List.Sublist.cons_cons _ (List.Sublist.cons _ (List.Sublist.cons _ (List.Sublist.cons _ (List.Sublist.slnil))))))
  refine ⟨_, rfl, hS36, [4, 9], [(4, pt p11 0), (9, .agg (by8 (sha (sha (X ++ Y)))).toArray)], by kernel_rfl, ?_⟩
  obtain ⟨w37, r38, H39⟩ := H34.stA (P := Try.prog) (o := 0) (vs := by8 (sha (sha (X ++ Y)))) (ty := 25) (m := 32) 2 rfl (by kernel_rfl) (by rw [by8_length, sha_length]) (Nat.le_of_eq (by rw [Nat.zero_add]; exact ((show (by8 (List.replicate 32 0)).length = 32 from by rw [by8_length]; rfl)).symm)) (by8_one _)
  rw [st_whole (by rw [by8_length]; rfl)] at H39
  have H39 : Hp w [] [.blk p3 (by8 X) 25, .blk p7 (by8 Y) 25, .blk p11 (by8 (sha (sha (X ++ Y)))) 25, .blk p20 [.slice (some ⟨p3, 0, none⟩) 32 32, .slice (some ⟨p7, 0, none⟩) 32 32] 49, .row A25 ((X ++ Y).length) c26 5 1 (by8 (X ++ Y))] w37 := H39
  have hS40 : Hp w [] [.blk p3 (by8 X) 25, .blk p7 (by8 Y) 25] w37 := H39.sub (List.Sublist.cons_cons _ (List.Sublist.cons_cons _ (List.Sublist.cons _ (List.Sublist.cons _ (List.Sublist.cons _ (List.Sublist.slnil))))))
  refine GP.semU 5 r38 [4] [(4, pt p11 0)] (by kernel_rfl) rfl rfl (by kernel_rfl) hS40 ?_
  refine GP.k (by kernel_rfl) hK16 (fun _ _ h => h) ?_
  refine G.ret ?_
  intro F_ hF_ hM_
  refine hRet _ _ (bodyPost_1 rfl (RV.cell rfl (H39.ldA (o := 0) (ty := 25) (m := 32) (sub := by8 (sha (sha (X ++ Y)))) 2 rfl (by kernel_rfl) (sub_whole (by rw [by8_length, sha_length])) (by rw [by8_length, sha_length]))) ?_ F_ hF_ hM_)
  exact ⟨rfl, H39.sub (List.nil_sublist _)⟩
theorem ChunkH_calls (A : Option Addr) (n c : Nat) (w : World) : Calls Try.prog 29 #[.slice A n c, .int .i64 2] w fun e w' => ∃ B D, e = .returned (.func (.func 35) #[] #[.pointer (some ⟨B, 0, none⟩), .pointer (some ⟨D, 0, none⟩)]) ∧ Hp w [] [.blk B [.slice A n c] 22, .blk D [.int .i64 2] 3] w' := by
  refine calls_G (args := [.slice A n c, .int .i64 2]) Try.func29 rfl Try.ntmps29 rfl ?_
  intro Q0 hRet hNor hPan
  have H := Hp.start w
  have H : Hp w [] [] w := H
  refine G.seqK fun K1 hK2 => ?_
  refine G.region ?_
  obtain ⟨p3, w4, r5, H6⟩ := H.box (P := Try.prog) 22 [.slice A n c] (.slice A n c) rfl
  have H6 : Hp w [] [.blk p3 [.slice A n c] 22] w4 := H6
  refine GL.sem (j := 1) (r5) [1, 2] [(1, .int .i64 2), (2, pt p3 0)] (by kernel_rfl) (by kernel_rfl) rfl ?_
  obtain ⟨p7, w8, r9, H10⟩ := H6.box (P := Try.prog) 3 [.int .i64 2] (.int .i64 2) rfl
  have H10 : Hp w [] [.blk p3 [.slice A n c] 22, .blk p7 [.int .i64 2] 3] w8 := H10
  refine GL.sem (j := 2) (r9) [2, 3] [(2, pt p3 0), (3, pt p7 0)] (by kernel_rfl) (by kernel_rfl) rfl ?_
  refine GL.run (j := 3) 1 [2, 3] [(2, pt p3 0), (3, pt p7 0)] (by kernel_rfl) rfl ?_
  refine GL.k rfl hK2 (fun _ _ h => h) ?_
  refine G.seqK fun K11 hK12 => ?_
  refine G.seqK fun K13 hK14 => ?_
  refine G.region ?_
  refine GL.sem (j := 1) (H10.ld (o := 0) (ty := 3) (v := .int .i64 2) 1 rfl (by kernel_rfl) rfl) [2, 3, 5] [(2, pt p3 0), (3, pt p7 0), (5, .int .i64 2)] (by kernel_rfl) (by kernel_rfl) rfl ?_
  refine GL.run (j := 2) 1 [2, 3, 6] [(2, pt p3 0), (3, pt p7 0), (6, .bool false)] (by kernel_rfl) rfl ?_
  refine GL.k rfl hK14 (fun _ _ h => h) ?_
  refine G.no rfl ?_
  refine G.skipK hK12 (fun _ _ h => h) ?_
  refine G.seqK fun K15 hK16 => ?_
  refine G.region ?_
  refine GL.run (j := 2) 2 [4] [(4, .func (.func 35) #[] #[pt p3 0, pt p7 0])] (by kernel_rfl) rfl ?_
  refine GL.k rfl hK16 (fun _ _ h => h) ?_
  refine G.ret ?_
  intro F_ hF_ hM_
  refine hRet _ _ (bodyPost_1 rfl (RV.tmp rfl) ?_ F_ hF_ hM_)
  exact ⟨_, _, rfl, H10⟩
theorem ChunkH_iter (n : Nat) (hn : n ≤ 1000000) (A : Option Addr) (c : Nat) (hc : n ≤ c) (B D : Nat) : Iter Try.prog 35 #[pt B 0, pt D 0] ((n + 1) / 2) (fun k => #[.slice (Option.map (fun x => Addr.add x (2 * k * 32)) A) (min 2 (n - 2 * k)) (min 2 (n - 2 * k))]) (fun W => W.cell? ⟨B, 0, none⟩ = some (.slice A n c) ∧ W.cell? ⟨D, 0, none⟩ = some (.int .i64 2)) := by
  intro l J Jx hRd hst hy w h0
  rw [show (#[Value.func (.yield l) #[] #[]] ++ #[pt B 0, pt D 0] : Array Value) = #[.func (.yield l) #[] #[], pt B 0, pt D 0] by simp]
  refine calls_R (args := [.func (.yield l) #[] #[], pt B 0, pt D 0]) Try.func35 rfl Try.ntmps35 rfl ?_
  intro Q0 hRet hNor
  have H := Hp.start w
  have H : Hp w [] [] w := H
  refine RG.seqK fun K1 hK2 => ?_
  refine RG.region (by kernel_rfl) ?_
  refine RL.run (j := 1) 1 [0, 1, 2, 4] [(0, .func (.yield l) #[] #[]), (1, pt B 0), (2, pt D 0), (4, .int .i64 0)] (by kernel_rfl) rfl ?_
  refine RL.k rfl hK2 (fun _ _ h => h) ?_
  refine RG.block ?_
  refine RG.fit [0, 1, 2, 4] (M' := [(0, .func (.yield l) #[] #[]), (1, pt B 0), (2, pt D 0), (4, .int .i64 0)]) (by kernel_rfl) ?_
  refine RG.eq (M' := [(0, .func (.yield l) #[] #[]), (1, pt B 0), (2, pt D 0), (4, .int .i64 (((2 * 0) : Nat) : Int))]) (by rfl) ?_
  refine RG.loop (X := Nat) (fun k => [(0, .func (.yield l) #[] #[]), (1, pt B 0), (2, pt D 0), (4, .int .i64 (((2 * k) : Nat) : Int))]) (fun k w_ => k ≤ ((n + 1) / 2) ∧ J k w_) (fun k => ((n + 1) / 2) - k) 0 [0, 1, 2, 4] (by kernel_rfl) ⟨Nat.zero_le _, h0⟩ ?_
  rintro k wk ⟨hkN, hJk⟩
  have H3 := Hp.start wk
  refine RG.eq (M' := [(0, .func (.yield l) #[] #[]), (1, pt B 0), (2, pt D 0), (4, .int .i64 (((2 * k) : Nat) : Int))]) rfl ?_
  refine RG.seqK fun K4 hK5 => ?_
  refine RG.seqK fun K6 hK7 => ?_
  refine RG.region (by kernel_rfl) ?_
  refine RL.run (j := 1) 1 [0, 1, 2, 4, 6] [(0, .func (.yield l) #[] #[]), (1, pt B 0), (2, pt D 0), (4, .int .i64 (((2 * k) : Nat) : Int)), (6, .int .i64 (((2 * k) : Nat) : Int))] (by kernel_rfl) rfl ?_
  refine RL.sem (j := 2) (run_ld1 (P := Try.prog) (ty := 22) (a := ⟨B, 0, none⟩) (v := .slice A n c) (by kernel_rfl) (H3.oldCell (hRd _ _ hJk).1)) [0, 1, 2, 4, 6, 7] [(0, .func (.yield l) #[] #[]), (1, pt B 0), (2, pt D 0), (4, .int .i64 (((2 * k) : Nat) : Int)), (6, .int .i64 (((2 * k) : Nat) : Int)), (7, .slice A n c)] (by kernel_rfl) (by kernel_rfl) rfl ?_
  refine RL.run (j := 4) 2 [0, 1, 2, 4, 9] [(0, .func (.yield l) #[] #[]), (1, pt B 0), (2, pt D 0), (4, .int .i64 (((2 * k) : Nat) : Int)), (9, .bool (decide ((((2 * k) : Nat) : Int) < (n : Int))))] (by kernel_rfl) rfl ?_
  refine RL.k rfl hK7 (fun _ _ h => h) ?_
  cases hb8 : (decide ((((2 * k) : Nat) : Int) < (n : Int)))
  · skip
    have hb8f := of_decide_eq_false hb8
    refine RG.no rfl ?_
    refine fun F_ hF_ hM_ => wpIn_exit ?_
    refine hNor _ _ (postM_0 rfl  ?_ F_ hF_ hM_)
    exact ⟨⟨_, rfl⟩, .inl (by first | exact hJk | (have hkk : k = ((n + 1) / 2) := by omega); rw [← hkk]; exact hJk)⟩
  · skip
    have hb8f := of_decide_eq_true hb8
    refine RG.yes rfl ?_
    refine RG.skipK hK5 (fun _ _ h => h) ?_
    refine RG.seqK fun K9 hK10 => ?_
    refine RG.block ?_
    refine RG.seqK fun K11 hK12 => ?_
    refine RG.draw H3 (by kernel_rfl) (by kernel_rfl) ?_
    refine GQ.sem (j := 1) (fun w_ H_ => run_ld1 (P := Try.prog) (ty := 3) (a := ⟨D, 0, none⟩) (v := .int .i64 2) (by kernel_rfl) (H_.oldCell (hRd _ _ hJk).2)) [0, 1, 2, 4, 13] [(0, .func (.yield l) #[] #[]), (1, pt B 0), (2, pt D 0), (4, .int .i64 (((2 * k) : Nat) : Int)), (13, .int .i64 2)] (by kernel_rfl) (by kernel_rfl) rfl ?_
    refine GQ.sem (j := 2) (fun w_ H_ => run_ld1 (P := Try.prog) (ty := 22) (a := ⟨B, 0, none⟩) (v := .slice A n c) (by kernel_rfl) (H_.oldCell (hRd _ _ hJk).1)) [0, 1, 2, 4, 13, 14] [(0, .func (.yield l) #[] #[]), (1, pt B 0), (2, pt D 0), (4, .int .i64 (((2 * k) : Nat) : Int)), (13, .int .i64 2), (14, .slice A n c)] (by kernel_rfl) (by kernel_rfl) rfl ?_
    refine GQ.run (j := 3) 1 [0, 1, 2, 4, 13, 14, 15] [(0, .func (.yield l) #[] #[]), (1, pt B 0), (2, pt D 0), (4, .int .i64 (((2 * k) : Nat) : Int)), (13, .int .i64 2), (14, .slice A n c), (15, .int .i64 (((2 * k) : Nat) : Int))] (by kernel_rfl) rfl ?_
    refine GQ.sem (j := 4) (fun w_ H_ => run_sliceFrom (P := Try.prog) (t := 22) (len := n) (cap := c) (A := A) (sz := 32) (l := 2 * k) (k1 := .i64) (by kernel_rfl) (by omega) (by omega) _) [0, 1, 2, 4, 13, 16] [(0, .func (.yield l) #[] #[]), (1, pt B 0), (2, pt D 0), (4, .int .i64 (((2 * k) : Nat) : Int)), (13, .int .i64 2), (16, .slice (if c = (2 * k) then A else Option.map (fun x => Addr.add x (2 * k * 32)) A) (n - 2 * k) (c - 2 * k))] (by kernel_rfl) (by kernel_rfl) rfl ?_
    refine GQ.run (j := 7) 3 [0, 1, 2, 4, 5] [(0, .func (.yield l) #[] #[]), (1, pt B 0), (2, pt D 0), (4, .int .i64 (((2 * k) : Nat) : Int)), (5, .int .i64 (if (((n - 2 * k) : Nat) : Int) < (2 : Int) then (((n - 2 * k) : Nat) : Int) else (2 : Int)))] (by kernel_rfl) rfl ?_
    have e13 : (if (((n - 2 * k) : Nat) : Int) < (2 : Int) then (((n - 2 * k) : Nat) : Int) else (2 : Int)) = (((min 2 (n - 2 * k)) : Nat) : Int) := min_int 2 (n - 2 * k)
    refine GQ.eq (M' := [(0, .func (.yield l) #[] #[]), (1, pt B 0), (2, pt D 0), (4, .int .i64 (((2 * k) : Nat) : Int)), (5, .int .i64 (((min 2 (n - 2 * k)) : Nat) : Int))]) (by rw [e13]) ?_
    clear e13
    refine GQ.kR rfl hK12 (fun _ _ h => h) (fun w14 H15 => ?_)
    refine RG.seqK fun K16 hK17 => ?_
    refine RG.region (by kernel_rfl) ?_
    refine RL.run (j := 1) 1 [0, 1, 2, 4, 5, 19] [(0, .func (.yield l) #[] #[]), (1, pt B 0), (2, pt D 0), (4, .int .i64 (((2 * k) : Nat) : Int)), (5, .int .i64 (((min 2 (n - 2 * k)) : Nat) : Int)), (19, .func (.yield l) #[] #[])] (by kernel_rfl) rfl ?_
    refine RL.sem (j := 2) (run_ld1 (P := Try.prog) (ty := 22) (a := ⟨B, 0, none⟩) (v := .slice A n c) (by kernel_rfl) (H15.oldCell (hRd _ _ hJk).1)) [0, 1, 2, 4, 5, 19, 20] [(0, .func (.yield l) #[] #[]), (1, pt B 0), (2, pt D 0), (4, .int .i64 (((2 * k) : Nat) : Int)), (5, .int .i64 (((min 2 (n - 2 * k)) : Nat) : Int)), (19, .func (.yield l) #[] #[]), (20, .slice A n c)] (by kernel_rfl) (by kernel_rfl) rfl ?_
    refine RL.run (j := 9) 7 [0, 1, 2, 4, 19, 20, 21, 24, 27] [(0, .func (.yield l) #[] #[]), (1, pt B 0), (2, pt D 0), (4, .int .i64 (((2 * k) : Nat) : Int)), (19, .func (.yield l) #[] #[]), (20, .slice A n c), (21, .int .i64 (((2 * k) : Nat) : Int)), (24, .int .i64 (IntKind.i64.wrap ((((2 * k) : Nat) : Int) + (((min 2 (n - 2 * k)) : Nat) : Int)))), (27, .int .i64 (IntKind.i64.wrap ((((2 * k) : Nat) : Int) + (((min 2 (n - 2 * k)) : Nat) : Int))))] (by kernel_rfl) rfl ?_
    have e18 : (IntKind.i64.wrap ((((2 * k) : Nat) : Int) + (((min 2 (n - 2 * k)) : Nat) : Int))) = (((2 * k) + (min 2 (n - 2 * k)) : Nat) : Int) := by rw [in_i64 (by omega)]; omega
    refine RL.eq (M' := [(0, .func (.yield l) #[] #[]), (1, pt B 0), (2, pt D 0), (4, .int .i64 (((2 * k) : Nat) : Int)), (19, .func (.yield l) #[] #[]), (20, .slice A n c), (21, .int .i64 (((2 * k) : Nat) : Int)), (24, .int .i64 (((2 * k) + (min 2 (n - 2 * k)) : Nat) : Int)), (27, .int .i64 (((2 * k) + (min 2 (n - 2 * k)) : Nat) : Int))]) (by rw [e18]) ?_
    clear e18
    refine RL.sem (j := 10) (run_slice3S (P := Try.prog) (t := 22) (sz := 32) (len := n) (cap := c) (A := A) (k1 := .i64) (k2 := .i64) (k3 := .i64) (l := 2 * k) (h := (2 * k) + (min 2 (n - 2 * k))) (n := (min 2 (n - 2 * k))) (by kernel_rfl) rfl (by omega) (by omega) _) [0, 1, 2, 4, 19, 28] [(0, .func (.yield l) #[] #[]), (1, pt B 0), (2, pt D 0), (4, .int .i64 (((2 * k) : Nat) : Int)), (19, .func (.yield l) #[] #[]), (28, .slice (Option.map (fun x => Addr.add x (2 * k * 32)) A) (min 2 (n - 2 * k)) (min 2 (n - 2 * k)))] (by kernel_rfl) (by kernel_rfl) rfl ?_
    refine RL.yield (j := 11) (hy k _ (by omega) (hst k _ _ hJk H15.below)) (by kernel_rfl) rfl (fun e_ w19 hR23 => ?_)
    obtain ⟨b20, rfl, hyt21, hyf22⟩ := yield_cases hR23
    have H24 := Hp.start w19
    refine ⟨_, rfl, [0, 1, 2, 4, 29], [(0, .func (.yield l) #[] #[]), (1, pt B 0), (2, pt D 0), (4, .int .i64 (((2 * k) : Nat) : Int)), (29, .bool b20)], by kernel_rfl, ?_⟩
    refine RL.run (j := 12) 1 [0, 1, 2, 4, 30] [(0, .func (.yield l) #[] #[]), (1, pt B 0), (2, pt D 0), (4, .int .i64 (((2 * k) : Nat) : Int)), (30, .bool (!b20))] (by kernel_rfl) rfl ?_
    refine RL.k rfl hK17 (fun _ _ h => h) ?_
    rcases (Bool.eq_false_or_eq_true b20).symm with hb25 | hb25
    · skip
      refine RG.eq (M' := [(0, .func (.yield l) #[] #[]), (1, pt B 0), (2, pt D 0), (4, .int .i64 (((2 * k) : Nat) : Int)), (30, .bool true)]) (by first | (rw [hb25]; done) | (rw [hb25]; rfl)) ?_
      have hJ26 := hyf22 hb25
      refine RG.yes rfl ?_
      refine RG.ret ?_
      intro F_ hF_ hM_
      refine hRet _ _ (postM_0 rfl  ?_ F_ hF_ hM_)
      exact ⟨⟨_, rfl⟩, .inr hJ26⟩
    · skip
      refine RG.eq (M' := [(0, .func (.yield l) #[] #[]), (1, pt B 0), (2, pt D 0), (4, .int .i64 (((2 * k) : Nat) : Int)), (30, .bool false)]) (by first | (rw [hb25]; done) | (rw [hb25]; rfl)) ?_
      have hJ27 := hyt21 hb25
      refine RG.no rfl ?_
      refine RG.skipK hK10 (fun _ _ h => h) ?_
      refine RG.region (by kernel_rfl) ?_
      refine RL.run (j := 1) 1 [0, 1, 2, 10] [(0, .func (.yield l) #[] #[]), (1, pt B 0), (2, pt D 0), (10, .int .i64 (((2 * k) : Nat) : Int))] (by kernel_rfl) rfl ?_
      refine RL.sem (j := 2) (run_ld1 (P := Try.prog) (ty := 3) (a := ⟨D, 0, none⟩) (v := .int .i64 2) (by kernel_rfl) (H24.oldCell (hRd _ _ hJ27).2)) [0, 1, 2, 10, 11] [(0, .func (.yield l) #[] #[]), (1, pt B 0), (2, pt D 0), (10, .int .i64 (((2 * k) : Nat) : Int)), (11, .int .i64 2)] (by kernel_rfl) (by kernel_rfl) rfl ?_
      refine RL.run (j := 4) 2 [0, 1, 2, 4] [(0, .func (.yield l) #[] #[]), (1, pt B 0), (2, pt D 0), (4, .int .i64 (IntKind.i64.wrap ((((2 * k) : Nat) : Int) + 2)))] (by kernel_rfl) rfl ?_
      have e28 : (IntKind.i64.wrap ((((2 * k) : Nat) : Int) + 2)) = (((2 * k) + 2 : Nat) : Int) := by rw [in_i64 (by omega)]; omega
      refine RL.eq (M' := [(0, .func (.yield l) #[] #[]), (1, pt B 0), (2, pt D 0), (4, .int .i64 (((2 * k) + 2 : Nat) : Int))]) (by rw [e28]) ?_
      clear e28
      refine RL.fit (ts := [0, 1, 2, 4]) (M' := [(0, .func (.yield l) #[] #[]), (1, pt B 0), (2, pt D 0), (4, .int .i64 (((2 * k) + 2 : Nat) : Int))]) (by kernel_rfl) ?_
      refine RL.eq (M' := [(0, .func (.yield l) #[] #[]), (1, pt B 0), (2, pt D 0), (4, .int .i64 (((2 * (k + 1)) : Nat) : Int))]) (by rw [show 2 * k + 2 = 2 * (k + 1) by omega]) ?_
      exact RL.again (k + 1) [0, 1, 2, 4] rfl (by kernel_rfl) (by show ((n + 1) / 2) - (k + 1) < ((n + 1) / 2) - k; omega) ⟨by omega, hJ27⟩
theorem Up_calls (A : Option Addr) (c : Nat) (l : List (List UInt8)) (w : World) (hx : RdS w A (by8 (flat8 l))) (hok : ok32 l) (hc : l.length ≤ c) (hl : l.length ≤ 65536) : Calls Try.prog 23 #[.slice A l.length c] w fun e w' => ∃ A' c', e = .returned (.slice A' (upH l).length c') ∧ Hp w [] [.row A' (upH l).length c' 25 32 (by8 (flat8 (upH l)))] w' := by
  refine calls_R (args := [.slice A l.length c]) Try.func23 rfl Try.ntmps23 rfl ?_
  intro Q0 hRet hNor
  have H := Hp.start w
  have H : Hp w [] [] w := H
  refine RG.seqK fun K1 hK2 => ?_
  refine RG.region (by kernel_rfl) ?_
  refine RL.run (j := 1) 1 [0] [(0, .slice A l.length c)] (by kernel_rfl) rfl ?_
  refine RL.k rfl hK2 (fun _ _ h => h) ?_
  refine RG.seqK fun K3 hK4 => ?_
  refine RG.region (by kernel_rfl) ?_
  obtain ⟨p5, w6, r7, H8⟩ := H.alloc (P := Try.prog) 22 [.slice none 0 0] (by kernel_rfl)
  have H8 : Hp w [] [.blk p5 [.slice none 0 0] 22] w6 := H8
  refine RL.sem (j := 1) (r7) [0, 3] [(0, .slice A l.length c), (3, pt p5 0)] (by kernel_rfl) (by kernel_rfl) rfl ?_
  refine RL.k rfl hK4 (fun _ _ h => h) ?_
  refine RG.seqK fun K9 hK10 => ?_
  refine RG.seqK fun K11 hK12 => ?_
  refine RG.region (by kernel_rfl) ?_
  refine RL.run (j := 1) 1 [3, 5] [(3, pt p5 0), (5, .slice A l.length c)] (by kernel_rfl) rfl ?_
  refine RL.call (j := 2) (ChunkH_calls A l.length c w6) (by kernel_rfl) rfl (fun e_ w17 hR => ?_)
  obtain ⟨B13, D14, rfl, H16⟩ := hR
  have H15 : Hp w [] [.blk p5 [.slice none 0 0] 22, .blk B13 [.slice A l.length c] 22, .blk D14 [.int .i64 2] 3] w17 := H8.callNew H16
  refine ⟨_, rfl, [3, 6], [(3, pt p5 0), (6, .func (.func 35) #[] #[pt B13 0, pt D14 0])], by kernel_rfl, ?_⟩
  refine RL.k rfl hK12 (fun _ _ h => h) ?_
  refine RG.block ?_
  have H18 := H15.rowNil 25 32
  have H18 : Hp w [] [.blk p5 [.slice none 0 0] 22, .blk B13 [.slice A l.length c] 22, .blk D14 [.int .i64 2] 3, .row none 0 0 25 32 (by8 (flat8 ((upH l).take 0)))] w17 := H18
  refine RG.fit [3, 6] (M' := [(3, pt p5 0), (6, .func (.func 35) #[] #[pt B13 0, pt D14 0])]) (by kernel_rfl) ?_
  refine RG.range H18 (gf := 35) (lb := #[pt B13 0, pt D14 0]) rfl (enters_of Try.func35 (by kernel_rfl) rfl) (Xt := Option Addr × Nat) (fun k ⟨A_, c_⟩ => True) (fun k ⟨A_, c_⟩ => [.blk p5 [.slice A_ k c_] 22, .blk B13 [.slice A l.length c] 22, .blk D14 [.int .i64 2] 3, .row A_ k c_ 25 32 (by8 (flat8 ((upH l).take k)))]) (fun ⟨A_, c_⟩ => False) (fun ⟨A_, c_⟩ => []) (N := ((l.length + 1) / 2)) (enc := fun k => #[.slice (Option.map (fun x => Addr.add x (2 * k * 32)) A) (min 2 (l.length - 2 * k)) (min 2 (l.length - 2 * k))]) (ChunkH_iter l.length (by omega) A c hc B13 D14) (fun _ => rfl) ⟨none, 0⟩ trivial rfl (fun k s E W hx HW => ⟨(HW.blkAt 1 rfl).cell 0, (HW.blkAt 2 rfl).cell 0⟩) (fun k => [(7, .slice (Option.map (fun x => Addr.add x (2 * k * 32)) A) (min 2 (l.length - 2 * k)) (min 2 (l.length - 2 * k))), (3, pt p5 0), (6, .func (.func 35) #[] #[pt B13 0, pt D14 0])]) (fun _ => rfl) ?_ ?_ ?_
  · skip
    rintro D22 l23 oR24 oB25 k ⟨A_, c_⟩ w19 K26 hk27 hx20 H21 hK28
    have H21 : Hp w [] [.blk p5 [.slice A_ k c_] 22, .blk B13 [.slice A l.length c] 22, .blk D14 [.int .i64 2] 3, .row A_ k c_ 25 32 (by8 (flat8 ((upH l).take k))), .obj D22 DF, .obj l23 oR24] w19 := H21
    have hk9 := hk27
    have hk2 : 2 * k < l.length := by omega
    refine RG.region (by kernel_rfl) ?_
    refine RL.run (j := 1) 1 [3, 4] [(3, pt p5 0), (4, .slice (Option.map (fun x => Addr.add x (2 * k * 32)) A) (min 2 (l.length - 2 * k)) (min 2 (l.length - 2 * k)))] (by kernel_rfl) rfl ?_
    refine RL.done rfl (fun F_ hF_ hM_ => hK28 F_ _ [.blk p5 [.slice A_ k c_] 22, .blk B13 [.slice A l.length c] 22, .blk D14 [.int .i64 2] 3, .row A_ k c_ 25 32 (by8 (flat8 ((upH l).take k)))] _ hF_ hM_ H21 ?_)
    intro w29 H30
    have H30 : Hp w [] [.blk p5 [.slice A_ k c_] 22, .blk B13 [.slice A l.length c] 22, .blk D14 [.int .i64 2] 3, .row A_ k c_ 25 32 (by8 (flat8 ((upH l).take k))), .obj D22 DF, .obj l23 oB25] w29 := H30
    refine RG.block ?_
    refine RG.heldP (Hp w [] [.blk B13 [.slice A l.length c] 22, .blk D14 [.int .i64 2] 3, .obj D22 DF, .obj l23 oB25]) (by kernel_rfl) (by kernel_rfl) (by kernel_rfl) (fun ⟨_, _, h_⟩ => h_) (fun c_ a_ d_ v_ w_ h_ => h_) ?_
    have H31 := H30.drew
    generalize ({ w29 with drawn := w29.drawn + 1 } : World) = w32 at H31 ⊢
    have hS33 : Hp w [] [.blk B13 [.slice A l.length c] 22, .blk D14 [.int .i64 2] 3, .obj D22 DF, .obj l23 oB25] w32 := H31.sub (List.Sublist.cons _ (List.Sublist.cons_cons _ (List.Sublist.cons_cons _ (List.Sublist.cons _ (List.Sublist.cons_cons _ (List.Sublist.cons_cons _ (List.Sublist.slnil)))))))
    refine GP.run [1] [3, 4, 9] [(3, pt p5 0), (4, .slice (Option.map (fun x => Addr.add x (2 * k * 32)) A) (min 2 (l.length - 2 * k)) (min 2 (l.length - 2 * k))), (9, .slice (Option.map (fun x => Addr.add x (2 * k * 32)) A) (min 2 (l.length - 2 * k)) (min 2 (l.length - 2 * k)))] [1] (by kernel_rfl) rfl hS33 ?_
    refine GP.sem 2 (fun w_ H_ => run_idxRdN (P := Try.prog) (k := .i64) (t := 22) (sz := 32) (A := (Option.map (fun x => Addr.add x (2 * k * 32)) A)) (len := (min 2 (l.length - 2 * k))) (cap := (min 2 (l.length - 2 * k))) (j := 0) (by kernel_rfl) rfl ((hx.hp H_).chunk (2 * k * 32) ((min 2 (l.length - 2 * k)) * 32) (by rw [flat8_length hok]; omega)) (chunk_len hok hk2) (by decide) (by omega)) [3, 4, 10] [(3, pt p5 0), (4, .slice (Option.map (fun x => Addr.add x (2 * k * 32)) A) (min 2 (l.length - 2 * k)) (min 2 (l.length - 2 * k))), (10, .pointer (Option.map (fun x => Addr.add x (0 * 32)) (Option.map (fun x => Addr.add x (2 * k * 32)) A)))] (by kernel_rfl) (by kernel_rfl) (by kernel_rfl) hS33 ?_
    refine GP.sem 3 (fun w_ H_ => run_ldRdA (P := Try.prog) (ty := 25) (m := 32) (o := (0 * 32)) (A := (Option.map (fun x => Addr.add x (2 * k * 32)) A)) (sub := by8 (l.getD (2 * k) [])) (by kernel_rfl) ((hx.hp H_).chunk (2 * k * 32) ((min 2 (l.length - 2 * k)) * 32) (by rw [flat8_length hok]; omega)) (chunk_at (j := 0) hok (by omega)) (by rw [by8_length, ok32_at hok (by omega)]) (by decide)) [3, 4, 11] [(3, pt p5 0), (4, .slice (Option.map (fun x => Addr.add x (2 * k * 32)) A) (min 2 (l.length - 2 * k)) (min 2 (l.length - 2 * k))), (11, .agg (by8 (l.getD (2 * k) [])).toArray)] (by kernel_rfl) (by kernel_rfl) (by kernel_rfl) hS33 ?_
    refine GP.run [4, 5, 6, 7] [3, 11, 12, 15] [(3, pt p5 0), (11, .agg (by8 (l.getD (2 * k) [])).toArray), (12, .slice (Option.map (fun x => Addr.add x (2 * k * 32)) A) (min 2 (l.length - 2 * k)) (min 2 (l.length - 2 * k))), (15, .int .i64 (IntKind.i64.wrap ((((min 2 (l.length - 2 * k)) : Nat) : Int) - 1)))] [1, 2, 3, 4, 5, 6, 7] (by kernel_rfl) rfl hS33 ?_
    have e34 : (IntKind.i64.wrap ((((min 2 (l.length - 2 * k)) : Nat) : Int) - 1)) = ((((min 2 (l.length - 2 * k)) - 1) : Nat) : Int) := by rw [in_i64 (by omega)]; omega
    refine GP.eq (M' := [(3, pt p5 0), (11, .agg (by8 (l.getD (2 * k) [])).toArray), (12, .slice (Option.map (fun x => Addr.add x (2 * k * 32)) A) (min 2 (l.length - 2 * k)) (min 2 (l.length - 2 * k))), (15, .int .i64 ((((min 2 (l.length - 2 * k)) - 1) : Nat) : Int))]) (by rw [e34]) ?_
    clear e34
    refine GP.sem 8 (fun w_ H_ => run_idxRdN (P := Try.prog) (k := .i64) (t := 22) (sz := 32) (A := (Option.map (fun x => Addr.add x (2 * k * 32)) A)) (len := (min 2 (l.length - 2 * k))) (cap := (min 2 (l.length - 2 * k))) (j := ((min 2 (l.length - 2 * k)) - 1)) (by kernel_rfl) rfl ((hx.hp H_).chunk (2 * k * 32) ((min 2 (l.length - 2 * k)) * 32) (by rw [flat8_length hok]; omega)) (chunk_len hok hk2) (by decide) (by omega)) [3, 11, 16] [(3, pt p5 0), (11, .agg (by8 (l.getD (2 * k) [])).toArray), (16, .pointer (Option.map (fun x => Addr.add x (((min 2 (l.length - 2 * k)) - 1) * 32)) (Option.map (fun x => Addr.add x (2 * k * 32)) A)))] (by kernel_rfl) (by kernel_rfl) (by kernel_rfl) hS33 ?_
    refine GP.sem 9 (fun w_ H_ => run_ldRdA (P := Try.prog) (ty := 25) (m := 32) (o := (((min 2 (l.length - 2 * k)) - 1) * 32)) (A := (Option.map (fun x => Addr.add x (2 * k * 32)) A)) (sub := by8 (l.getD (if 2 * k + 1 < l.length then 2 * k + 1 else 2 * k) [])) (by kernel_rfl) ((hx.hp H_).chunk (2 * k * 32) ((min 2 (l.length - 2 * k)) * 32) (by rw [flat8_length hok]; omega)) ((chunk_at (j := ((min 2 (l.length - 2 * k)) - 1)) hok (by omega)).trans (by congr 2; split <;> omega)) (by rw [by8_length, ok32_at hok (by split <;> omega)]) (by decide)) [3, 11, 17] [(3, pt p5 0), (11, .agg (by8 (l.getD (2 * k) [])).toArray), (17, .agg (by8 (l.getD (if 2 * k + 1 < l.length then 2 * k + 1 else 2 * k) [])).toArray)] (by kernel_rfl) (by kernel_rfl) (by kernel_rfl) hS33 ?_
    refine GP.named fun Xd_ hXd_ => ?_
    have st61 : ∀ (wD_ : World) (p50 : Nat), Hp w [] [.blk p5 [.slice A_ k c_] 22, .blk B13 [.slice A l.length c] 22, .blk D14 [.int .i64 2] 3, .row A_ k c_ 25 32 (by8 (flat8 ((upH l).take k))), .obj D22 DF, .obj l23 oB25, .row (some ⟨p50, 0, none⟩) 1 1 25 32 (by8 (bothH (l.getD (2 * k) []) (l.getD (if 2 * k + 1 < l.length then 2 * k + 1 else 2 * k) [])))] wD_ → Xd_ [1, 2, 3, 4, 5, 6, 7, 8, 9, 0, 10, 11] [(3, pt p5 0), (8, .slice A_ k c_), (19, .slice (some ⟨p50, 0, none⟩) 1 1)] wD_ := by
      intro wD_ p50 HD_
      rw [hXd_]
      have hS62 : Hp w [] [.blk B13 [.slice A l.length c] 22, .blk D14 [.int .i64 2] 3, .obj D22 DF, .obj l23 oB25] wD_ := HD_.sub (List.Sublist.cons _ (List.Sublist.cons_cons _ (List.Sublist.cons_cons _ (List.Sublist.cons _ (List.Sublist.cons_cons _ (List.Sublist.cons_cons _ (List.Sublist.cons _ (List.Sublist.slnil))))))))
      obtain ⟨A63, c64, w65, r66, H67⟩ := HD_.append (P := Try.prog) (e := 25) (sz := 32) (by_ := 32) (n := k) (c := c_) (m := 1) (d := 1) (t := 22) (ty := 22) (xs := by8 (flat8 ((upH l).take k))) (news := by8 (bothH (l.getD (2 * k) []) (l.getD (if 2 * k + 1 < l.length then 2 * k + 1 else 2 * k) []))) 3 rfl (by kernel_rfl) (HD_.rdRowN 6 rfl) (by rw [by8_length, bothH_length]) (by8_one _) (by omega) (by simp only [maxLen]; omega)
      rw [← by8_append] at H67
      have H67 : Hp w [] [.blk p5 [.slice A_ k c_] 22, .blk B13 [.slice A l.length c] 22, .blk D14 [.int .i64 2] 3, .row A63 (k + 1) c64 25 32 (by8 ((flat8 ((upH l).take k)) ++ (bothH (l.getD (2 * k) []) (l.getD (if 2 * k + 1 < l.length then 2 * k + 1 else 2 * k) [])))), .obj D22 DF, .obj l23 oB25, .row (some ⟨p50, 0, none⟩) 1 1 25 32 (by8 (bothH (l.getD (2 * k) []) (l.getD (if 2 * k + 1 < l.length then 2 * k + 1 else 2 * k) [])))] w65 := H67
      have hS68 : Hp w [] [.blk B13 [.slice A l.length c] 22, .blk D14 [.int .i64 2] 3, .obj D22 DF, .obj l23 oB25] w65 := H67.sub (List.Sublist.cons _ (List.Sublist.cons_cons _ (List.Sublist.cons_cons _ (List.Sublist.cons _ (List.Sublist.cons_cons _ (List.Sublist.cons_cons _ (List.Sublist.cons _ (List.Sublist.slnil))))))))
      refine GP.made 12 r66 [3, 20] [(3, pt p5 0), (20, .slice A63 (k + 1) c64)] (by kernel_rfl) (by kernel_rfl) (by kernel_rfl) hS68 ?_
      obtain ⟨w69, r70, H71⟩ := H67.st (P := Try.prog) (o := 0) (ty := 22) (v := .slice A63 (k + 1) c64) 0 rfl (by kernel_rfl) (by simp) rfl
      have H71 : Hp w [] [.blk p5 [.slice A63 (k + 1) c64] 22, .blk B13 [.slice A l.length c] 22, .blk D14 [.int .i64 2] 3, .row A63 (k + 1) c64 25 32 (by8 ((flat8 ((upH l).take k)) ++ (bothH (l.getD (2 * k) []) (l.getD (if 2 * k + 1 < l.length then 2 * k + 1 else 2 * k) [])))), .obj D22 DF, .obj l23 oB25, .row (some ⟨p50, 0, none⟩) 1 1 25 32 (by8 (bothH (l.getD (2 * k) []) (l.getD (if 2 * k + 1 < l.length then 2 * k + 1 else 2 * k) [])))] w69 := H71
      have hS72 : Hp w [] [.blk B13 [.slice A l.length c] 22, .blk D14 [.int .i64 2] 3, .obj D22 DF, .obj l23 oB25] w69 := H71.sub (List.Sublist.cons _ (List.Sublist.cons_cons _ (List.Sublist.cons_cons _ (List.Sublist.cons _ (List.Sublist.cons_cons _ (List.Sublist.cons_cons _ (List.Sublist.cons _ (List.Sublist.slnil))))))))
      refine GP.semU 13 r70 [] [] (by kernel_rfl) rfl rfl (by kernel_rfl) hS72 ?_
      have H73 : Hp w [] [.blk p5 [.slice A63 (k + 1) c64] 22, .blk B13 [.slice A l.length c] 22, .blk D14 [.int .i64 2] 3, .row A63 (k + 1) c64 25 32 (by8 ((flat8 ((upH l).take k)) ++ (bothH (l.getD (2 * k) []) (l.getD (if 2 * k + 1 < l.length then 2 * k + 1 else 2 * k) [])))), .obj D22 DF, .obj l23 oB25] w69 := H71.sub (List.Sublist.cons_cons _ (List.Sublist.cons_cons _ (List.Sublist.cons_cons _ (List.Sublist.cons_cons _ (List.Sublist.cons_cons _ (List.Sublist.cons_cons _ (List.Sublist.cons _ (List.Sublist.slnil))))))))
      have H74 : Hp w [] [.blk p5 [.slice A63 (k + 1) c64] 22, .blk B13 [.slice A l.length c] 22, .blk D14 [.int .i64 2] 3, .row A63 (k + 1) c64 25 32 (by8 (flat8 ((upH l).take (k + 1)))), .obj D22 DF, .obj l23 oB25] w69 := by rw [upH_next hk2, flat8_snoc]; exact H73
      exact GP.fin (by kernel_rfl) (fun F_ hF_ hM_ => ⟨⟨A63, c64⟩, trivial, H74⟩)
    have st59 : ∀ (wD_ : World), Hp w [] [.blk p5 [.slice A_ k c_] 22, .blk B13 [.slice A l.length c] 22, .blk D14 [.int .i64 2] 3, .row A_ k c_ 25 32 (by8 (flat8 ((upH l).take k))), .obj D22 DF, .obj l23 oB25] wD_ → Xd_ [1, 2, 3, 4, 5, 6, 7, 8, 9, 0, 10] [(3, pt p5 0), (8, .slice A_ k c_), (18, .agg (by8 (bothH (l.getD (2 * k) []) (l.getD (if 2 * k + 1 < l.length then 2 * k + 1 else 2 * k) []))).toArray)] wD_ := by
      intro wD_ HD_
      rw [hXd_]
      have hS75 : Hp w [] [.blk B13 [.slice A l.length c] 22, .blk D14 [.int .i64 2] 3, .obj D22 DF, .obj l23 oB25] wD_ := HD_.sub (List.Sublist.cons _ (List.Sublist.cons_cons _ (List.Sublist.cons_cons _ (List.Sublist.cons _ (List.Sublist.cons_cons _ (List.Sublist.cons_cons _ (List.Sublist.slnil)))))))
      refine GP.all1 11 (by kernel_rfl) ?_
      · skip
        have hS76 : Hp w [] [.blk B13 [.slice A l.length c] 22, .blk D14 [.int .i64 2] 3, .obj D22 DF, .obj l23 oB25] wD_ := HD_.sub (List.Sublist.cons _ (List.Sublist.cons_cons _ (List.Sublist.cons_cons _ (List.Sublist.cons _ (List.Sublist.cons_cons _ (List.Sublist.cons_cons _ (List.Sublist.slnil)))))))
        obtain ⟨p77, w78, r79, H80⟩ := HD_.madeRow (P := Try.prog) (Instr.buildSlice 22 1 #[(0, .agg (by8 (bothH (l.getD (2 * k) []) (l.getD (if 2 * k + 1 < l.length then 2 * k + 1 else 2 * k) []))).toArray)]) (fun b_ => .slice (some ⟨b_, 0, none⟩) 1 1) (by8 (bothH (l.getD (2 * k) []) (l.getD (if 2 * k + 1 < l.length then 2 * k + 1 else 2 * k) []))) 25 1 1 32 (built1_22 (bothH (l.getD (2 * k) []) (l.getD (if 2 * k + 1 < l.length then 2 * k + 1 else 2 * k) [])) (by rw [bothH_length])) (by decide) (by decide) (by rw [by8_length, bothH_length])
        rw [List.take_of_length_le (show (by8 (bothH (l.getD (2 * k) []) (l.getD (if 2 * k + 1 < l.length then 2 * k + 1 else 2 * k) []))).length ≤ 1 * 32 from Nat.le_of_eq (by rw [by8_length, bothH_length]))] at H80
        have H80 : Hp w [] [.blk p5 [.slice A_ k c_] 22, .blk B13 [.slice A l.length c] 22, .blk D14 [.int .i64 2] 3, .row A_ k c_ 25 32 (by8 (flat8 ((upH l).take k))), .obj D22 DF, .obj l23 oB25, .row (some ⟨p77, 0, none⟩) 1 1 25 32 (by8 (bothH (l.getD (2 * k) []) (l.getD (if 2 * k + 1 < l.length then 2 * k + 1 else 2 * k) [])))] w78 := H80
        have hS81 : Hp w [] [.blk B13 [.slice A l.length c] 22, .blk D14 [.int .i64 2] 3, .obj D22 DF, .obj l23 oB25] w78 := H80.sub (List.Sublist.cons _ (List.Sublist.cons_cons _ (List.Sublist.cons_cons _ (List.Sublist.cons _ (List.Sublist.cons_cons _ (List.Sublist.cons_cons _ (List.Sublist.cons _ (List.Sublist.slnil))))))))
        refine GO.made r79 [3, 8, 19] [(3, pt p5 0), (8, .slice A_ k c_), (19, .slice (some ⟨p77, 0, none⟩) 1 1)] (by kernel_rfl) (by kernel_rfl) hS81 ?_
        refine GP.perm [1, 2, 3, 4, 5, 6, 7, 8, 9, 0, 10, 11] (by kernel_rfl) rfl ?_
        rw [← hXd_]
        exact st61 _ p77 H80
    have st60 : ∀ (wD_ : World) (p45 : Nat), Hp w [] [.blk p5 [.slice A_ k c_] 22, .blk B13 [.slice A l.length c] 22, .blk D14 [.int .i64 2] 3, .row A_ k c_ 25 32 (by8 (flat8 ((upH l).take k))), .obj D22 DF, .obj l23 oB25, .row (some ⟨p45, 0, none⟩) 1 1 25 32 (by8 (bothH (l.getD (2 * k) []) (l.getD (if 2 * k + 1 < l.length then 2 * k + 1 else 2 * k) [])))] wD_ → Xd_ [1, 2, 3, 4, 5, 6, 7, 8, 9, 10, 11] [(3, pt p5 0), (19, .slice (some ⟨p45, 0, none⟩) 1 1)] wD_ := by
      intro wD_ p45 HD_
      rw [hXd_]
      have hS82 : Hp w [] [.blk B13 [.slice A l.length c] 22, .blk D14 [.int .i64 2] 3, .obj D22 DF, .obj l23 oB25] wD_ := HD_.sub (List.Sublist.cons _ (List.Sublist.cons_cons _ (List.Sublist.cons_cons _ (List.Sublist.cons _ (List.Sublist.cons_cons _ (List.Sublist.cons_cons _ (List.Sublist.cons _ (List.Sublist.slnil))))))))
      refine GP.all1 0 (by kernel_rfl) ?_
      · skip
        have hS83 : Hp w [] [.blk B13 [.slice A l.length c] 22, .blk D14 [.int .i64 2] 3, .obj D22 DF, .obj l23 oB25] wD_ := HD_.sub (List.Sublist.cons _ (List.Sublist.cons_cons _ (List.Sublist.cons_cons _ (List.Sublist.cons _ (List.Sublist.cons_cons _ (List.Sublist.cons_cons _ (List.Sublist.cons _ (List.Sublist.slnil))))))))
        have hS84 : Hp w [] [.blk B13 [.slice A l.length c] 22, .blk D14 [.int .i64 2] 3, .obj D22 DF, .obj l23 oB25] wD_ := HD_.sub (List.Sublist.cons _ (List.Sublist.cons_cons _ (List.Sublist.cons_cons _ (List.Sublist.cons _ (List.Sublist.cons_cons _ (List.Sublist.cons_cons _ (List.Sublist.cons _ (List.Sublist.slnil))))))))
        refine GO.made (HD_.ld (o := 0) (ty := 22) (v := .slice A_ k c_) 0 rfl (by kernel_rfl) rfl) [3, 8, 19] [(3, pt p5 0), (8, .slice A_ k c_), (19, .slice (some ⟨p45, 0, none⟩) 1 1)] (by kernel_rfl) (by kernel_rfl) hS84 ?_
        refine GP.perm [1, 2, 3, 4, 5, 6, 7, 8, 9, 0, 10, 11] (by kernel_rfl) rfl ?_
        rw [← hXd_]
        exact st61 _ p45 HD_
    have st57 : ∀ (wD_ : World), Hp w [] [.blk p5 [.slice A_ k c_] 22, .blk B13 [.slice A l.length c] 22, .blk D14 [.int .i64 2] 3, .row A_ k c_ 25 32 (by8 (flat8 ((upH l).take k))), .obj D22 DF, .obj l23 oB25] wD_ → Xd_ [1, 2, 3, 4, 5, 6, 7, 8, 9, 0] [(3, pt p5 0), (8, .slice A_ k c_), (11, .agg (by8 (l.getD (2 * k) [])).toArray), (17, .agg (by8 (l.getD (if 2 * k + 1 < l.length then 2 * k + 1 else 2 * k) [])).toArray)] wD_ := by
      intro wD_ HD_
      rw [hXd_]
      have hS85 : Hp w [] [.blk B13 [.slice A l.length c] 22, .blk D14 [.int .i64 2] 3, .obj D22 DF, .obj l23 oB25] wD_ := HD_.sub (List.Sublist.cons _ (List.Sublist.cons_cons _ (List.Sublist.cons_cons _ (List.Sublist.cons _ (List.Sublist.cons_cons _ (List.Sublist.cons_cons _ (List.Sublist.slnil)))))))
      refine GP.all1 10 (by kernel_rfl) ?_
      · skip
        have hS86 : Hp w [] [.blk B13 [.slice A l.length c] 22, .blk D14 [.int .i64 2] 3, .obj D22 DF, .obj l23 oB25] wD_ := HD_.sub (List.Sublist.cons _ (List.Sublist.cons_cons _ (List.Sublist.cons_cons _ (List.Sublist.cons _ (List.Sublist.cons_cons _ (List.Sublist.cons_cons _ (List.Sublist.slnil)))))))
        refine GO.call (Both_calls (l.getD (2 * k) []) (l.getD (if 2 * k + 1 < l.length then 2 * k + 1 else 2 * k) []) (by rw [ok32_at hok (by omega)]) (by rw [ok32_at hok (by split <;> omega)]) wD_) (by kernel_rfl) (fun e_ w87 hR => ?_)
        obtain ⟨rfl, H89⟩ := hR
        have H88 : Hp w [] [.blk p5 [.slice A_ k c_] 22, .blk B13 [.slice A l.length c] 22, .blk D14 [.int .i64 2] 3, .row A_ k c_ 25 32 (by8 (flat8 ((upH l).take k))), .obj D22 DF, .obj l23 oB25] w87 := HD_.callNil H89
        have hS90 : Hp w [] [.blk B13 [.slice A l.length c] 22, .blk D14 [.int .i64 2] 3, .obj D22 DF, .obj l23 oB25] w87 := H88.sub (List.Sublist.cons _ (List.Sublist.cons_cons _ (List.Sublist.cons_cons _ (List.Sublist.cons _ (List.Sublist.cons_cons _ (List.Sublist.cons_cons _ (List.Sublist.slnil)))))))
        refine ⟨_, rfl, hS90, [3, 8, 18], [(3, pt p5 0), (8, .slice A_ k c_), (18, .agg (by8 (bothH (l.getD (2 * k) []) (l.getD (if 2 * k + 1 < l.length then 2 * k + 1 else 2 * k) []))).toArray)], by kernel_rfl, ?_⟩
        refine GP.perm [1, 2, 3, 4, 5, 6, 7, 8, 9, 0, 10] (by kernel_rfl) rfl ?_
        rw [← hXd_]
        exact st59 _ H88
    have st58 : ∀ (wD_ : World), Hp w [] [.blk p5 [.slice A_ k c_] 22, .blk B13 [.slice A l.length c] 22, .blk D14 [.int .i64 2] 3, .row A_ k c_ 25 32 (by8 (flat8 ((upH l).take k))), .obj D22 DF, .obj l23 oB25] wD_ → Xd_ [1, 2, 3, 4, 5, 6, 7, 8, 9, 10] [(3, pt p5 0), (18, .agg (by8 (bothH (l.getD (2 * k) []) (l.getD (if 2 * k + 1 < l.length then 2 * k + 1 else 2 * k) []))).toArray)] wD_ := by
      intro wD_ HD_
      rw [hXd_]
      have hS91 : Hp w [] [.blk B13 [.slice A l.length c] 22, .blk D14 [.int .i64 2] 3, .obj D22 DF, .obj l23 oB25] wD_ := HD_.sub (List.Sublist.cons _ (List.Sublist.cons_cons _ (List.Sublist.cons_cons _ (List.Sublist.cons _ (List.Sublist.cons_cons _ (List.Sublist.cons_cons _ (List.Sublist.slnil)))))))
      refine GP.all2 0 11 (by kernel_rfl) ?_ ?_
      · skip
        have hS92 : Hp w [] [.blk B13 [.slice A l.length c] 22, .blk D14 [.int .i64 2] 3, .obj D22 DF, .obj l23 oB25] wD_ := HD_.sub (List.Sublist.cons _ (List.Sublist.cons_cons _ (List.Sublist.cons_cons _ (List.Sublist.cons _ (List.Sublist.cons_cons _ (List.Sublist.cons_cons _ (List.Sublist.slnil)))))))
        have hS93 : Hp w [] [.blk B13 [.slice A l.length c] 22, .blk D14 [.int .i64 2] 3, .obj D22 DF, .obj l23 oB25] wD_ := HD_.sub (List.Sublist.cons _ (List.Sublist.cons_cons _ (List.Sublist.cons_cons _ (List.Sublist.cons _ (List.Sublist.cons_cons _ (List.Sublist.cons_cons _ (List.Sublist.slnil)))))))
        refine GO.made (HD_.ld (o := 0) (ty := 22) (v := .slice A_ k c_) 0 rfl (by kernel_rfl) rfl) [3, 8, 18] [(3, pt p5 0), (8, .slice A_ k c_), (18, .agg (by8 (bothH (l.getD (2 * k) []) (l.getD (if 2 * k + 1 < l.length then 2 * k + 1 else 2 * k) []))).toArray)] (by kernel_rfl) (by kernel_rfl) hS93 ?_
        refine GP.perm [1, 2, 3, 4, 5, 6, 7, 8, 9, 0, 10] (by kernel_rfl) rfl ?_
        rw [← hXd_]
        exact st59 _ HD_
      · skip
        have hS94 : Hp w [] [.blk B13 [.slice A l.length c] 22, .blk D14 [.int .i64 2] 3, .obj D22 DF, .obj l23 oB25] wD_ := HD_.sub (List.Sublist.cons _ (List.Sublist.cons_cons _ (List.Sublist.cons_cons _ (List.Sublist.cons _ (List.Sublist.cons_cons _ (List.Sublist.cons_cons _ (List.Sublist.slnil)))))))
        obtain ⟨p95, w96, r97, H98⟩ := HD_.madeRow (P := Try.prog) (Instr.buildSlice 22 1 #[(0, .agg (by8 (bothH (l.getD (2 * k) []) (l.getD (if 2 * k + 1 < l.length then 2 * k + 1 else 2 * k) []))).toArray)]) (fun b_ => .slice (some ⟨b_, 0, none⟩) 1 1) (by8 (bothH (l.getD (2 * k) []) (l.getD (if 2 * k + 1 < l.length then 2 * k + 1 else 2 * k) []))) 25 1 1 32 (built1_22 (bothH (l.getD (2 * k) []) (l.getD (if 2 * k + 1 < l.length then 2 * k + 1 else 2 * k) [])) (by rw [bothH_length])) (by decide) (by decide) (by rw [by8_length, bothH_length])
        rw [List.take_of_length_le (show (by8 (bothH (l.getD (2 * k) []) (l.getD (if 2 * k + 1 < l.length then 2 * k + 1 else 2 * k) []))).length ≤ 1 * 32 from Nat.le_of_eq (by rw [by8_length, bothH_length]))] at H98
        have H98 : Hp w [] [.blk p5 [.slice A_ k c_] 22, .blk B13 [.slice A l.length c] 22, .blk D14 [.int .i64 2] 3, .row A_ k c_ 25 32 (by8 (flat8 ((upH l).take k))), .obj D22 DF, .obj l23 oB25, .row (some ⟨p95, 0, none⟩) 1 1 25 32 (by8 (bothH (l.getD (2 * k) []) (l.getD (if 2 * k + 1 < l.length then 2 * k + 1 else 2 * k) [])))] w96 := H98
        have hS99 : Hp w [] [.blk B13 [.slice A l.length c] 22, .blk D14 [.int .i64 2] 3, .obj D22 DF, .obj l23 oB25] w96 := H98.sub (List.Sublist.cons _ (List.Sublist.cons_cons _ (List.Sublist.cons_cons _ (List.Sublist.cons _ (List.Sublist.cons_cons _ (List.Sublist.cons_cons _ (List.Sublist.cons _ (List.Sublist.slnil))))))))
        refine GO.made r97 [3, 19] [(3, pt p5 0), (19, .slice (some ⟨p95, 0, none⟩) 1 1)] (by kernel_rfl) (by kernel_rfl) hS99 ?_
        refine GP.perm [1, 2, 3, 4, 5, 6, 7, 8, 9, 10, 11] (by kernel_rfl) rfl ?_
        rw [← hXd_]
        exact st60 _ p95 H98
    have st56 : ∀ (wD_ : World), Hp w [] [.blk p5 [.slice A_ k c_] 22, .blk B13 [.slice A l.length c] 22, .blk D14 [.int .i64 2] 3, .row A_ k c_ 25 32 (by8 (flat8 ((upH l).take k))), .obj D22 DF, .obj l23 oB25] wD_ → Xd_ [1, 2, 3, 4, 5, 6, 7, 8, 9] [(3, pt p5 0), (11, .agg (by8 (l.getD (2 * k) [])).toArray), (17, .agg (by8 (l.getD (if 2 * k + 1 < l.length then 2 * k + 1 else 2 * k) [])).toArray)] wD_ := by
      intro wD_ HD_
      rw [hXd_]
      have hS100 : Hp w [] [.blk B13 [.slice A l.length c] 22, .blk D14 [.int .i64 2] 3, .obj D22 DF, .obj l23 oB25] wD_ := HD_.sub (List.Sublist.cons _ (List.Sublist.cons_cons _ (List.Sublist.cons_cons _ (List.Sublist.cons _ (List.Sublist.cons_cons _ (List.Sublist.cons_cons _ (List.Sublist.slnil)))))))
      refine GP.all2 0 10 (by kernel_rfl) ?_ ?_
      · skip
        have hS101 : Hp w [] [.blk B13 [.slice A l.length c] 22, .blk D14 [.int .i64 2] 3, .obj D22 DF, .obj l23 oB25] wD_ := HD_.sub (List.Sublist.cons _ (List.Sublist.cons_cons _ (List.Sublist.cons_cons _ (List.Sublist.cons _ (List.Sublist.cons_cons _ (List.Sublist.cons_cons _ (List.Sublist.slnil)))))))
        have hS102 : Hp w [] [.blk B13 [.slice A l.length c] 22, .blk D14 [.int .i64 2] 3, .obj D22 DF, .obj l23 oB25] wD_ := HD_.sub (List.Sublist.cons _ (List.Sublist.cons_cons _ (List.Sublist.cons_cons _ (List.Sublist.cons _ (List.Sublist.cons_cons _ (List.Sublist.cons_cons _ (List.Sublist.slnil)))))))
        refine GO.made (HD_.ld (o := 0) (ty := 22) (v := .slice A_ k c_) 0 rfl (by kernel_rfl) rfl) [3, 8, 11, 17] [(3, pt p5 0), (8, .slice A_ k c_), (11, .agg (by8 (l.getD (2 * k) [])).toArray), (17, .agg (by8 (l.getD (if 2 * k + 1 < l.length then 2 * k + 1 else 2 * k) [])).toArray)] (by kernel_rfl) (by kernel_rfl) hS102 ?_
        refine GP.perm [1, 2, 3, 4, 5, 6, 7, 8, 9, 0] (by kernel_rfl) rfl ?_
        rw [← hXd_]
        exact st57 _ HD_
      · skip
        have hS103 : Hp w [] [.blk B13 [.slice A l.length c] 22, .blk D14 [.int .i64 2] 3, .obj D22 DF, .obj l23 oB25] wD_ := HD_.sub (List.Sublist.cons _ (List.Sublist.cons_cons _ (List.Sublist.cons_cons _ (List.Sublist.cons _ (List.Sublist.cons_cons _ (List.Sublist.cons_cons _ (List.Sublist.slnil)))))))
        refine GO.call (Both_calls (l.getD (2 * k) []) (l.getD (if 2 * k + 1 < l.length then 2 * k + 1 else 2 * k) []) (by rw [ok32_at hok (by omega)]) (by rw [ok32_at hok (by split <;> omega)]) wD_) (by kernel_rfl) (fun e_ w104 hR => ?_)
        obtain ⟨rfl, H106⟩ := hR
        have H105 : Hp w [] [.blk p5 [.slice A_ k c_] 22, .blk B13 [.slice A l.length c] 22, .blk D14 [.int .i64 2] 3, .row A_ k c_ 25 32 (by8 (flat8 ((upH l).take k))), .obj D22 DF, .obj l23 oB25] w104 := HD_.callNil H106
        have hS107 : Hp w [] [.blk B13 [.slice A l.length c] 22, .blk D14 [.int .i64 2] 3, .obj D22 DF, .obj l23 oB25] w104 := H105.sub (List.Sublist.cons _ (List.Sublist.cons_cons _ (List.Sublist.cons_cons _ (List.Sublist.cons _ (List.Sublist.cons_cons _ (List.Sublist.cons_cons _ (List.Sublist.slnil)))))))
        refine ⟨_, rfl, hS107, [3, 18], [(3, pt p5 0), (18, .agg (by8 (bothH (l.getD (2 * k) []) (l.getD (if 2 * k + 1 < l.length then 2 * k + 1 else 2 * k) []))).toArray)], by kernel_rfl, ?_⟩
        refine GP.perm [1, 2, 3, 4, 5, 6, 7, 8, 9, 10] (by kernel_rfl) rfl ?_
        rw [← hXd_]
        exact st58 _ H105
    exact st56 _ H31
  · skip
    rintro D111 ⟨A_, c_⟩ w108 hx109 H110
    refine RG.kk hK10 (fun _ _ h => h) ?_
    have H110 : Hp w [] [.blk p5 [.slice A_ ((l.length + 1) / 2) c_] 22, .blk B13 [.slice A l.length c] 22, .blk D14 [.int .i64 2] 3, .row A_ ((l.length + 1) / 2) c_ 25 32 (by8 (flat8 ((upH l).take ((l.length + 1) / 2)))), .obj D111 DF] w108 := H110
    refine RG.seqK fun K112 hK113 => ?_
    refine RG.region (by kernel_rfl) ?_
    refine RL.sem (j := 1) (H110.ld (o := 0) (ty := 22) (v := .slice A_ ((l.length + 1) / 2) c_) 0 rfl (by kernel_rfl) rfl) [21] [(21, .slice A_ ((l.length + 1) / 2) c_)] (by kernel_rfl) (by kernel_rfl) rfl ?_
    refine RL.run (j := 2) 1 [2] [(2, .slice A_ ((l.length + 1) / 2) c_)] (by kernel_rfl) rfl ?_
    refine RL.k rfl hK113 (fun _ _ h => h) ?_
    refine RG.ret ?_
    have hD114 := H110.objAt 4 rfl
    have H115 : Hp w [] [.blk p5 [.slice A_ ((l.length + 1) / 2) c_] 22, .blk B13 [.slice A l.length c] 22, .blk D14 [.int .i64 2] 3, .row A_ ((l.length + 1) / 2) c_ 25 32 (by8 (flat8 ((upH l).take ((l.length + 1) / 2)))), .obj D111 (.deferred none)] (World.putObj w108 D111 (.deferred none)) := H110.putObj 4 (.deferred none) rfl
    intro F_ hF_ hM_
    refine hRet _ _ (postK_1 hD114 rfl (RV.tmp rfl) ?_ F_ hF_ hM_)
    have H116 : Hp w [] [.row A_ ((l.length + 1) / 2) c_ 25 32 (by8 (flat8 ((upH l).take ((l.length + 1) / 2))))] (World.putObj w108 D111 (.deferred none)) := H115.sub (List.Sublist.cons _ (List.Sublist.cons _ (List.Sublist.cons _ (List.Sublist.cons_cons _ (List.Sublist.cons _ (List.Sublist.slnil))))))
    have HF := H116
    rw [upH_all (Nat.le_refl _), ← upH_length] at HF
    rw [← upH_length]
    exact ⟨_, _, rfl, HF⟩
  · skip
    rintro D120 ⟨A_, c_⟩ w117 hx118 H119
    exact hx118.elim
end Go.Proofs.Ytgmggjnoegelgaa
namespace Go.Proofs.Ytgmggjnoegelgaa
open Go.RowKit
theorem Zero_calls (X : List UInt8) (hX : X.length = 32) (w : World) : Calls Try.prog 10 #[.agg (by8 X).toArray] w fun e w' => e = .returned (.bool (decide (X = (List.replicate 32 0)))) ∧ Hp w [] [] w' := by
  refine calls_G (args := [.agg (by8 X).toArray]) Try.func10 rfl Try.ntmps10 rfl ?_
  intro Q0 hRet hNor hPan
  have H := Hp.start w
  have H : Hp w [] [] w := H
  refine G.seqK fun K1 hK2 => ?_
  refine G.region ?_
  obtain ⟨p3, w4, r5, H6⟩ := H.box (P := Try.prog) 25 (by8 X) (.agg (by8 X).toArray) rfl
  have H6 : Hp w [] [.blk p3 (by8 X) 25] w4 := H6
  refine GL.sem (j := 1) (r5) [1] [(1, pt p3 0)] (by kernel_rfl) (by kernel_rfl) rfl ?_
  refine GL.run (j := 2) 1 [1] [(1, pt p3 0)] (by kernel_rfl) rfl ?_
  refine GL.k rfl hK2 (fun _ _ h => h) ?_
  refine G.seqK fun K7 hK8 => ?_
  refine G.region ?_
  refine GL.sem (j := 1) (H6.ldA (o := 0) (ty := 25) (m := 32) (sub := by8 X) 0 rfl (by kernel_rfl) (sub_whole (by rw [by8_length, hX])) (by rw [by8_length, hX])) [3] [(3, .agg (by8 X).toArray)] (by kernel_rfl) (by kernel_rfl) rfl ?_
  refine GL.run (j := 2) 1 [3, 4] [(3, .agg (by8 X).toArray), (4, .agg (by8 (List.replicate 32 0)).toArray)] (by kernel_rfl) rfl ?_
  refine GL.sem (j := 3) (run_by8_eql (P := Try.prog) (t := 25) (n := 32) (x := (.tmp 3)) (y := (.tmp 4)) (by kernel_rfl) X (List.replicate 32 0) (by rw [hX]) (by rw [List.length_replicate]) _) [5] [(5, .bool (decide (X = (List.replicate 32 0))))] (by kernel_rfl) (by kernel_rfl) rfl ?_
  refine GL.run (j := 4) 1 [2] [(2, .bool (decide (X = (List.replicate 32 0))))] (by kernel_rfl) rfl ?_
  refine GL.k rfl hK8 (fun _ _ h => h) ?_
  refine G.ret ?_
  intro F_ hF_ hM_
  refine hRet _ _ (bodyPost_1 rfl (RV.tmp rfl) ?_ F_ hF_ hM_)
  exact ⟨rfl, H6.sub (List.nil_sublist _)⟩
theorem chk_ok {n : Nat} (h : chkE (n : Int) = 0) : 0 < n ∧ n ≤ 65536 := by
  unfold chkE leafB at h
  split at h
  · omega
  · split at h
    · rename_i h2
      have := of_decide_eq_true h2
      omega
    · omega
def rootE (l : List (List UInt8)) : Nat := chkE (l.length : Int)
def rootV (l : List (List UInt8)) : List UInt8 := if rootE l = 0 then rootH l else List.replicate 32 0
theorem rootV_length {l : List (List UInt8)} (h : ok32 l) : (rootV l).length = 32 := by
  unfold rootV
  split
  · rename_i h1
    have := chk_ok h1
    exact rootH_length l.length l (Nat.le_refl _) this.1 h
  · rfl
theorem Root_calls (A : Option Addr) (c : Nat) (l : List (List UInt8)) (w : World) (hx : RdS w A (by8 (flat8 l))) (hok : ok32 l) (hc : l.length ≤ c) : Calls Try.prog 8 #[.slice A l.length c] w fun e w' => e = .returned (.tuple #[.agg (by8 (rootV l)).toArray, .int .i64 ((rootE l : Nat) : Int)]) ∧ Hp w [] [] w' := by
  refine calls_G (args := [.slice A l.length c]) Try.func8 rfl Try.ntmps8 rfl ?_
  intro Q0 hRet hNor hPan
  have H := Hp.start w
  have H : Hp w [] [] w := H
  refine G.seqK fun K1 hK2 => ?_
  refine G.region ?_
  obtain ⟨p3, w4, r5, H6⟩ := H.alloc (P := Try.prog) 25 (by8 (List.replicate 32 0)) (by kernel_rfl)
  have H6 : Hp w [] [.blk p3 (by8 (List.replicate 32 0)) 25] w4 := H6
  refine GL.sem (j := 1) (r5) [0, 2] [(0, .slice A l.length c), (2, pt p3 0)] (by kernel_rfl) (by kernel_rfl) rfl ?_
  refine GL.run (j := 2) 1 [0, 2] [(0, .slice A l.length c), (2, pt p3 0)] (by kernel_rfl) rfl ?_
  refine GL.k rfl hK2 (fun _ _ h => h) ?_
  refine G.seqK fun K7 hK8 => ?_
  refine G.seqK fun K9 hK10 => ?_
  refine G.region ?_
  refine GL.run (j := 2) 2 [0, 2, 6] [(0, .slice A l.length c), (2, pt p3 0), (6, .int .i64 (l.length : Int))] (by kernel_rfl) rfl ?_
  refine GL.call (j := 3) (Check_calls (l.length : Int) w4) (by kernel_rfl) rfl (fun e_ w11 hR => ?_)
  obtain ⟨rfl, H13⟩ := hR
  have H12 : Hp w [] [.blk p3 (by8 (List.replicate 32 0)) 25] w11 := H6.callNil H13
  refine ⟨_, rfl, [0, 2, 7], [(0, .slice A l.length c), (2, pt p3 0), (7, .int .i64 (((chkE (l.length : Int)) : Nat) : Int))], by kernel_rfl, ?_⟩
  refine GL.run (j := 4) 1 [0, 2, 4] [(0, .slice A l.length c), (2, pt p3 0), (4, .int .i64 (((chkE (l.length : Int)) : Nat) : Int))] (by kernel_rfl) rfl ?_
  refine GL.k rfl hK10 (fun _ _ h => h) ?_
  refine G.seqK fun K14 hK15 => ?_
  refine G.region ?_
  refine GL.run (j := 2) 2 [0, 2, 4, 9] [(0, .slice A l.length c), (2, pt p3 0), (4, .int .i64 (((chkE (l.length : Int)) : Nat) : Int)), (9, .bool ((((chkE (l.length : Int)) : Nat) : Int) != 0))] (by kernel_rfl) rfl ?_
  refine GL.k rfl hK15 (fun _ _ h => h) ?_
  cases hb16 : ((((chkE (l.length : Int)) : Nat) : Int) != 0)
  · skip
    have hb16f : (((chkE (l.length : Int)) : Nat) : Int) = 0 := bne_eq_false_iff_eq.1 hb16
    have hce : chkE (l.length : Int) = 0 := by omega
    have hlen := chk_ok hce
    refine G.no rfl ?_
    refine G.skipK hK8 (fun _ _ h => h) ?_
    refine G.seqK fun K17 hK18 => ?_
    refine G.block ?_
    refine G.fit [0, 2] (M' := [(0, .slice A l.length c), (2, pt p3 0)]) (by kernel_rfl) ?_
    refine G.loop (X := List (List UInt8) × Option Addr × Nat) (fun ⟨L, A_, c_⟩ => [(0, .slice A_ L.length c_), (2, pt p3 0)]) (fun ⟨L, A_, c_⟩ w_ => (rootH L = rootH l ∧ ok32 L ∧ 0 < L.length ∧ L.length ≤ 65536 ∧ L.length ≤ c_ ∧ RdS w_ A_ (by8 (flat8 L))) ∧ Hp w [] [.blk p3 (by8 (List.replicate 32 0)) 25] w_) (fun ⟨L, A_, c_⟩ => L.length) ⟨l, A, c⟩ [0, 2] (by kernel_rfl) ⟨⟨rfl, hok, by omega, by omega, hc, hx.hp H12⟩, H12⟩ ?_
    rintro ⟨L, A_, c_⟩ w19 ⟨hi20, H21⟩
    refine G.eq (M' := [(0, .slice A_ L.length c_), (2, pt p3 0)]) rfl ?_
    have H21 : Hp w [] [.blk p3 (by8 (List.replicate 32 0)) 25] w19 := H21
    obtain ⟨hroot, hokL, h0L, h16, hcL, hrd⟩ := hi20
    refine G.seqK fun K22 hK23 => ?_
    refine G.seqK fun K24 hK25 => ?_
    refine G.region ?_
    refine GL.run (j := 3) 3 [0, 2, 14] [(0, .slice A_ L.length c_), (2, pt p3 0), (14, .bool (decide (1 < (L.length : Int))))] (by kernel_rfl) rfl ?_
    refine GL.k rfl hK25 (fun _ _ h => h) ?_
    cases hb26 : (decide (1 < (L.length : Int)))
    · skip
      have hb26f := of_decide_eq_false hb26
      refine G.no rfl ?_
      refine G.exitK hK18 (fun _ _ h => h) ?_
      refine G.seqK fun K27 hK28 => ?_
      refine G.region ?_
      refine GL.run (j := 1) 1 [2, 17] [(2, pt p3 0), (17, .slice A_ L.length c_)] (by kernel_rfl) rfl ?_
      refine GL.sem (j := 2) (run_idxRdN (P := Try.prog) (k := .i64) (t := 22) (sz := 32) (A := A_) (len := L.length) (cap := c_) (j := 0) (by kernel_rfl) rfl (hrd) (by rw [by8_length]; exact flat8_length hokL) (by decide) (by omega)) [2, 18] [(2, pt p3 0), (18, .pointer (Option.map (fun x => Addr.add x (0 * 32)) A_))] (by kernel_rfl) (by kernel_rfl) rfl ?_
      refine GL.sem (j := 3) (run_ldRdA (P := Try.prog) (ty := 25) (m := 32) (o := (0 * 32)) (A := A_) (sub := by8 (L.getD 0 [])) (by kernel_rfl) (hrd) (flat8_sub hokL (by omega)) (by rw [by8_length, ok32_at hokL (by omega)]) (by decide)) [2, 19] [(2, pt p3 0), (19, .agg (by8 (L.getD 0 [])).toArray)] (by kernel_rfl) (by kernel_rfl) rfl ?_
      obtain ⟨w29, r30, H31⟩ := H21.stA (P := Try.prog) (o := 0) (vs := by8 (L.getD 0 [])) (ty := 25) (m := 32) 0 rfl (by kernel_rfl) (by rw [by8_length, ok32_at hokL (by omega)]) (Nat.le_of_eq (by rw [Nat.zero_add]; exact ((show (by8 (List.replicate 32 0)).length = 32 from by rw [by8_length]; rfl)).symm)) (by8_one _)
      rw [st_whole (by rw [by8_length]; rfl)] at H31
      have H31 : Hp w [] [.blk p3 (by8 (L.getD 0 [])) 25] w29 := H31
      refine GL.semU (j := 4) r30 [2] [(2, pt p3 0)] (by kernel_rfl) rfl rfl rfl ?_
      refine GL.run (j := 5) 1 [2, 3] [(2, pt p3 0), (3, .int .i64 0)] (by kernel_rfl) rfl ?_
      refine GL.k rfl hK28 (fun _ _ h => h) ?_
      refine G.ret ?_
      intro F_ hF_ hM_
      refine hRet _ _ (bodyPost_2 rfl (RV.cell rfl (H31.ldA (o := 0) (ty := 25) (m := 32) (sub := by8 (L.getD 0 [])) 0 rfl (by kernel_rfl) (sub_whole (by rw [by8_length, ok32_at hokL (by omega)])) (by rw [by8_length, ok32_at hokL (by omega)]))) (RV.tmp rfl) ?_ F_ hF_ hM_)
      have e1 : rootE l = 0 := by unfold rootE; rw [hce]
      have e2 : rootV l = L.getD 0 [] := by unfold rootV; rw [e1, if_pos rfl, ← hroot, rootH_one (by omega)]
      rw [e1, e2]
      exact ⟨rfl, H31.sub (List.nil_sublist _)⟩
    · skip
      have hb26f := of_decide_eq_true hb26
      refine G.yes rfl ?_
      refine G.skipK hK23 (fun _ _ h => h) ?_
      refine G.block ?_
      refine G.region ?_
      refine GL.run (j := 1) 1 [2, 15] [(2, pt p3 0), (15, .slice A_ L.length c_)] (by kernel_rfl) rfl ?_
      refine GL.call (j := 2) (Up_calls A_ c_ L w19 (hrd) hokL (by omega) (by omega)) (by kernel_rfl) rfl (fun e_ w34 hR => ?_)
      obtain ⟨A32, c33, rfl, H36⟩ := hR
      have H35 : Hp w [] [.blk p3 (by8 (List.replicate 32 0)) 25, .row A32 ((upH L).length) c33 25 32 (by8 (flat8 (upH L)))] w34 := H21.callNew H36
      refine ⟨_, rfl, [2, 16], [(2, pt p3 0), (16, .slice A32 ((upH L).length) c33)], by kernel_rfl, ?_⟩
      refine GL.run (j := 3) 1 [0, 2] [(0, .slice A32 ((upH L).length) c33), (2, pt p3 0)] (by kernel_rfl) rfl ?_
      have hr37 := H35.rdRowN 1 rfl
      have hq38 := (H35.rowLe 1 rfl).1
      have hul := upH_length L
      have H39 : Hp w [] [.blk p3 (by8 (List.replicate 32 0)) 25] w34 := H35.sub (List.Sublist.cons_cons _ (List.Sublist.cons _ (List.Sublist.slnil)))
      exact GL.againB ⟨(upH L), A32, c33⟩ [0, 2] rfl (by kernel_rfl) (by show (upH L).length < L.length; omega) ⟨⟨by rw [← rootH_step (by omega)]; exact hroot, ok32_upH L, by omega, by omega, hq38, hr37⟩, H39⟩
  · skip
    have hb16f : (((chkE (l.length : Int)) : Nat) : Int) ≠ 0 := bne_iff_ne.1 hb16
    refine G.yes rfl ?_
    refine G.seqK fun K40 hK41 => ?_
    refine G.region ?_
    refine GL.run (j := 2) 2 [2, 10, 11] [(2, pt p3 0), (10, .agg (by8 (List.replicate 32 0)).toArray), (11, .int .i64 (((chkE (l.length : Int)) : Nat) : Int))] (by kernel_rfl) rfl ?_
    obtain ⟨w42, r43, H44⟩ := H12.stA (P := Try.prog) (o := 0) (vs := by8 (List.replicate 32 0)) (ty := 25) (m := 32) 0 rfl (by kernel_rfl) (by rw [by8_length, List.length_replicate]) (Nat.le_of_eq (by rw [Nat.zero_add]; exact ((show (by8 (List.replicate 32 0)).length = 32 from by rw [by8_length]; rfl)).symm)) (by8_one _)
    rw [st_whole (by rw [by8_length]; rfl)] at H44
    have H44 : Hp w [] [.blk p3 (by8 (List.replicate 32 0)) 25] w42 := H44
    refine GL.semU (j := 3) r43 [2, 11] [(2, pt p3 0), (11, .int .i64 (((chkE (l.length : Int)) : Nat) : Int))] (by kernel_rfl) rfl rfl rfl ?_
    refine GL.run (j := 4) 1 [2, 3] [(2, pt p3 0), (3, .int .i64 (((chkE (l.length : Int)) : Nat) : Int))] (by kernel_rfl) rfl ?_
    refine GL.k rfl hK41 (fun _ _ h => h) ?_
    refine G.ret ?_
    intro F_ hF_ hM_
    refine hRet _ _ (bodyPost_2 rfl (RV.cell rfl (H44.ldA (o := 0) (ty := 25) (m := 32) (sub := by8 (List.replicate 32 0)) 0 rfl (by kernel_rfl) (sub_whole (by rw [by8_length, List.length_replicate])) (by rw [by8_length, List.length_replicate]))) (RV.tmp rfl) ?_ F_ hF_ hM_)
    have e2 : rootV l = (List.replicate 32 0) := by unfold rootV rootE; rw [if_neg (by omega)]
    rw [e2]
    exact ⟨rfl, H44.sub (List.nil_sublist _)⟩
theorem i_xor1 {j : Nat} (h : j < 65536) : Go.bits .xor .i64 (j : Int) 1 = ((if j % 2 = 1 then j - 1 else j + 1 : Nat) : Int) := by
  show IntKind.i64.wrap ((BitVec.ofInt 64 (j : Int) ^^^ BitVec.ofInt 64 1).toNat : Int) = _
  have e1 : (BitVec.ofInt 64 (j : Int)).toNat = j := by
    rw [BitVec.toNat_ofInt]
    omega
  have e2 : (BitVec.ofInt 64 1).toNat = 1 := by decide
  rw [BitVec.toNat_xor, e1, e2]
  have hd : (j ^^^ 1) / 2 = j / 2 := by rw [Nat.xor_div_two]; simp
  have hm : (j ^^^ 1) % 2 = 1 ↔ ¬ (j % 2 = 1) := by rw [Nat.xor_mod_two_eq_one]; simp
  rw [in_i64 (by omega)]
  split <;> omega
def wayE (l : List (List UInt8)) (z : Int) : Nat := if chkE (l.length : Int) = 0 then (if 0 ≤ z ∧ z < l.length then 0 else 1) else chkE (l.length : Int)
def wayV (l : List (List UInt8)) (z : Int) : List (List UInt8) := if wayE l z = 0 then wayH l z.toNat else []
theorem Way_calls (A : Option Addr) (c : Nat) (l : List (List UInt8)) (z : Int) (w : World) (hx : RdS w A (by8 (flat8 l))) (hok : ok32 l) (hc : l.length ≤ c) (hz : -9223372036854775808 ≤ z ∧ z ≤ 9223372036854775807) : Calls Try.prog 9 #[.slice A l.length c, .int .i64 z] w fun e w' => ∃ B d, e = .returned (.tuple #[.slice B (wayV l z).length d, .int .i64 ((wayE l z : Nat) : Int)]) ∧ Hp w [] [.row B (wayV l z).length d 25 32 (by8 (flat8 (wayV l z)))] w' := by
  refine calls_G (args := [.slice A l.length c, .int .i64 z]) Try.func9 rfl Try.ntmps9 rfl ?_
  intro Q0 hRet hNor hPan
  have H := Hp.start w
  have H : Hp w [] [] w := H
  refine G.seqK fun K1 hK2 => ?_
  refine G.region ?_
  refine GL.run (j := 2) 2 [0, 1] [(0, .slice A l.length c), (1, .int .i64 z)] (by kernel_rfl) rfl ?_
  refine GL.k rfl hK2 (fun _ _ h => h) ?_
  refine G.seqK fun K3 hK4 => ?_
  refine G.seqK fun K5 hK6 => ?_
  refine G.region ?_
  refine GL.run (j := 2) 2 [0, 1, 9] [(0, .slice A l.length c), (1, .int .i64 z), (9, .int .i64 (l.length : Int))] (by kernel_rfl) rfl ?_
  refine GL.call (j := 3) (Check_calls (l.length : Int) w) (by kernel_rfl) rfl (fun e_ w7 hR => ?_)
  obtain ⟨rfl, H9⟩ := hR
  have H8 : Hp w [] [] w7 := H.callNil H9
  refine ⟨_, rfl, [0, 1, 10], [(0, .slice A l.length c), (1, .int .i64 z), (10, .int .i64 (((chkE (l.length : Int)) : Nat) : Int))], by kernel_rfl, ?_⟩
  refine GL.run (j := 4) 1 [0, 1, 6] [(0, .slice A l.length c), (1, .int .i64 z), (6, .int .i64 (((chkE (l.length : Int)) : Nat) : Int))] (by kernel_rfl) rfl ?_
  refine GL.k rfl hK6 (fun _ _ h => h) ?_
  refine G.seqK fun K10 hK11 => ?_
  refine G.region ?_
  refine GL.run (j := 2) 2 [0, 1, 6, 12] [(0, .slice A l.length c), (1, .int .i64 z), (6, .int .i64 (((chkE (l.length : Int)) : Nat) : Int)), (12, .bool ((((chkE (l.length : Int)) : Nat) : Int) != 0))] (by kernel_rfl) rfl ?_
  refine GL.k rfl hK11 (fun _ _ h => h) ?_
  cases hb12 : ((((chkE (l.length : Int)) : Nat) : Int) != 0)
  · skip
    have hb12f : (((chkE (l.length : Int)) : Nat) : Int) = 0 := bne_eq_false_iff_eq.1 hb12
    have hce : chkE (l.length : Int) = 0 := by omega
    have hlen := chk_ok hce
    refine G.no rfl ?_
    refine G.skipK hK4 (fun _ _ h => h) ?_
    refine G.seqK fun K13 hK14 => ?_
    refine G.seqK fun K15 hK16 => ?_
    refine G.region ?_
    refine GL.run (j := 3) 3 [0, 1, 16] [(0, .slice A l.length c), (1, .int .i64 z), (16, .bool (decide (z < 0)))] (by kernel_rfl) rfl ?_
    cases hb17 : (decide (z < 0))
    · skip
      have hb17f := of_decide_eq_false hb17
      refine GL.run (j := 8) 5 [0, 1, 21] [(0, .slice A l.length c), (1, .int .i64 z), (21, .bool (decide ((l.length : Int) ≤ z)))] (by kernel_rfl) rfl ?_
      refine GL.k rfl hK16 (fun _ _ h => h) ?_
      cases hb18 : (decide ((l.length : Int) ≤ z))
      · skip
        have hb18f := of_decide_eq_false hb18
        obtain ⟨i, rfl⟩ : ∃ i : Nat, z = (i : Int) := ⟨z.toNat, by omega⟩
        have hil : i < l.length := by omega
        refine G.no rfl ?_
        refine G.skipK hK14 (fun _ _ h => h) ?_
        refine G.seqK fun K19 hK20 => ?_
        refine G.region ?_
        refine GL.run (j := 1) 1 [0, 1, 7] [(0, .slice A l.length c), (1, .int .i64 (i : Int)), (7, .slice none 0 0)] (by kernel_rfl) rfl ?_
        refine GL.k rfl hK20 (fun _ _ h => h) ?_
        refine G.seqK fun K21 hK22 => ?_
        refine G.block ?_
        have H23 := H8.rowNil 25 32
        have H23 : Hp w [] [.row none 0 0 25 32 (by8 (flat8 []))] w7 := H23
        have H24 : Hp w [] [.row none 0 0 25 32 (by8 (flat8 []))] w7 := H23
        refine G.fit [0, 1, 7] (M' := [(0, .slice A l.length c), (1, .int .i64 (i : Int)), (7, .slice none 0 0)]) (by kernel_rfl) ?_
        refine G.loop (X := List (List UInt8) × Option Addr × Nat × List (List UInt8) × Option Addr × Nat × Nat) (fun ⟨L, A_, c_, O, B_, d_, j⟩ => [(0, .slice A_ L.length c_), (1, .int .i64 (j : Int)), (7, .slice B_ O.length d_)]) (fun ⟨L, A_, c_, O, B_, d_, j⟩ w_ => (O ++ wayH L j = wayH l i ∧ ok32 L ∧ 0 < L.length ∧ L.length ≤ 65536 ∧ L.length ≤ c_ ∧ j < L.length ∧ ok32 O ∧ O.length + L.length ≤ 65536 ∧ RdO w_ (ids [.row B_ O.length d_ 25 32 (by8 (flat8 O))]) A_ (by8 (flat8 L))) ∧ Hp w [] [.row B_ O.length d_ 25 32 (by8 (flat8 O))] w_) (fun ⟨L, A_, c_, O, B_, d_, j⟩ => L.length) ⟨l, A, c, [], none, 0, i⟩ [0, 1, 7] (by kernel_rfl) ⟨⟨rfl, hok, by omega, by omega, hc, by omega, ok32_nil, by simp; omega, RdO.mid (A' := [.row none 0 0 25 32 (by8 (flat8 []))]) (B' := []) (RdO.of hx) H24⟩, H24⟩ ?_
        rintro ⟨L, A_, c_, O, B_, d_, j⟩ w25 ⟨hi26, H27⟩
        refine G.eq (M' := [(0, .slice A_ L.length c_), (1, .int .i64 (j : Int)), (7, .slice B_ O.length d_)]) rfl ?_
        have H27 : Hp w [] [.row B_ O.length d_ 25 32 (by8 (flat8 O))] w25 := H27
        obtain ⟨hway, hokL, h0L, h16, hcL, hjL, hokO, hOl, hrd⟩ := hi26
        have H28 := Hp.startL (A := [.row B_ O.length d_ 25 32 (by8 (flat8 O))]) (B := []) H27
        have H28 : Hp w25 (ids [.row B_ O.length d_ 25 32 (by8 (flat8 O))]) [.row B_ O.length d_ 25 32 (by8 (flat8 O))] w25 := H28
        refine G.seqK fun K29 hK30 => ?_
        refine G.seqK fun K31 hK32 => ?_
        refine G.region ?_
        refine GL.run (j := 3) 3 [0, 1, 7, 24] [(0, .slice A_ L.length c_), (1, .int .i64 (j : Int)), (7, .slice B_ O.length d_), (24, .bool (decide (1 < (L.length : Int))))] (by kernel_rfl) rfl ?_
        refine GL.k rfl hK32 (fun _ _ h => h) ?_
        cases hb33 : (decide (1 < (L.length : Int)))
        · skip
          have hb33f := of_decide_eq_false hb33
          refine G.no rfl ?_
          refine G.exitK hK22 (fun _ _ h => h) ?_
          refine G.seqK fun K34 hK35 => ?_
          refine G.region ?_
          refine GL.run (j := 3) 3 [4, 5] [(4, .slice B_ O.length d_), (5, .int .i64 0)] (by kernel_rfl) rfl ?_
          refine GL.k rfl hK35 (fun _ _ h => h) ?_
          refine G.ret ?_
          intro F_ hF_ hM_
          refine hRet _ _ (bodyPost_2 rfl (RV.tmp rfl) (RV.tmp rfl) ?_ F_ hF_ hM_)
          have HF := Hp.callL (A := [.row B_ O.length d_ 25 32 (by8 (flat8 O))]) (B := []) H27 H28
          have ew : O = wayH l i := by rw [← hway, wayH_one (by omega), List.append_nil]
          rw [ew] at HF ⊢
          have e1 : wayE l (i : Int) = 0 := by unfold wayE; rw [if_pos hce, if_pos (by omega)]
          have e3 : wayV l (i : Int) = wayH l i := by unfold wayV; rw [if_pos e1]; simp
          rw [e1, e3]
          exact ⟨_, _, rfl, HF⟩
        · skip
          have hb33f := of_decide_eq_true hb33
          refine G.yes rfl ?_
          refine G.skipK hK30 (fun _ _ h => h) ?_
          refine G.seqK fun K36 hK37 => ?_
          refine G.block ?_
          refine G.region ?_
          refine GL.run (j := 8) 8 [0, 1, 29, 30, 36] [(0, .slice A_ L.length c_), (1, .int .i64 (j : Int)), (29, .slice B_ O.length d_), (30, .slice A_ L.length c_), (36, .int .i64 (if (IntKind.i64.wrap ((L.length : Int) - 1)) < (Go.bits .xor .i64 (j : Int) 1) then (IntKind.i64.wrap ((L.length : Int) - 1)) else (Go.bits .xor .i64 (j : Int) 1)))] (by kernel_rfl) rfl ?_
          have e38 : (Go.bits .xor .i64 (j : Int) 1) = (((if j % 2 = 1 then j - 1 else j + 1) : Nat) : Int) := i_xor1 (by omega)
          have e39 : (IntKind.i64.wrap ((L.length : Int) - 1)) = (((L.length - 1) : Nat) : Int) := by rw [in_i64 (by omega)]; omega
          have e40 : (if (((L.length - 1) : Nat) : Int) < (((if j % 2 = 1 then j - 1 else j + 1) : Nat) : Int) then (((L.length - 1) : Nat) : Int) else (((if j % 2 = 1 then j - 1 else j + 1) : Nat) : Int)) = (((sib j L.length) : Nat) : Int) := min_int (if j % 2 = 1 then j - 1 else j + 1) (L.length - 1)
          refine GL.eq (M' := [(0, .slice A_ L.length c_), (1, .int .i64 (j : Int)), (29, .slice B_ O.length d_), (30, .slice A_ L.length c_), (36, .int .i64 (((sib j L.length) : Nat) : Int))]) (by rw [e38, e39, e40]) ?_
          clear e38 e39 e40
          refine GL.sem (j := 9) (run_idxRdN (P := Try.prog) (k := .i64) (t := 22) (sz := 32) (A := A_) (len := L.length) (cap := c_) (j := (sib j L.length)) (by kernel_rfl) rfl (hrd.hp H28) (by rw [by8_length]; exact flat8_length hokL) (by decide) (by first | omega | (unfold sib; omega))) [0, 1, 29, 37] [(0, .slice A_ L.length c_), (1, .int .i64 (j : Int)), (29, .slice B_ O.length d_), (37, .pointer (Option.map (fun x => Addr.add x ((sib j L.length) * 32)) A_))] (by kernel_rfl) (by kernel_rfl) rfl ?_
          refine GL.sem (j := 10) (run_ldRdA (P := Try.prog) (ty := 25) (m := 32) (o := ((sib j L.length) * 32)) (A := A_) (sub := by8 (L.getD (sib j L.length) [])) (by kernel_rfl) (hrd.hp H28) (flat8_sub hokL (by first | omega | (unfold sib; omega))) (by rw [by8_length, ok32_at hokL (by first | omega | (unfold sib; omega))]) (by decide)) [0, 1, 29, 38] [(0, .slice A_ L.length c_), (1, .int .i64 (j : Int)), (29, .slice B_ O.length d_), (38, .agg (by8 (L.getD (sib j L.length) [])).toArray)] (by kernel_rfl) (by kernel_rfl) rfl ?_
          obtain ⟨p41, w42, r43, H44⟩ := H28.madeRow (P := Try.prog) (Instr.buildSlice 22 1 #[(0, .agg (by8 (L.getD (sib j L.length) [])).toArray)]) (fun b_ => .slice (some ⟨b_, 0, none⟩) 1 1) (by8 (L.getD (sib j L.length) [])) 25 1 1 32 (built1_22 (L.getD (sib j L.length) []) (by rw [ok32_at hokL (by first | omega | (unfold sib; omega))])) (by decide) (by decide) (by rw [by8_length, ok32_at hokL (by first | omega | (unfold sib; omega))])
          rw [List.take_of_length_le (show (by8 (L.getD (sib j L.length) [])).length ≤ 1 * 32 from Nat.le_of_eq (by rw [by8_length, ok32_at hokL (by first | omega | (unfold sib; omega))]))] at H44
          have H44 : Hp w25 (ids [.row B_ O.length d_ 25 32 (by8 (flat8 O))]) [.row B_ O.length d_ 25 32 (by8 (flat8 O)), .row (some ⟨p41, 0, none⟩) 1 1 25 32 (by8 (L.getD (sib j L.length) []))] w42 := H44
          refine GL.sem (j := 11) (r43) [0, 1, 29, 39] [(0, .slice A_ L.length c_), (1, .int .i64 (j : Int)), (29, .slice B_ O.length d_), (39, .slice (some ⟨p41, 0, none⟩) 1 1)] (by kernel_rfl) (by kernel_rfl) rfl ?_
          obtain ⟨A45, c46, w47, r48, H49⟩ := H44.append (P := Try.prog) (e := 25) (sz := 32) (by_ := 32) (n := O.length) (c := d_) (m := 1) (d := 1) (t := 22) (ty := 22) (xs := by8 (flat8 O)) (news := by8 (L.getD (sib j L.length) [])) 0 rfl (by kernel_rfl) (H44.rdRowN 1 rfl) (by rw [by8_length, ok32_at hokL (by first | omega | (unfold sib; omega))]) (by8_one _) (by omega) (by simp only [maxLen]; omega)
          rw [← by8_append] at H49
          have H49 : Hp w25 (ids [.row B_ O.length d_ 25 32 (by8 (flat8 O))]) [.row A45 (O.length + 1) c46 25 32 (by8 ((flat8 O) ++ (L.getD (sib j L.length) []))), .row (some ⟨p41, 0, none⟩) 1 1 25 32 (by8 (L.getD (sib j L.length) []))] w47 := H49
          refine GL.sem (j := 12) (r48) [0, 1, 40] [(0, .slice A_ L.length c_), (1, .int .i64 (j : Int)), (40, .slice A45 (O.length + 1) c46)] (by kernel_rfl) (by kernel_rfl) rfl ?_
          refine GL.run (j := 13) 1 [0, 1, 7] [(0, .slice A_ L.length c_), (1, .int .i64 (j : Int)), (7, .slice A45 (O.length + 1) c46)] (by kernel_rfl) rfl ?_
          refine GL.k rfl hK37 (fun _ _ h => h) ?_
          refine G.region ?_
          refine GL.run (j := 1) 1 [1, 7, 25] [(1, .int .i64 (j : Int)), (7, .slice A45 (O.length + 1) c46), (25, .slice A_ L.length c_)] (by kernel_rfl) rfl ?_
          refine GL.call (j := 2) (Up_calls A_ c_ L w47 (hrd.hp H49) hokL (by omega) (by omega)) (by kernel_rfl) rfl (fun e_ w52 hR => ?_)
          obtain ⟨A50, c51, rfl, H54⟩ := hR
          have H53 : Hp w25 (ids [.row B_ O.length d_ 25 32 (by8 (flat8 O))]) [.row A45 (O.length + 1) c46 25 32 (by8 ((flat8 O) ++ (L.getD (sib j L.length) []))), .row (some ⟨p41, 0, none⟩) 1 1 25 32 (by8 (L.getD (sib j L.length) [])), .row A50 ((upH L).length) c51 25 32 (by8 (flat8 (upH L)))] w52 := H49.callNew H54
          refine ⟨_, rfl, [1, 7, 26], [(1, .int .i64 (j : Int)), (7, .slice A45 (O.length + 1) c46), (26, .slice A50 ((upH L).length) c51)], by kernel_rfl, ?_⟩
          refine GL.run (j := 6) 4 [0, 1, 7] [(0, .slice A50 ((upH L).length) c51), (1, .int .i64 (IntKind.i64.wrap (Int.tdiv (j : Int) 2))), (7, .slice A45 (O.length + 1) c46)] (by kernel_rfl) rfl ?_
          have e55 : (IntKind.i64.wrap (Int.tdiv (j : Int) 2)) = (((j / 2) : Nat) : Int) := i_quo (a := j) 2 (by omega)
          refine GL.eq (M' := [(0, .slice A50 ((upH L).length) c51), (1, .int .i64 (((j / 2) : Nat) : Int)), (7, .slice A45 (O.length + 1) c46)]) (by rw [e55]) ?_
          clear e55
          have hq56 := (H53.rowLe 2 rfl).1
          have hul := upH_length L
          have H60 : Hp w25 (ids [.row B_ O.length d_ 25 32 (by8 (flat8 O))]) [.row A45 (O.length + 1) c46 25 32 (by8 ((flat8 O) ++ (L.getD (sib j L.length) []))), .row A50 ((upH L).length) c51 25 32 (by8 (flat8 (upH L)))] w52 := H53.sub (List.Sublist.cons_cons _ (List.Sublist.cons _ (List.Sublist.cons_cons _ (List.Sublist.slnil))))
          have H58 : Hp w25 (ids [.row B_ O.length d_ 25 32 (by8 (flat8 O))]) [.row A45 ((O ++ [(L.getD (sib j L.length) [])]).length) c46 25 32 (by8 (flat8 (O ++ [(L.getD (sib j L.length) [])]))), .row A50 ((upH L).length) c51 25 32 (by8 (flat8 (upH L)))] w52 := by rw [flat8_snoc, List.length_append]; exact H60
          have H57 : Hp w [] [.row A45 ((O ++ [(L.getD (sib j L.length) [])]).length) c46 25 32 (by8 (flat8 (O ++ [(L.getD (sib j L.length) [])]))), .row A50 ((upH L).length) c51 25 32 (by8 (flat8 (upH L)))] w52 := Hp.callL (A := [.row B_ O.length d_ 25 32 (by8 (flat8 O))]) (B := []) H27 H58
          have hz59 := RdO.rowN (A' := [.row A45 ((O ++ [(L.getD (sib j L.length) [])]).length) c46 25 32 (by8 (flat8 (O ++ [(L.getD (sib j L.length) [])])))]) (B' := [.row A50 ((upH L).length) c51 25 32 (by8 (flat8 (upH L)))]) H57 0 rfl
          refine GL.fit (ts := [0, 1, 7]) (M' := [(0, .slice A50 ((upH L).length) c51), (1, .int .i64 (((j / 2) : Nat) : Int)), (7, .slice A45 (O.length + 1) c46)]) (by kernel_rfl) ?_
          refine GL.eq (M' := [(0, .slice A50 ((upH L).length) c51), (1, .int .i64 (((j / 2) : Nat) : Int)), (7, .slice A45 ((O ++ [(L.getD (sib j L.length) [])]).length) c46)]) (by rw [List.length_append]; rfl) ?_
          exact GL.again ⟨(upH L), A50, c51, (O ++ [(L.getD (sib j L.length) [])]), A45, c46, (j / 2)⟩ [0, 1, 7] rfl (by kernel_rfl) (by show (upH L).length < L.length; omega) ⟨⟨by rw [List.append_assoc, List.cons_append, List.nil_append, ← wayH_step (by omega)]; exact hway, ok32_upH L, by omega, by omega, hq56, by omega, ok32_snoc hokO (ok32_at hokL (by unfold sib; omega)), by rw [List.length_append, List.length_singleton]; omega, hz59⟩, (H57.sub (List.Sublist.cons_cons _ (List.Sublist.cons _ (List.Sublist.slnil))))⟩
      · skip
        have hb18f := of_decide_eq_true hb18
        refine G.yes rfl ?_
        refine G.seqK fun K61 hK62 => ?_
        refine G.region ?_
        refine GL.run (j := 2) 2 [4, 5] [(4, .slice none 0 0), (5, .int .i64 1)] (by kernel_rfl) rfl ?_
        refine GL.k rfl hK62 (fun _ _ h => h) ?_
        refine G.ret ?_
        intro F_ hF_ hM_
        refine hRet _ _ (bodyPost_2 rfl (RV.tmp rfl) (RV.tmp rfl) ?_ F_ hF_ hM_)
        have e2 : wayE l z ≠ 0 := by unfold wayE; rw [if_pos (by omega), if_neg (by omega)]; decide
        have e1 : wayE l z = 1 := by unfold wayE; rw [if_pos (by omega), if_neg (by omega)]
        have e3 : wayV l z = [] := by unfold wayV; rw [if_neg e2]
        rw [e3, e1]
        exact ⟨none, 0, rfl, (H8.sub (List.nil_sublist _)).rowNil 25 32⟩
    · skip
      have hb17f := of_decide_eq_true hb17
      refine GL.run (j := 8) 5 [0, 1, 21] [(0, .slice A l.length c), (1, .int .i64 z), (21, .bool true)] (by kernel_rfl) rfl ?_
      refine GL.k rfl hK16 (fun _ _ h => h) ?_
      refine G.yes rfl ?_
      refine G.seqK fun K63 hK64 => ?_
      refine G.region ?_
      refine GL.run (j := 2) 2 [4, 5] [(4, .slice none 0 0), (5, .int .i64 1)] (by kernel_rfl) rfl ?_
      refine GL.k rfl hK64 (fun _ _ h => h) ?_
      refine G.ret ?_
      intro F_ hF_ hM_
      refine hRet _ _ (bodyPost_2 rfl (RV.tmp rfl) (RV.tmp rfl) ?_ F_ hF_ hM_)
      have e2 : wayE l z ≠ 0 := by unfold wayE; rw [if_pos (by omega), if_neg (by omega)]; decide
      have e1 : wayE l z = 1 := by unfold wayE; rw [if_pos (by omega), if_neg (by omega)]
      have e3 : wayV l z = [] := by unfold wayV; rw [if_neg e2]
      rw [e3, e1]
      exact ⟨none, 0, rfl, (H8.sub (List.nil_sublist _)).rowNil 25 32⟩
  · skip
    have hb12f : (((chkE (l.length : Int)) : Nat) : Int) ≠ 0 := bne_iff_ne.1 hb12
    refine G.yes rfl ?_
    refine G.seqK fun K65 hK66 => ?_
    refine G.region ?_
    refine GL.run (j := 3) 3 [4, 5] [(4, .slice none 0 0), (5, .int .i64 (((chkE (l.length : Int)) : Nat) : Int))] (by kernel_rfl) rfl ?_
    refine GL.k rfl hK66 (fun _ _ h => h) ?_
    refine G.ret ?_
    intro F_ hF_ hM_
    refine hRet _ _ (bodyPost_2 rfl (RV.tmp rfl) (RV.tmp rfl) ?_ F_ hF_ hM_)
    have e2 : wayE l z ≠ 0 := by unfold wayE; rw [if_neg (by omega)]; omega
    have e1 : wayE l z = (chkE (l.length : Int)) := by unfold wayE; rw [if_neg (by omega)]
    have e3 : wayV l z = [] := by unfold wayV; rw [if_neg e2]
    rw [e3, e1]
    exact ⟨none, 0, rfl, (H8.sub (List.nil_sublist _)).rowNil 25 32⟩
end Go.Proofs.Ytgmggjnoegelgaa
namespace Go.Proofs.Ytgmggjnoegelgaa
open Go.RowKit
theorem val_takeD (ds : List Nat) (m : Nat) : val (ds.take (m + 1)) = val (ds.take m) + 65536 ^ m * ds.getD m 0 := by
  by_cases h : m < ds.length
  · exact val_take (getD_at h)
  · rw [List.take_of_length_le (by omega), List.take_of_length_le (by omega), List.getD_eq_getElem?_getD, List.getElem?_eq_none (by omega)]
    simp
theorem ok_take {ds : List Nat} (h : ok16 ds) (m : Nat) : ok16 (ds.take m) := fun d hd => h d (List.mem_of_mem_take hd)
theorem val_take_lt {ds : List Nat} (h : ok16 ds) (m : Nat) : val (ds.take m) < 65536 ^ m := by
  refine Nat.lt_of_lt_of_le (val_lt (ok_take h m)) (Nat.pow_le_pow_right (by decide) ?_)
  rw [List.length_take]
  omega
theorem pw_round {xs ds : List Nat} {x cy d t i : Nat} (hl : xs.length = i) (hv : val xs + 65536 ^ i * cy = val (ds.take i) * x) (hd : ds.getD i 0 = d) (ht : t = cy + d * x) :
    val (xs ++ [t % 65536]) + 65536 ^ (i + 1) * (t / 65536) = val (ds.take (i + 1)) * x := by
  rw [val_snoc, hl, val_takeD, hd, Nat.add_mul, ← hv, Nat.pow_succ]
  generalize 65536 ^ i = B
  have e : B * t = B * (t % 65536) + B * 65536 * (t / 65536) := by rw [Nat.mul_assoc, ← Nat.mul_add, Nat.mod_add_div]
  have e2 : B * t = B * cy + B * d * x := by rw [ht, Nat.mul_add, Nat.mul_assoc]
  omega
theorem pw_in {xs ds : List Nat} {x cy i : Nat} (hv : val xs + 65536 ^ i * cy = val (ds.take i) * x) (hr : val ds * x < 65536 ^ 16) (hl : ds.length ≤ 16) (h : i < ds.length ∨ 0 < cy) : i < 16 := by
  by_cases hi : i < ds.length
  · omega
  · rw [List.take_of_length_le (by omega)] at hv
    have h1 : 65536 ^ i ≤ 65536 ^ i * cy := Nat.le_mul_of_pos_right _ (by omega)
    exact (Nat.pow_lt_pow_iff_right (a := 65536) (by decide)).1 (by omega)
theorem pw_carry {cy d x : Nat} (hx : x < 68719476736) (hc : cy < 137438953472) (hd : d < 65536) : d * x < 4503599627370496 ∧ (cy + d * x) / 65536 < 137438953472 := by
  have h := Nat.mul_le_mul_right x (show d ≤ 65535 by omega)
  omega
theorem pw_room {x m : Nat} (hx : x < 68719476736) (hm : m < 3) : x ^ m * x < 65536 ^ 16 := by
  rw [← Nat.pow_succ]
  refine Nat.lt_of_le_of_lt (Nat.pow_le_pow_left (Nat.le_of_lt hx) (m + 1)) ?_
  exact Nat.lt_of_le_of_lt (Nat.pow_le_pow_right (by decide) (show m + 1 ≤ 3 by omega)) (by decide)
theorem getD_ok {ds : List Nat} (h : ok16 ds) (i : Nat) : ds.getD i 0 < 65536 := by
  by_cases hi : i < ds.length
  · exact h _ (List.mem_of_getElem? (getD_at hi))
  · rw [List.getD_eq_getElem?_getD, List.getElem?_eq_none (by omega)]
    decide
theorem cmp_step {a b : List Nat} {i : Nat} (ha : ok16 a) (hb : ok16 b) : (a.getD i 0 ≠ b.getD i 0 → decide (val (b.take (i + 1)) < val (a.take (i + 1))) = decide (b.getD i 0 < a.getD i 0)) ∧
    (a.getD i 0 = b.getD i 0 → decide (val (b.take (i + 1)) < val (a.take (i + 1))) = decide (val (b.take i) < val (a.take i))) := by
  rw [val_takeD, val_takeD]
  have h1 := val_take_lt ha i
  have h2 := val_take_lt hb i
  generalize val (a.take i) = x at *
  generalize val (b.take i) = y at *
  generalize a.getD i 0 = d
  generalize b.getD i 0 = e
  generalize 65536 ^ i = B at *
  constructor
  · intro h
    rcases Nat.lt_or_gt_of_ne h with h | h
    · have := Nat.mul_le_mul_left B (show d + 1 ≤ e from h)
      rw [Nat.mul_add] at this
      rw [decide_eq_false (by omega), decide_eq_false (by omega)]
    · have := Nat.mul_le_mul_left B (show e + 1 ≤ d from h)
      rw [Nat.mul_add] at this
      rw [decide_eq_true (by omega), decide_eq_true (by omega)]
  · intro h
    subst h
    rw [decide_eq_decide]
    omega
def rootS (p n : Nat) : Nat → Nat
  | 0 => 0
  | j + 1 => if (rootS p n j + 2 ^ (35 - j)) ^ n ≤ p * 65536 ^ (2 * n) then rootS p n j + 2 ^ (35 - j) else rootS p n j
theorem rootS_le (p n : Nat) : ∀ j, j ≤ 36 → rootS p n j + 2 ^ (36 - j) ≤ 68719476736
  | 0, _ => by
    show 0 + 2 ^ 36 ≤ _
    decide
  | j + 1, h => by
    have ih := rootS_le p n j (by omega)
    have e : 2 ^ (36 - j) = 2 ^ (35 - j) + 2 ^ (35 - j) := by
      rw [show 36 - j = (35 - j) + 1 by omega, Nat.pow_succ]
      omega
    have h0 : 0 < 2 ^ (35 - j) := Nat.pow_pos (by decide)
    rw [rootS, show 36 - (j + 1) = 35 - j by omega]
    split <;> omega
theorem rootS_spec (p : Nat) {n : Nat} (h0 : p * 65536 ^ (2 * n) < 68719476736 ^ n) (hn : n ≠ 0) : ∀ j, j ≤ 36 → rootS p n j ^ n ≤ p * 65536 ^ (2 * n) ∧ p * 65536 ^ (2 * n) < (rootS p n j + 2 ^ (36 - j)) ^ n
  | 0, _ => by
    constructor
    · show 0 ^ n ≤ _
      rw [Nat.zero_pow (by omega)]
      exact Nat.zero_le _
    · have e : rootS p n 0 + 2 ^ (36 - 0) = 68719476736 := by
        rw [rootS, Nat.zero_add]
      rw [e]
      exact h0
  | j + 1, h => by
    obtain ⟨h1, h2⟩ := rootS_spec p h0 hn j (by omega)
    have e : 2 ^ (36 - j) = 2 ^ (35 - j) + 2 ^ (35 - j) := by
      rw [show 36 - j = (35 - j) + 1 by omega, Nat.pow_succ]
      omega
    rw [e, ← Nat.add_assoc] at h2
    rw [rootS, show 36 - (j + 1) = 35 - j by omega]
    split
    · exact ⟨by assumption, h2⟩
    · exact ⟨h1, by omega⟩
theorem root_is {p n r : Nat} (hn : n ≠ 0) (h0 : p * 65536 ^ (2 * n) < 68719476736 ^ n) (h1 : r ^ n ≤ p * 65536 ^ (2 * n)) (h2 : p * 65536 ^ (2 * n) < (r + 1) ^ n) : rootS p n 36 = r := by
  obtain ⟨h3, h4⟩ := rootS_spec p h0 hn 36 (Nat.le_refl _)
  rw [show 2 ^ (36 - 36) = 1 from rfl] at h4
  have a := (Nat.pow_lt_pow_iff_left hn).1 (Nat.lt_of_le_of_lt h3 h2)
  have b := (Nat.pow_lt_pow_iff_left hn).1 (Nat.lt_of_le_of_lt h1 h4)
  omega
theorem rootS_room {p n j : Nat} (h : j < 36) : rootS p n j + 2 ^ (35 - j) < 68719476736 := by
  have h1 := rootS_le p n j (by omega)
  have e : 2 ^ (36 - j) = 2 ^ (35 - j) + 2 ^ (35 - j) := by
    rw [show 36 - j = (35 - j) + 1 by omega, Nat.pow_succ]
    omega
  have : 0 < 2 ^ (35 - j) := Nat.pow_pos (by decide)
  omega
theorem run_shl1 {P : Program} {t : TypeId} {k' : IntKind} {r : Nat} (hr : r < 64) (w : World) : (binOp .shl t (.int .u64 1) (.int k' (r : Int))).run P w = .ok (.int .u64 ((2 ^ r : Nat) : Int)) w := by
  have h := run_shlN (P := P) (t := t) (k' := k') (a := 1) (r := r) (by omega) w
  rw [Nat.one_mul, Nat.mod_eq_of_lt (by simpa [K] using Nat.pow_lt_pow_right (a := 2) (by decide) hr)] at h
  exact h
theorem w_u32 (x : Nat) : IntKind.u32.wrap (x : Int) = ((x % W32 : Nat) : Int) := by
  rw [IntKind.wrap_u32]
  simp only [W32]
  omega
def prF : Nat → List Nat
  | 0 => []
  | k + 1 => if (prF k).all (fun q => decide ((k + 2) % q ≠ 0)) = true then prF k ++ [k + 2] else prF k
theorem prF_mono (k d : Nat) : (prF k).length ≤ (prF (k + d)).length := by
  induction d with
  | zero => exact Nat.le_refl _
  | succ d ih =>
    refine Nat.le_trans ih ?_
    show _ ≤ (prF (k + d + 1)).length
    rw [prF]
    split
    · rw [List.length_append]; omega
    · exact Nat.le_refl _
theorem prF_ge (k : Nat) : ∀ q ∈ prF k, 2 ≤ q := by
  induction k with
  | zero => intro q h; simp [prF] at h
  | succ k ih =>
    intro q h
    rw [prF] at h
    split at h
    · rcases List.mem_append.1 h with h | h
      · exact ih q h
      · rw [List.mem_singleton.1 h]; omega
    · exact ih q h
def PR : List Nat := [2, 3, 5, 7, 11, 13, 17, 19, 23, 29, 31, 37, 41, 43, 47, 53, 59, 61, 67, 71, 73, 79, 83, 89, 97, 101, 103, 107, 109, 113, 127, 131, 137, 139, 149, 151, 157, 163, 167, 173, 179, 181, 191, 193, 197, 199, 211, 223, 227, 229, 233, 239, 241, 251, 257, 263, 269, 271, 277, 281, 283, 293, 307, 311]
theorem prF_all : prF 310 = PR := by kernel_rfl
theorem prF_63 : (prF 309).length = 63 := by kernel_rfl
theorem prF_in {k : Nat} (h : (prF k).length < 64) : k < 310 := by
  by_cases hk : k < 310
  · exact hk
  · have h1 := prF_mono 310 (k - 310)
    rw [show 310 + (k - 310) = k by omega, prF_all] at h1
    have : PR.length = 64 := rfl
    omega
theorem prF_out {k : Nat} (hk : k ≤ 310) (h : ¬ (prF k).length < 64) : k = 310 := by
  by_cases h9 : k ≤ 309
  · have h1 := prF_mono k (309 - k)
    rw [show k + (309 - k) = 309 by omega, prF_63] at h1
    omega
  · omega
theorem all_take {f : Nat → Bool} {l : List Nat} {j d : Nat} (h : l[j]? = some d) : (l.take (j + 1)).all f = ((l.take j).all f && f d) := by
  rw [List.take_add_one, h]
  simp
def R3L : List Nat := [5411319704, 6194414737, 7344290767, 8215976869, 9551921755, 10098905585, 11043570340, 11460697813, 12214315672, 13195500289, 13492127166, 14311783875, 14809980276, 15046980094, 15499789991, 16133124468, 16720292289, 16907126662, 17444216262, 17784676812, 17950125167, 18429019306, 18734950876, 19175934170, 19734090066, 20001703533, 20132865992, 20390182855, 20516441075, 20764397895, 21588763473, 21813078375, 22141143685, 22248366392, 22769593852, 22871018771, 23170020180, 23461497531, 23651862830, 23931792517, 24205322401, 24295138891, 24734567280, 24820601251, 24990902297, 25075189284, 25569408389, 26045227120, 26200031510, 26276752392, 26428864332, 26653801653, 26727943347, 27092625994, 27306805839, 27517677555, 27725365998, 27793908591, 27997534228, 28131656200, 28198240250, 28526537963, 28973835255, 29099129074]
def H0L : List Nat := [0x6a09e667, 0xbb67ae85, 0x3c6ef372, 0xa54ff53a, 0x510e527f, 0x9b05688c, 0x1f83d9ab, 0x5be0cd19]
def R2L : List Nat := [6074000999, 7439101573, 9603838834, 11363415354, 14244795007, 15485724812, 17708603819, 18721328409]
theorem roots3 : ∀ i, i < 64 → PR.getD i 0 * 65536 ^ (2 * 3) < 68719476736 ^ 3 ∧ R3L.getD i 0 ^ 3 ≤ PR.getD i 0 * 65536 ^ (2 * 3) ∧ PR.getD i 0 * 65536 ^ (2 * 3) < (R3L.getD i 0 + 1) ^ 3 ∧ R3L.getD i 0 % W32 = KT.getD i 0 := of_decide_eq_true (by kernel_rfl)
theorem roots2 : ∀ i, i < 8 → PR.getD i 0 * 65536 ^ (2 * 2) < 68719476736 ^ 2 ∧ R2L.getD i 0 ^ 2 ≤ PR.getD i 0 * 65536 ^ (2 * 2) ∧ PR.getD i 0 * 65536 ^ (2 * 2) < (R2L.getD i 0 + 1) ^ 2 ∧ R2L.getD i 0 % W32 = H0L.getD i 0 := of_decide_eq_true (by kernel_rfl)
theorem root3_at {i : Nat} (h : i < 64) : rootS (PR.getD i 0) 3 36 % W32 = KT.getD i 0 := by
  obtain ⟨h0, h1, h2, h3⟩ := roots3 i h
  rw [root_is (by decide) h0 h1 h2, h3]
theorem root2_at {i : Nat} (h : i < 8) : rootS (PR.getD i 0) 2 36 % W32 = H0L.getD i 0 := by
  obtain ⟨h0, h1, h2, h3⟩ := roots2 i h
  rw [root_is (by decide) h0 h1 h2, h3]
theorem PR_lt (i : Nat) : PR.getD i 0 < 65536 := getD_ok (by unfold PR ok16; decide) i
theorem Digit_calls (ds : List Nat) (i n : Nat) (A : Option Addr) (c : Nat) (w : World) (hr : RdS w A (dg ds)) (hn : n = ds.length) : Calls Try.prog 44 #[.slice A n c, .int .i64 (i : Int)] w fun e w' => e = .returned (.int .u64 ((ds.getD i 0 : Nat) : Int)) ∧ Hp w [] [] w' := by
  subst hn
  refine calls_G (args := [.slice A ds.length c, .int .i64 (i : Int)]) Try.func44 rfl Try.ntmps44 rfl ?_
  intro Q0 hRet hNor hPan
  have H := Hp.start w
  have H : Hp w [] [] w := H
  refine G.seqK fun K1 hK2 => ?_
  refine G.region ?_
  refine GL.run (j := 1) 1 [0, 1] [(0, .slice A ds.length c), (1, .int .i64 (i : Int))] (by kernel_rfl) rfl ?_
  refine GL.k rfl hK2 (fun _ _ h => h) ?_
  refine G.seqK fun K3 hK4 => ?_
  refine G.seqK fun K5 hK6 => ?_
  refine G.region ?_
  refine GL.run (j := 4) 4 [0, 1, 8] [(0, .slice A ds.length c), (1, .int .i64 (i : Int)), (8, .bool (decide ((i : Int) < (ds.length : Int))))] (by kernel_rfl) rfl ?_
  refine GL.k rfl hK6 (fun _ _ h => h) ?_
  cases hb7 : (decide ((i : Int) < (ds.length : Int)))
  · skip
    have hb7f := of_decide_eq_false hb7
    refine G.no rfl ?_
    refine G.skipK hK4 (fun _ _ h => h) ?_
    refine G.seqK fun K8 hK9 => ?_
    refine G.region ?_
    refine GL.run (j := 1) 1 [4] [(4, .int .u64 0)] (by kernel_rfl) rfl ?_
    refine GL.k rfl hK9 (fun _ _ h => h) ?_
    refine G.ret ?_
    intro F_ hF_ hM_
    refine hRet _ _ (bodyPost_1 rfl (RV.tmp rfl) ?_ F_ hF_ hM_)
    rw [show ds.getD i 0 = 0 by rw [List.getD_eq_getElem?_getD, List.getElem?_eq_none (by omega)]; rfl]
    exact ⟨rfl, H.sub (List.nil_sublist _)⟩
  · skip
    have hb7f := of_decide_eq_true hb7
    refine G.yes rfl ?_
    refine G.seqK fun K10 hK11 => ?_
    refine G.region ?_
    refine GL.run (j := 2) 2 [9, 10] [(9, .slice A ds.length c), (10, .int .i64 (i : Int))] (by kernel_rfl) rfl ?_
    refine GL.sem (j := 3) (run_idxRd (P := Try.prog) (k := .i64) (t := 72) (A := A) (len := ds.length) (cap := c) (j := i) (by kernel_rfl) rfl (hr.hp H) (by first | exact dg_length _ | rw [dg_length]; first | rfl | assumption | (symm; assumption) | (simp; done) | (rw [List.length_take]; omega) | omega) (by first | rfl | omega | (simp only [List.length_cons, List.length_nil, List.length_drop, List.length_take, List.length_append] <;> omega))) [11] [(11, .pointer (Option.map (fun x => Addr.add x i) A))] (by kernel_rfl) (by kernel_rfl) rfl ?_
    refine GL.sem (j := 4) (run_ldRd (P := Try.prog) (ty := 64) (A := A) (j := i) (v := .int .u64 (((ds.getD i 0) : Nat) : Int)) (by kernel_rfl) (hr.hp H) (dg_at (getD_at (by omega)))) [12] [(12, .int .u64 (((ds.getD i 0) : Nat) : Int))] (by kernel_rfl) (by kernel_rfl) rfl ?_
    refine GL.run (j := 5) 1 [4] [(4, .int .u64 (((ds.getD i 0) : Nat) : Int))] (by kernel_rfl) rfl ?_
    refine GL.k rfl hK11 (fun _ _ h => h) ?_
    refine G.ret ?_
    intro F_ hF_ hM_
    refine hRet _ _ (bodyPost_1 rfl (RV.tmp rfl) ?_ F_ hF_ hM_)
    exact ⟨rfl, H.sub (List.nil_sublist _)⟩
theorem Power_calls (x n : Nat) (hx : x < 68719476736) (hn : n ≤ 3) (w : World) : Calls Try.prog 43 #[.int .u64 (x : Int), .int .i64 (n : Int)] w fun e w' => ∃ ds A c, e = .returned (.slice A ds.length c) ∧ Hp w [] [.row A ds.length c 64 1 (dg ds)] w' ∧ ok16 ds ∧ ds.length ≤ 16 ∧ val ds = x ^ n := by
  have hMX : MX = 4611686018427387904 := rfl
  have hK0 : K = 18446744073709551616 := rfl
  have hK40 : K4 = 115792089237316195423570985008687907853269984665640564039457584007913129639936 := rfl
  refine calls_G (args := [.int .u64 (x : Int), .int .i64 (n : Int)]) Try.func43 rfl Try.ntmps43 rfl ?_
  intro Q0 hRet hNor hPan
  have H := Hp.start w
  have H : Hp w [] [] w := H
  refine G.seqK fun K1 hK2 => ?_
  refine G.region ?_
  refine GL.run (j := 1) 1 [0, 1] [(0, .int .u64 (x : Int)), (1, .int .i64 (n : Int))] (by kernel_rfl) rfl ?_
  refine GL.k rfl hK2 (fun _ _ h => h) ?_
  refine G.seqK fun K3 hK4 => ?_
  refine G.region ?_
  obtain ⟨p5, w6, r7, H8⟩ := H.madeRow (P := Try.prog) (Instr.buildSlice 72 1 #[(0, .int .u64 1)]) (fun b_ => .slice (some ⟨b_, 0, none⟩) 1 1) [.int .u64 1] 64 1 1 1 (by kernel_rfl) (by decide) (by decide) rfl
  have H8 : Hp w [] [.row (some ⟨p5, 0, none⟩) 1 1 64 1 (dg [1])] w6 := H8
  refine GL.sem (j := 1) (r7) [0, 1, 9] [(0, .int .u64 (x : Int)), (1, .int .i64 (n : Int)), (9, .slice (some ⟨p5, 0, none⟩) 1 1)] (by kernel_rfl) (by kernel_rfl) rfl ?_
  refine GL.run (j := 2) 1 [0, 1, 5] [(0, .int .u64 (x : Int)), (1, .int .i64 (n : Int)), (5, .slice (some ⟨p5, 0, none⟩) 1 1)] (by kernel_rfl) rfl ?_
  refine GL.k rfl hK4 (fun _ _ h => h) ?_
  refine G.seqK fun K9 hK10 => ?_
  refine G.block ?_
  have H11 : Hp w [] [.row (some ⟨p5, 0, none⟩) ([1].length) 1 64 1 (dg [1])] w6 := H8
  refine G.fit [0, 1, 5] (M' := [(0, .int .u64 (x : Int)), (1, .int .i64 (n : Int)), (5, .slice (some ⟨p5, 0, none⟩) ([1].length) 1)]) (by kernel_rfl) ?_
  refine G.eq (M' := [(0, .int .u64 (x : Int)), (1, .int .i64 (((n - 0) : Nat) : Int)), (5, .slice (some ⟨p5, 0, none⟩) ([1].length) 1)]) (by rfl) ?_
  refine G.loop (X := Nat × List Nat × Option Addr × Nat) (fun ⟨m, ds, A_, c_⟩ => [(0, .int .u64 (x : Int)), (1, .int .i64 (((n - m) : Nat) : Int)), (5, .slice A_ ds.length c_)]) (fun ⟨m, ds, A_, c_⟩ w_ => (m ≤ n ∧ ok16 ds ∧ ds.length ≤ 16 ∧ val ds = x ^ m) ∧ Hp w [] [.row A_ ds.length c_ 64 1 (dg ds)] w_) (fun ⟨m, ds, A_, c_⟩ => n - m) ⟨0, [1], (some ⟨p5, 0, none⟩), 1⟩ [0, 1, 5] (by kernel_rfl) ⟨⟨Nat.zero_le _, by intro d hd; rw [List.mem_singleton.1 hd]; decide, by decide, rfl⟩, H11⟩ ?_
  rintro ⟨m, ds, A_, c_⟩ w12 ⟨hi13, H14⟩
  refine G.eq (M' := [(0, .int .u64 (x : Int)), (1, .int .i64 (((n - m) : Nat) : Int)), (5, .slice A_ ds.length c_)]) rfl ?_
  have H14 : Hp w [] [.row A_ ds.length c_ 64 1 (dg ds)] w12 := H14
  obtain ⟨hmn, hdok, hdl, hdv⟩ := hi13
  refine G.seqK fun K15 hK16 => ?_
  refine G.seqK fun K17 hK18 => ?_
  refine G.region ?_
  refine GL.run (j := 2) 2 [0, 1, 5, 11] [(0, .int .u64 (x : Int)), (1, .int .i64 (((n - m) : Nat) : Int)), (5, .slice A_ ds.length c_), (11, .bool (decide (0 < (((n - m) : Nat) : Int))))] (by kernel_rfl) rfl ?_
  refine GL.k rfl hK18 (fun _ _ h => h) ?_
  cases hb19 : (decide (0 < (((n - m) : Nat) : Int)))
  · skip
    have hb19f := of_decide_eq_false hb19
    refine G.no rfl ?_
    refine G.exitK hK10 (fun _ _ h => h) ?_
    refine G.seqK fun K20 hK21 => ?_
    refine G.region ?_
    refine GL.run (j := 2) 2 [4] [(4, .slice A_ ds.length c_)] (by kernel_rfl) rfl ?_
    refine GL.k rfl hK21 (fun _ _ h => h) ?_
    refine G.ret ?_
    intro F_ hF_ hM_
    refine hRet _ _ (bodyPost_1 rfl (RV.tmp rfl) ?_ F_ hF_ hM_)
    have hm9 : m = n := by omega
    exact ⟨ds, _, _, rfl, H14, hdok, hdl, by rw [hdv, hm9]⟩
  · skip
    have hb19f := of_decide_eq_true hb19
    refine G.yes rfl ?_
    refine G.skipK hK16 (fun _ _ h => h) ?_
    refine G.seqK fun K22 hK23 => ?_
    refine G.block ?_
    refine G.seqK fun K24 hK25 => ?_
    refine G.region ?_
    obtain ⟨p26, w27, r28, H29⟩ := H14.madeRow (P := Try.prog) (Instr.buildSlice 72 0 #[]) (fun b_ => .slice (some ⟨b_, 0, none⟩) 0 0) [] 64 0 0 1 (by kernel_rfl) (by decide) (by decide) rfl
    have H29 : Hp w [] [.row A_ ds.length c_ 64 1 (dg ds), .row (some ⟨p26, 0, none⟩) 0 0 64 1 (dg [])] w27 := H29
    refine GL.sem (j := 1) (r28) [0, 1, 5, 14] [(0, .int .u64 (x : Int)), (1, .int .i64 (((n - m) : Nat) : Int)), (5, .slice A_ ds.length c_), (14, .slice (some ⟨p26, 0, none⟩) 0 0)] (by kernel_rfl) (by kernel_rfl) rfl ?_
    refine GL.run (j := 2) 1 [0, 1, 5, 6] [(0, .int .u64 (x : Int)), (1, .int .i64 (((n - m) : Nat) : Int)), (5, .slice A_ ds.length c_), (6, .slice (some ⟨p26, 0, none⟩) 0 0)] (by kernel_rfl) rfl ?_
    refine GL.k rfl hK25 (fun _ _ h => h) ?_
    refine G.seqK fun K30 hK31 => ?_
    refine G.region ?_
    refine GL.run (j := 1) 1 [0, 1, 5, 6, 7] [(0, .int .u64 (x : Int)), (1, .int .i64 (((n - m) : Nat) : Int)), (5, .slice A_ ds.length c_), (6, .slice (some ⟨p26, 0, none⟩) 0 0), (7, .int .u64 0)] (by kernel_rfl) rfl ?_
    refine GL.k rfl hK31 (fun _ _ h => h) ?_
    refine G.seqK fun K32 hK33 => ?_
    refine G.seqK fun K34 hK35 => ?_
    refine G.region ?_
    refine GL.run (j := 1) 1 [0, 1, 5, 6, 7, 8] [(0, .int .u64 (x : Int)), (1, .int .i64 (((n - m) : Nat) : Int)), (5, .slice A_ ds.length c_), (6, .slice (some ⟨p26, 0, none⟩) 0 0), (7, .int .u64 0), (8, .int .i64 0)] (by kernel_rfl) rfl ?_
    refine GL.k rfl hK35 (fun _ _ h => h) ?_
    refine G.block ?_
    have hpr : val ds * x < 65536 ^ 16 := by rw [hdv]; exact pw_room hx (by omega)
    refine G.fit [0, 1, 5, 6, 7, 8] (M' := [(0, .int .u64 (x : Int)), (1, .int .i64 (((n - m) : Nat) : Int)), (5, .slice A_ ds.length c_), (6, .slice (some ⟨p26, 0, none⟩) 0 0), (7, .int .u64 0), (8, .int .i64 0)]) (by kernel_rfl) ?_
    refine G.loop (X := Nat × Nat × List Nat × Option Addr × Nat) (fun ⟨i, cy, xs, X_, d_⟩ => [(0, .int .u64 (x : Int)), (1, .int .i64 (((n - m) : Nat) : Int)), (5, .slice A_ ds.length c_), (6, .slice X_ i d_), (7, .int .u64 (cy : Int)), (8, .int .i64 (i : Int))]) (fun ⟨i, cy, xs, X_, d_⟩ w_ => (xs.length = i ∧ ok16 xs ∧ cy < 137438953472 ∧ i ≤ 16 ∧ val xs + 65536 ^ i * cy = val (ds.take i) * x) ∧ Hp w [] [.row A_ ds.length c_ 64 1 (dg ds), .row X_ i d_ 64 1 (dg xs)] w_) (fun ⟨i, cy, xs, X_, d_⟩ => 16 - i) ⟨0, 0, [], (some ⟨p26, 0, none⟩), 0⟩ [0, 1, 5, 6, 7, 8] (by kernel_rfl) ⟨⟨rfl, ok_nil, by decide, by omega, by rw [List.take_zero]; simp [val]⟩, H29⟩ ?_
    rintro ⟨i, cy, xs, X_, d_⟩ w36 ⟨hi37, H38⟩
    refine G.eq (M' := [(0, .int .u64 (x : Int)), (1, .int .i64 (((n - m) : Nat) : Int)), (5, .slice A_ ds.length c_), (6, .slice X_ i d_), (7, .int .u64 (cy : Int)), (8, .int .i64 (i : Int))]) rfl ?_
    have H38 : Hp w [] [.row A_ ds.length c_ 64 1 (dg ds), .row X_ i d_ 64 1 (dg xs)] w36 := H38
    obtain ⟨hxl, hxok, hcy, hi16, hxv⟩ := hi37
    refine G.seqK fun K39 hK40 => ?_
    refine G.seqK fun K41 hK42 => ?_
    refine G.region ?_
    refine GL.run (j := 5) 5 [0, 1, 5, 6, 7, 8, 19] [(0, .int .u64 (x : Int)), (1, .int .i64 (((n - m) : Nat) : Int)), (5, .slice A_ ds.length c_), (6, .slice X_ i d_), (7, .int .u64 (cy : Int)), (8, .int .i64 (i : Int)), (19, .bool (decide ((i : Int) < (ds.length : Int))))] (by kernel_rfl) rfl ?_
    cases hb43 : (decide ((i : Int) < (ds.length : Int)))
    · skip
      have hb43f := of_decide_eq_false hb43
      refine GL.run (j := 8) 3 [0, 1, 5, 6, 7, 8, 22] [(0, .int .u64 (x : Int)), (1, .int .i64 (((n - m) : Nat) : Int)), (5, .slice A_ ds.length c_), (6, .slice X_ i d_), (7, .int .u64 (cy : Int)), (8, .int .i64 (i : Int)), (22, .bool (decide (0 < (cy : Int))))] (by kernel_rfl) rfl ?_
      refine GL.k rfl hK42 (fun _ _ h => h) ?_
      cases hb44 : (decide (0 < (cy : Int)))
      · skip
        have hb44f := of_decide_eq_false hb44
        have hcy0 : cy = 0 := by omega
        refine G.no rfl ?_
        refine G.exitK hK33 (fun _ _ h => h) ?_
        refine G.region ?_
        refine GL.run (j := 2) 2 [0, 1, 5] [(0, .int .u64 (x : Int)), (1, .int .i64 (((n - m) : Nat) : Int)), (5, .slice X_ i d_)] (by kernel_rfl) rfl ?_
        refine GL.k rfl hK23 (fun _ _ h => h) ?_
        refine G.region ?_
        refine GL.run (j := 3) 3 [0, 1, 5] [(0, .int .u64 (x : Int)), (1, .int .i64 (IntKind.i64.wrap ((((n - m) : Nat) : Int) - 1))), (5, .slice X_ i d_)] (by kernel_rfl) rfl ?_
        have e45 : (IntKind.i64.wrap ((((n - m) : Nat) : Int) - 1)) = (((n - m) - 1 : Nat) : Int) := by rw [in_i64 (by omega)]; omega
        refine GL.eq (M' := [(0, .int .u64 (x : Int)), (1, .int .i64 (((n - m) - 1 : Nat) : Int)), (5, .slice X_ i d_)]) (by rw [e45]) ?_
        clear e45
        have H46 : Hp w [] [.row X_ i d_ 64 1 (dg xs)] w36 := H38.sub (List.Sublist.cons _ (List.Sublist.cons_cons _ (List.Sublist.slnil)))
        have hxv2 : val xs = val ds * x := by rw [hcy0, Nat.mul_zero, Nat.add_zero, List.take_of_length_le (by omega)] at hxv; exact hxv
        obtain rfl := hxl
        have H47 : Hp w [] [.row X_ xs.length d_ 64 1 (dg xs)] w36 := H46
        refine GL.fit (ts := [0, 1, 5]) (M' := [(0, .int .u64 (x : Int)), (1, .int .i64 (((n - m) - 1 : Nat) : Int)), (5, .slice X_ xs.length d_)]) (by kernel_rfl) ?_
        refine GL.eq (M' := [(0, .int .u64 (x : Int)), (1, .int .i64 (((n - (m + 1)) : Nat) : Int)), (5, .slice X_ xs.length d_)]) (by rw [show n - m - 1 = n - (m + 1) by omega]) ?_
        exact GL.again ⟨(m + 1), xs, X_, d_⟩ [0, 1, 5] rfl (by kernel_rfl) (by show n - (m + 1) < n - m; omega) ⟨⟨by omega, hxok, by omega, by rw [hxv2, hdv, Nat.pow_succ]⟩, H47⟩
      · skip
        have hb44f := of_decide_eq_true hb44
        have hi15 : i < 16 := pw_in hxv hpr hdl (by omega)
        refine G.yes rfl ?_
        refine G.skipK hK40 (fun _ _ h => h) ?_
        refine G.seqK fun K48 hK49 => ?_
        refine G.block ?_
        refine G.seqK fun K50 hK51 => ?_
        refine G.seqK fun K52 hK53 => ?_
        refine G.region ?_
        refine GL.run (j := 4) 4 [0, 1, 5, 6, 7, 8, 28] [(0, .int .u64 (x : Int)), (1, .int .i64 (((n - m) : Nat) : Int)), (5, .slice A_ ds.length c_), (6, .slice X_ i d_), (7, .int .u64 (cy : Int)), (8, .int .i64 (i : Int)), (28, .bool (decide ((i : Int) < (ds.length : Int))))] (by kernel_rfl) rfl ?_
        refine GL.k rfl hK53 (fun _ _ h => h) ?_
        have hb54 : (decide ((i : Int) < (ds.length : Int))) = false := by assumption
        rw [hb54]
        refine G.no rfl ?_
        refine G.skipK hK51 (fun _ _ h => h) ?_
        refine G.seqK fun K55 hK56 => ?_
        refine G.region ?_
        refine GL.run (j := 3) 3 [0, 1, 5, 7, 8, 37, 39] [(0, .int .u64 (x : Int)), (1, .int .i64 (((n - m) : Nat) : Int)), (5, .slice A_ ds.length c_), (7, .int .u64 (cy : Int)), (8, .int .i64 (i : Int)), (37, .slice X_ i d_), (39, .int .u64 (Int.tmod (cy : Int) 65536))] (by kernel_rfl) rfl ?_
        have e57 : (Int.tmod (cy : Int) 65536) = ((cy % 65536 : Nat) : Int) := n_rem _ 65536
        refine GL.eq (M' := [(0, .int .u64 (x : Int)), (1, .int .i64 (((n - m) : Nat) : Int)), (5, .slice A_ ds.length c_), (7, .int .u64 (cy : Int)), (8, .int .i64 (i : Int)), (37, .slice X_ i d_), (39, .int .u64 ((cy % 65536 : Nat) : Int))]) (by rw [e57]) ?_
        clear e57
        obtain ⟨p58, w59, r60, H61⟩ := H38.madeRow (P := Try.prog) (Instr.buildSlice 72 1 #[(0, .int .u64 ((cy % 65536 : Nat) : Int))]) (fun b_ => .slice (some ⟨b_, 0, none⟩) 1 1) [.int .u64 ((cy % 65536 : Nat) : Int)] 64 1 1 1 (by kernel_rfl) (by decide) (by decide) rfl
        have H61 : Hp w [] [.row A_ ds.length c_ 64 1 (dg ds), .row X_ i d_ 64 1 (dg xs), .row (some ⟨p58, 0, none⟩) 1 1 64 1 (dg [cy % 65536])] w59 := H61
        refine GL.sem (j := 4) (r60) [0, 1, 5, 7, 8, 37, 40] [(0, .int .u64 (x : Int)), (1, .int .i64 (((n - m) : Nat) : Int)), (5, .slice A_ ds.length c_), (7, .int .u64 (cy : Int)), (8, .int .i64 (i : Int)), (37, .slice X_ i d_), (40, .slice (some ⟨p58, 0, none⟩) 1 1)] (by kernel_rfl) (by kernel_rfl) rfl ?_
        obtain ⟨A62, c63, w64, r65, H66⟩ := H61.append (P := Try.prog) (e := 64) (sz := 1) (by_ := 8) (n := i) (c := d_) (m := 1) (d := 1) (t := 72) (ty := 72) (xs := dg xs) (news := dg [cy % 65536]) 1 rfl (by kernel_rfl) (H61.rdRow 2 rfl) (by simp [dg_length]) (dg_one _) (by omega) (by simp only [maxLen]; omega)
        rw [← dg_append] at H66
        have H66 : Hp w [] [.row A_ ds.length c_ 64 1 (dg ds), .row A62 (i + 1) c63 64 1 (dg (xs ++ [cy % 65536])), .row (some ⟨p58, 0, none⟩) 1 1 64 1 (dg [cy % 65536])] w64 := H66
        refine GL.sem (j := 5) (r65) [0, 1, 5, 7, 8, 41] [(0, .int .u64 (x : Int)), (1, .int .i64 (((n - m) : Nat) : Int)), (5, .slice A_ ds.length c_), (7, .int .u64 (cy : Int)), (8, .int .i64 (i : Int)), (41, .slice A62 (i + 1) c63)] (by kernel_rfl) (by kernel_rfl) rfl ?_
        refine GL.run (j := 6) 1 [0, 1, 5, 6, 7, 8] [(0, .int .u64 (x : Int)), (1, .int .i64 (((n - m) : Nat) : Int)), (5, .slice A_ ds.length c_), (6, .slice A62 (i + 1) c63), (7, .int .u64 (cy : Int)), (8, .int .i64 (i : Int))] (by kernel_rfl) rfl ?_
        refine GL.k rfl hK56 (fun _ _ h => h) ?_
        refine G.region ?_
        refine GL.run (j := 3) 3 [0, 1, 5, 6, 7, 8] [(0, .int .u64 (x : Int)), (1, .int .i64 (((n - m) : Nat) : Int)), (5, .slice A_ ds.length c_), (6, .slice A62 (i + 1) c63), (7, .int .u64 (IntKind.u64.wrap (Int.tdiv (cy : Int) 65536))), (8, .int .i64 (i : Int))] (by kernel_rfl) rfl ?_
        have e67 : (IntKind.u64.wrap (Int.tdiv (cy : Int) 65536)) = ((cy / 65536 : Nat) : Int) := n_quo 65536 (by omega)
        refine GL.eq (M' := [(0, .int .u64 (x : Int)), (1, .int .i64 (((n - m) : Nat) : Int)), (5, .slice A_ ds.length c_), (6, .slice A62 (i + 1) c63), (7, .int .u64 ((cy / 65536 : Nat) : Int)), (8, .int .i64 (i : Int))]) (by rw [e67]) ?_
        clear e67
        refine GL.k rfl hK49 (fun _ _ h => h) ?_
        refine G.region ?_
        refine GL.run (j := 3) 3 [0, 1, 5, 6, 7, 8] [(0, .int .u64 (x : Int)), (1, .int .i64 (((n - m) : Nat) : Int)), (5, .slice A_ ds.length c_), (6, .slice A62 (i + 1) c63), (7, .int .u64 ((cy / 65536 : Nat) : Int)), (8, .int .i64 (IntKind.i64.wrap ((i : Int) + 1)))] (by kernel_rfl) rfl ?_
        have e68 : (IntKind.i64.wrap ((i : Int) + 1)) = ((i + 1 : Nat) : Int) := by rw [in_i64 (by omega)]; omega
        refine GL.eq (M' := [(0, .int .u64 (x : Int)), (1, .int .i64 (((n - m) : Nat) : Int)), (5, .slice A_ ds.length c_), (6, .slice A62 (i + 1) c63), (7, .int .u64 ((cy / 65536 : Nat) : Int)), (8, .int .i64 ((i + 1 : Nat) : Int))]) (by rw [e68]) ?_
        clear e68
        have H69 : Hp w [] [.row A_ ds.length c_ 64 1 (dg ds), .row A62 (i + 1) c63 64 1 (dg (xs ++ [cy % 65536]))] w64 := H66.sub (List.Sublist.cons_cons _ (List.Sublist.cons_cons _ (List.Sublist.cons _ (List.Sublist.slnil))))
        refine GL.fit (ts := [0, 1, 5, 6, 7, 8]) (M' := [(0, .int .u64 (x : Int)), (1, .int .i64 (((n - m) : Nat) : Int)), (5, .slice A_ ds.length c_), (6, .slice A62 (i + 1) c63), (7, .int .u64 ((cy / 65536 : Nat) : Int)), (8, .int .i64 ((i + 1 : Nat) : Int))]) (by kernel_rfl) ?_
        refine GL.eq (M' := [(0, .int .u64 (x : Int)), (1, .int .i64 (((n - m) : Nat) : Int)), (5, .slice A_ ds.length c_), (6, .slice A62 (i + 1) c63), (7, .int .u64 ((cy / 65536 : Nat) : Int)), (8, .int .i64 (((i + 1) : Nat) : Int))]) (by rfl) ?_
        exact GL.again ⟨(i + 1), cy / 65536, (xs ++ [cy % 65536]), A62, c63⟩ [0, 1, 5, 6, 7, 8] rfl (by kernel_rfl) (by show 16 - (i + 1) < 16 - i; omega) ⟨⟨by rw [List.length_append, hxl]; rfl, ok_snoc hxok (Nat.mod_lt _ (by decide)), by omega, by omega, pw_round hxl hxv ((show ds.getD i 0 = 0 by rw [List.getD_eq_getElem?_getD, List.getElem?_eq_none (by omega)]; rfl)) ((by rw [Nat.zero_mul]; rfl))⟩, H69⟩
    · skip
      have hb43f := of_decide_eq_true hb43
      have hi15 : i < 16 := pw_in hxv hpr hdl (by omega)
      refine GL.run (j := 8) 3 [0, 1, 5, 6, 7, 8, 22] [(0, .int .u64 (x : Int)), (1, .int .i64 (((n - m) : Nat) : Int)), (5, .slice A_ ds.length c_), (6, .slice X_ i d_), (7, .int .u64 (cy : Int)), (8, .int .i64 (i : Int)), (22, .bool true)] (by kernel_rfl) rfl ?_
      refine GL.k rfl hK42 (fun _ _ h => h) ?_
      refine G.yes rfl ?_
      refine G.skipK hK40 (fun _ _ h => h) ?_
      refine G.seqK fun K70 hK71 => ?_
      refine G.block ?_
      refine G.seqK fun K72 hK73 => ?_
      refine G.seqK fun K74 hK75 => ?_
      refine G.region ?_
      refine GL.run (j := 4) 4 [0, 1, 5, 6, 7, 8, 28] [(0, .int .u64 (x : Int)), (1, .int .i64 (((n - m) : Nat) : Int)), (5, .slice A_ ds.length c_), (6, .slice X_ i d_), (7, .int .u64 (cy : Int)), (8, .int .i64 (i : Int)), (28, .bool (decide ((i : Int) < (ds.length : Int))))] (by kernel_rfl) rfl ?_
      refine GL.k rfl hK75 (fun _ _ h => h) ?_
      have hb76 : (decide ((i : Int) < (ds.length : Int))) = true := by assumption
      rw [hb76]
      have hi15 : i < 16 := pw_in hxv hpr hdl (by omega)
      refine G.yes rfl ?_
      refine G.region ?_
      refine GL.run (j := 3) 3 [0, 1, 5, 6, 8, 29, 30, 31] [(0, .int .u64 (x : Int)), (1, .int .i64 (((n - m) : Nat) : Int)), (5, .slice A_ ds.length c_), (6, .slice X_ i d_), (8, .int .i64 (i : Int)), (29, .int .u64 (cy : Int)), (30, .slice A_ ds.length c_), (31, .int .i64 (i : Int))] (by kernel_rfl) rfl ?_
      refine GL.sem (j := 4) (run_idxRd (P := Try.prog) (k := .i64) (t := 72) (A := A_) (len := ds.length) (cap := c_) (j := i) (by kernel_rfl) rfl (H38.rdRow 0 rfl) (by first | exact dg_length _ | rw [dg_length]; first | rfl | assumption | (symm; assumption) | (simp; done) | (rw [List.length_take]; omega) | omega) (by first | rfl | omega | (simp only [List.length_cons, List.length_nil, List.length_drop, List.length_take, List.length_append] <;> omega))) [0, 1, 5, 6, 8, 29, 32] [(0, .int .u64 (x : Int)), (1, .int .i64 (((n - m) : Nat) : Int)), (5, .slice A_ ds.length c_), (6, .slice X_ i d_), (8, .int .i64 (i : Int)), (29, .int .u64 (cy : Int)), (32, .pointer (Option.map (fun x => Addr.add x i) A_))] (by kernel_rfl) (by kernel_rfl) rfl ?_
      obtain ⟨d77, hd78⟩ : ∃ d : Nat, (ds)[i]? = some d := ⟨_, List.getElem?_eq_getElem (by omega)⟩
      have hpc := pw_carry hx hcy (ok_at hdok hd78)
      refine GL.sem (j := 5) (run_ldRd (P := Try.prog) (ty := 64) (A := A_) (j := i) (v := .int .u64 (d77 : Int)) (by kernel_rfl) (H38.rdRow 0 rfl) (dg_at hd78)) [0, 1, 5, 6, 8, 29, 33] [(0, .int .u64 (x : Int)), (1, .int .i64 (((n - m) : Nat) : Int)), (5, .slice A_ ds.length c_), (6, .slice X_ i d_), (8, .int .i64 (i : Int)), (29, .int .u64 (cy : Int)), (33, .int .u64 (d77 : Int))] (by kernel_rfl) (by kernel_rfl) rfl ?_
      refine GL.run (j := 9) 4 [0, 1, 5, 6, 7, 8] [(0, .int .u64 (x : Int)), (1, .int .i64 (((n - m) : Nat) : Int)), (5, .slice A_ ds.length c_), (6, .slice X_ i d_), (7, .int .u64 (IntKind.u64.wrap ((cy : Int) + (IntKind.u64.wrap ((d77 : Int) * (x : Int)))))), (8, .int .i64 (i : Int))] (by kernel_rfl) rfl ?_
      have e79 : (IntKind.u64.wrap ((d77 : Int) * (x : Int))) = ((d77 * x : Nat) : Int) := n_mul' (a := d77) (b := x) (by omega)
      have e80 : (IntKind.u64.wrap ((cy : Int) + ((d77 * x : Nat) : Int))) = ((cy + (d77 * x) : Nat) : Int) := n_add' (a := cy) (b := (d77 * x)) (by omega)
      refine GL.eq (M' := [(0, .int .u64 (x : Int)), (1, .int .i64 (((n - m) : Nat) : Int)), (5, .slice A_ ds.length c_), (6, .slice X_ i d_), (7, .int .u64 ((cy + (d77 * x) : Nat) : Int)), (8, .int .i64 (i : Int))]) (by rw [e79, e80]) ?_
      clear e79 e80
      refine GL.k rfl hK73 (fun _ _ h => h) ?_
      refine G.seqK fun K81 hK82 => ?_
      refine G.region ?_
      refine GL.run (j := 3) 3 [0, 1, 5, 7, 8, 37, 39] [(0, .int .u64 (x : Int)), (1, .int .i64 (((n - m) : Nat) : Int)), (5, .slice A_ ds.length c_), (7, .int .u64 ((cy + (d77 * x) : Nat) : Int)), (8, .int .i64 (i : Int)), (37, .slice X_ i d_), (39, .int .u64 (Int.tmod ((cy + (d77 * x) : Nat) : Int) 65536))] (by kernel_rfl) rfl ?_
      have e83 : (Int.tmod ((cy + (d77 * x) : Nat) : Int) 65536) = (((cy + (d77 * x)) % 65536 : Nat) : Int) := n_rem _ 65536
      refine GL.eq (M' := [(0, .int .u64 (x : Int)), (1, .int .i64 (((n - m) : Nat) : Int)), (5, .slice A_ ds.length c_), (7, .int .u64 ((cy + (d77 * x) : Nat) : Int)), (8, .int .i64 (i : Int)), (37, .slice X_ i d_), (39, .int .u64 (((cy + (d77 * x)) % 65536 : Nat) : Int))]) (by rw [e83]) ?_
      clear e83
      obtain ⟨p84, w85, r86, H87⟩ := H38.madeRow (P := Try.prog) (Instr.buildSlice 72 1 #[(0, .int .u64 (((cy + (d77 * x)) % 65536 : Nat) : Int))]) (fun b_ => .slice (some ⟨b_, 0, none⟩) 1 1) [.int .u64 (((cy + (d77 * x)) % 65536 : Nat) : Int)] 64 1 1 1 (by kernel_rfl) (by decide) (by decide) rfl
      have H87 : Hp w [] [.row A_ ds.length c_ 64 1 (dg ds), .row X_ i d_ 64 1 (dg xs), .row (some ⟨p84, 0, none⟩) 1 1 64 1 (dg [(cy + (d77 * x)) % 65536])] w85 := H87
      refine GL.sem (j := 4) (r86) [0, 1, 5, 7, 8, 37, 40] [(0, .int .u64 (x : Int)), (1, .int .i64 (((n - m) : Nat) : Int)), (5, .slice A_ ds.length c_), (7, .int .u64 ((cy + (d77 * x) : Nat) : Int)), (8, .int .i64 (i : Int)), (37, .slice X_ i d_), (40, .slice (some ⟨p84, 0, none⟩) 1 1)] (by kernel_rfl) (by kernel_rfl) rfl ?_
      obtain ⟨A88, c89, w90, r91, H92⟩ := H87.append (P := Try.prog) (e := 64) (sz := 1) (by_ := 8) (n := i) (c := d_) (m := 1) (d := 1) (t := 72) (ty := 72) (xs := dg xs) (news := dg [(cy + (d77 * x)) % 65536]) 1 rfl (by kernel_rfl) (H87.rdRow 2 rfl) (by simp [dg_length]) (dg_one _) (by omega) (by simp only [maxLen]; omega)
      rw [← dg_append] at H92
      have H92 : Hp w [] [.row A_ ds.length c_ 64 1 (dg ds), .row A88 (i + 1) c89 64 1 (dg (xs ++ [(cy + (d77 * x)) % 65536])), .row (some ⟨p84, 0, none⟩) 1 1 64 1 (dg [(cy + (d77 * x)) % 65536])] w90 := H92
      refine GL.sem (j := 5) (r91) [0, 1, 5, 7, 8, 41] [(0, .int .u64 (x : Int)), (1, .int .i64 (((n - m) : Nat) : Int)), (5, .slice A_ ds.length c_), (7, .int .u64 ((cy + (d77 * x) : Nat) : Int)), (8, .int .i64 (i : Int)), (41, .slice A88 (i + 1) c89)] (by kernel_rfl) (by kernel_rfl) rfl ?_
      refine GL.run (j := 6) 1 [0, 1, 5, 6, 7, 8] [(0, .int .u64 (x : Int)), (1, .int .i64 (((n - m) : Nat) : Int)), (5, .slice A_ ds.length c_), (6, .slice A88 (i + 1) c89), (7, .int .u64 ((cy + (d77 * x) : Nat) : Int)), (8, .int .i64 (i : Int))] (by kernel_rfl) rfl ?_
      refine GL.k rfl hK82 (fun _ _ h => h) ?_
      refine G.region ?_
      refine GL.run (j := 3) 3 [0, 1, 5, 6, 7, 8] [(0, .int .u64 (x : Int)), (1, .int .i64 (((n - m) : Nat) : Int)), (5, .slice A_ ds.length c_), (6, .slice A88 (i + 1) c89), (7, .int .u64 (IntKind.u64.wrap (Int.tdiv ((cy + (d77 * x) : Nat) : Int) 65536))), (8, .int .i64 (i : Int))] (by kernel_rfl) rfl ?_
      have e93 : (IntKind.u64.wrap (Int.tdiv ((cy + (d77 * x) : Nat) : Int) 65536)) = (((cy + (d77 * x)) / 65536 : Nat) : Int) := n_quo 65536 (by omega)
      refine GL.eq (M' := [(0, .int .u64 (x : Int)), (1, .int .i64 (((n - m) : Nat) : Int)), (5, .slice A_ ds.length c_), (6, .slice A88 (i + 1) c89), (7, .int .u64 (((cy + (d77 * x)) / 65536 : Nat) : Int)), (8, .int .i64 (i : Int))]) (by rw [e93]) ?_
      clear e93
      refine GL.k rfl hK71 (fun _ _ h => h) ?_
      refine G.region ?_
      refine GL.run (j := 3) 3 [0, 1, 5, 6, 7, 8] [(0, .int .u64 (x : Int)), (1, .int .i64 (((n - m) : Nat) : Int)), (5, .slice A_ ds.length c_), (6, .slice A88 (i + 1) c89), (7, .int .u64 (((cy + (d77 * x)) / 65536 : Nat) : Int)), (8, .int .i64 (IntKind.i64.wrap ((i : Int) + 1)))] (by kernel_rfl) rfl ?_
      have e94 : (IntKind.i64.wrap ((i : Int) + 1)) = ((i + 1 : Nat) : Int) := by rw [in_i64 (by omega)]; omega
      refine GL.eq (M' := [(0, .int .u64 (x : Int)), (1, .int .i64 (((n - m) : Nat) : Int)), (5, .slice A_ ds.length c_), (6, .slice A88 (i + 1) c89), (7, .int .u64 (((cy + (d77 * x)) / 65536 : Nat) : Int)), (8, .int .i64 ((i + 1 : Nat) : Int))]) (by rw [e94]) ?_
      clear e94
      have H95 : Hp w [] [.row A_ ds.length c_ 64 1 (dg ds), .row A88 (i + 1) c89 64 1 (dg (xs ++ [(cy + (d77 * x)) % 65536]))] w90 := H92.sub (List.Sublist.cons_cons _ (List.Sublist.cons_cons _ (List.Sublist.cons _ (List.Sublist.slnil))))
      refine GL.fit (ts := [0, 1, 5, 6, 7, 8]) (M' := [(0, .int .u64 (x : Int)), (1, .int .i64 (((n - m) : Nat) : Int)), (5, .slice A_ ds.length c_), (6, .slice A88 (i + 1) c89), (7, .int .u64 (((cy + (d77 * x)) / 65536 : Nat) : Int)), (8, .int .i64 ((i + 1 : Nat) : Int))]) (by kernel_rfl) ?_
      refine GL.eq (M' := [(0, .int .u64 (x : Int)), (1, .int .i64 (((n - m) : Nat) : Int)), (5, .slice A_ ds.length c_), (6, .slice A88 (i + 1) c89), (7, .int .u64 (((cy + (d77 * x)) / 65536 : Nat) : Int)), (8, .int .i64 (((i + 1) : Nat) : Int))]) (by rfl) ?_
      exact GL.again ⟨(i + 1), (cy + (d77 * x)) / 65536, (xs ++ [(cy + (d77 * x)) % 65536]), A88, c89⟩ [0, 1, 5, 6, 7, 8] rfl (by kernel_rfl) (by show 16 - (i + 1) < 16 - i; omega) ⟨⟨by rw [List.length_append, hxl]; rfl, ok_snoc hxok (Nat.mod_lt _ (by decide)), hpc.2, by omega, pw_round hxl hxv ((by rw [List.getD_eq_getElem?_getD, hd78]; rfl)) (rfl)⟩, H95⟩
theorem Root2_calls (p : Nat) (hp : p < 65536) (w : World) : Calls Try.prog 38 #[.int .u64 (p : Int), .int .i64 2] w fun e w' => e = .returned (.int .u32 ((rootS p 2 36 % W32 : Nat) : Int)) ∧ Hp w [] [] w' := by
  have hMX : MX = 4611686018427387904 := rfl
  have hK0 : K = 18446744073709551616 := rfl
  have hK40 : K4 = 115792089237316195423570985008687907853269984665640564039457584007913129639936 := rfl
  refine calls_G (args := [.int .u64 (p : Int), .int .i64 2]) Try.func38 rfl Try.ntmps38 rfl ?_
  intro Q0 hRet hNor hPan
  have H := Hp.start w
  have H : Hp w [] [] w := H
  refine G.seqK fun K1 hK2 => ?_
  refine G.region ?_
  refine GL.run (j := 1) 1 [0, 1] [(0, .int .u64 (p : Int)), (1, .int .i64 2)] (by kernel_rfl) rfl ?_
  refine GL.k rfl hK2 (fun _ _ h => h) ?_
  refine G.seqK fun K3 hK4 => ?_
  refine G.region ?_
  refine GL.run (j := 2) 2 [0, 1, 12] [(0, .int .u64 (p : Int)), (1, .int .i64 2), (12, .int .i64 4)] (by kernel_rfl) rfl ?_
  obtain ⟨p5, w6, r7, H8⟩ := H.makeD (P := Try.prog) (t := 72) (e := 64) (n := 4) (kl := .i64) (kc := .i64) (by kernel_rfl) (by omega)
  have H8 : Hp w [] [.row (some ⟨p5, 0, none⟩) 4 4 64 1 (dg (List.replicate 4 0))] w6 := H8
  refine GL.sem (j := 3) (r7) [0, 1, 13] [(0, .int .u64 (p : Int)), (1, .int .i64 2), (13, .slice (some ⟨p5, 0, none⟩) 4 4)] (by kernel_rfl) (by kernel_rfl) rfl ?_
  refine GL.run (j := 4) 1 [1, 13, 14] [(1, .int .i64 2), (13, .slice (some ⟨p5, 0, none⟩) 4 4), (14, .int .u64 (p : Int))] (by kernel_rfl) rfl ?_
  obtain ⟨p9, w10, r11, H12⟩ := H8.madeRow (P := Try.prog) (Instr.buildSlice 72 1 #[(0, .int .u64 (p : Int))]) (fun b_ => .slice (some ⟨b_, 0, none⟩) 1 1) [.int .u64 (p : Int)] 64 1 1 1 (by kernel_rfl) (by decide) (by decide) rfl
  have H12 : Hp w [] [.row (some ⟨p5, 0, none⟩) 4 4 64 1 (dg (List.replicate 4 0)), .row (some ⟨p9, 0, none⟩) 1 1 64 1 (dg [p])] w10 := H12
  refine GL.sem (j := 5) (r11) [1, 13, 15] [(1, .int .i64 2), (13, .slice (some ⟨p5, 0, none⟩) 4 4), (15, .slice (some ⟨p9, 0, none⟩) 1 1)] (by kernel_rfl) (by kernel_rfl) rfl ?_
  obtain ⟨A13, c14, w15, r16, H17⟩ := H12.append (P := Try.prog) (e := 64) (sz := 1) (by_ := 8) (n := 4) (c := 4) (m := 1) (d := 1) (t := 72) (ty := 72) (xs := dg (List.replicate 4 0)) (news := dg [p]) 0 rfl (by kernel_rfl) (H12.rdRow 1 rfl) (by simp [dg_length]) (dg_one _) (by omega) (by simp only [maxLen]; omega)
  rw [← dg_append] at H17
  have H17 : Hp w [] [.row A13 (4 + 1) c14 64 1 (dg ((List.replicate 4 0) ++ [p])), .row (some ⟨p9, 0, none⟩) 1 1 64 1 (dg [p])] w15 := H17
  refine GL.sem (j := 6) (r16) [1, 16] [(1, .int .i64 2), (16, .slice A13 (4 + 1) c14)] (by kernel_rfl) (by kernel_rfl) rfl ?_
  refine GL.run (j := 7) 1 [1, 5] [(1, .int .i64 2), (5, .slice A13 (4 + 1) c14)] (by kernel_rfl) rfl ?_
  refine GL.k rfl hK4 (fun _ _ h => h) ?_
  refine G.seqK fun K18 hK19 => ?_
  refine G.region ?_
  refine GL.run (j := 1) 1 [1, 5, 6] [(1, .int .i64 2), (5, .slice A13 (4 + 1) c14), (6, .int .u64 0)] (by kernel_rfl) rfl ?_
  refine GL.k rfl hK19 (fun _ _ h => h) ?_
  refine G.seqK fun K20 hK21 => ?_
  refine G.seqK fun K22 hK23 => ?_
  refine G.region ?_
  refine GL.run (j := 1) 1 [1, 5, 6, 7] [(1, .int .i64 2), (5, .slice A13 (4 + 1) c14), (6, .int .u64 0), (7, .int .i64 35)] (by kernel_rfl) rfl ?_
  refine GL.k rfl hK23 (fun _ _ h => h) ?_
  refine G.block ?_
  have hWok : ok16 ((List.replicate 4 0) ++ [p]) := fun d hd => (List.mem_append.1 hd).elim (fun hd => by rw [(List.mem_replicate.1 hd).2]; decide) (fun hd => by rw [List.mem_singleton.1 hd]; exact hp)
  have hWl : ((List.replicate 4 0) ++ [p]).length = 5 := by rw [List.length_append, List.length_replicate]; rfl
  have hWv : val ((List.replicate 4 0) ++ [p]) = p * 65536 ^ (2 * 2) := by rw [val_append, val_zeros, List.length_replicate, Nat.zero_add, Nat.mul_comm]; show (p + 65536 * 0) * _ = _; rw [Nat.mul_zero, Nat.add_zero]
  refine G.fit [1, 5, 6, 7] (M' := [(1, .int .i64 2), (5, .slice A13 (4 + 1) c14), (6, .int .u64 0), (7, .int .i64 35)]) (by kernel_rfl) ?_
  refine G.eq (M' := [(1, .int .i64 2), (5, .slice A13 (4 + 1) c14), (6, .int .u64 0), (7, .int .i64 (35 - ((0 : Nat) : Int)))]) (by rfl) ?_
  refine G.loop (X := Nat × Nat) (fun ⟨j, x⟩ => [(1, .int .i64 2), (5, .slice A13 (4 + 1) c14), (6, .int .u64 (x : Int)), (7, .int .i64 (35 - (j : Int)))]) (fun ⟨j, x⟩ w_ => (j ≤ 36 ∧ x = rootS p 2 j) ∧ Hp w [] [.row A13 (4 + 1) c14 64 1 (dg ((List.replicate 4 0) ++ [p])), .row (some ⟨p9, 0, none⟩) 1 1 64 1 (dg [p])] w_) (fun ⟨j, x⟩ => 36 - j) ⟨0, 0⟩ [1, 5, 6, 7] (by kernel_rfl) ⟨⟨by omega, rfl⟩, H17⟩ ?_
  rintro ⟨j, x⟩ w24 ⟨hi25, H26⟩
  refine G.eq (M' := [(1, .int .i64 2), (5, .slice A13 (4 + 1) c14), (6, .int .u64 (x : Int)), (7, .int .i64 (35 - (j : Int)))]) rfl ?_
  have H26 : Hp w [] [.row A13 (4 + 1) c14 64 1 (dg ((List.replicate 4 0) ++ [p])), .row (some ⟨p9, 0, none⟩) 1 1 64 1 (dg [p])] w24 := H26
  obtain ⟨hj36, hxj⟩ := hi25
  refine G.seqK fun K27 hK28 => ?_
  refine G.seqK fun K29 hK30 => ?_
  refine G.region ?_
  refine GL.run (j := 2) 2 [1, 5, 6, 7, 18] [(1, .int .i64 2), (5, .slice A13 (4 + 1) c14), (6, .int .u64 (x : Int)), (7, .int .i64 (35 - (j : Int))), (18, .bool (decide (0 ≤ (35 - (j : Int)))))] (by kernel_rfl) rfl ?_
  refine GL.k rfl hK30 (fun _ _ h => h) ?_
  cases hb31 : (decide (0 ≤ (35 - (j : Int))))
  · skip
    have hb31f := of_decide_eq_false hb31
    refine G.no rfl ?_
    refine G.exitK hK21 (fun _ _ h => h) ?_
    refine G.seqK fun K32 hK33 => ?_
    refine G.region ?_
    refine GL.run (j := 3) 3 [4] [(4, .int .u32 (IntKind.u32.wrap (x : Int)))] (by kernel_rfl) rfl ?_
    have e34 : (IntKind.u32.wrap (x : Int)) = (((x % W32) : Nat) : Int) := w_u32 _
    refine GL.eq (M' := [(4, .int .u32 (((x % W32) : Nat) : Int))]) (by rw [e34]) ?_
    clear e34
    refine GL.k rfl hK33 (fun _ _ h => h) ?_
    refine G.ret ?_
    intro F_ hF_ hM_
    refine hRet _ _ (bodyPost_1 rfl (RV.tmp rfl) ?_ F_ hF_ hM_)
    rw [show rootS p 2 36 = x by rw [hxj, show j = 36 by omega]]
    exact ⟨rfl, H26.sub (List.nil_sublist _)⟩
  · skip
    have hb31f := of_decide_eq_true hb31
    have ei : (35 - (j : Int)) = ((35 - j : Nat) : Int) := by omega
    refine G.eq (M' := [(1, .int .i64 2), (5, .slice A13 (4 + 1) c14), (6, .int .u64 (x : Int)), (7, .int .i64 (((35 - j) : Nat) : Int)), (18, .bool true)]) (by rw [ei]) ?_
    have hroom : x + 2 ^ (35 - j) < 68719476736 := by rw [hxj]; exact rootS_room (by omega)
    have h2p : 2 ^ (35 - j) ≤ 68719476736 := by omega
    refine G.yes rfl ?_
    refine G.skipK hK28 (fun _ _ h => h) ?_
    refine G.seqK fun K35 hK36 => ?_
    refine G.block ?_
    refine G.seqK fun K37 hK38 => ?_
    refine G.region ?_
    refine GL.run (j := 2) 2 [1, 5, 6, 7, 21, 22] [(1, .int .i64 2), (5, .slice A13 (4 + 1) c14), (6, .int .u64 (x : Int)), (7, .int .i64 (((35 - j) : Nat) : Int)), (21, .int .u64 (x : Int)), (22, .int .i64 (((35 - j) : Nat) : Int))] (by kernel_rfl) rfl ?_
    refine GL.sem (j := 3) (run_shl1 (P := Try.prog) (k' := .i64) (t := 64) (r := (35 - j)) (by omega) _) [1, 5, 6, 7, 21, 23] [(1, .int .i64 2), (5, .slice A13 (4 + 1) c14), (6, .int .u64 (x : Int)), (7, .int .i64 (((35 - j) : Nat) : Int)), (21, .int .u64 (x : Int)), (23, .int .u64 (((2 ^ (35 - j)) : Nat) : Int))] (by kernel_rfl) (by kernel_rfl) rfl ?_
    refine GL.run (j := 5) 2 [1, 5, 6, 7, 24, 25] [(1, .int .i64 2), (5, .slice A13 (4 + 1) c14), (6, .int .u64 (x : Int)), (7, .int .i64 (((35 - j) : Nat) : Int)), (24, .int .u64 (IntKind.u64.wrap ((x : Int) + (((2 ^ (35 - j)) : Nat) : Int)))), (25, .int .i64 2)] (by kernel_rfl) rfl ?_
    have e39 : (IntKind.u64.wrap ((x : Int) + (((2 ^ (35 - j)) : Nat) : Int))) = ((x + 2 ^ (35 - j) : Nat) : Int) := n_add' (a := x) (b := 2 ^ (35 - j)) (by omega)
    refine GL.eq (M' := [(1, .int .i64 2), (5, .slice A13 (4 + 1) c14), (6, .int .u64 (x : Int)), (7, .int .i64 (((35 - j) : Nat) : Int)), (24, .int .u64 ((x + 2 ^ (35 - j) : Nat) : Int)), (25, .int .i64 2)]) (by rw [e39]) ?_
    clear e39
    refine GL.call (j := 6) (Power_calls (x + 2 ^ (35 - j)) 2 (by omega) (by omega) w24) (by kernel_rfl) rfl (fun e_ w44 hR => ?_)
    obtain ⟨ds, A40, c41, rfl, H43, hdok, hdl, hdv⟩ := hR
    have H42 : Hp w [] [.row A13 (4 + 1) c14 64 1 (dg ((List.replicate 4 0) ++ [p])), .row (some ⟨p9, 0, none⟩) 1 1 64 1 (dg [p]), .row A40 ds.length c41 64 1 (dg ds)] w44 := H26.callNew H43
    refine ⟨_, rfl, [1, 5, 6, 7, 26], [(1, .int .i64 2), (5, .slice A13 (4 + 1) c14), (6, .int .u64 (x : Int)), (7, .int .i64 (((35 - j) : Nat) : Int)), (26, .slice A40 ds.length c41)], by kernel_rfl, ?_⟩
    refine GL.run (j := 7) 1 [1, 5, 6, 7, 8] [(1, .int .i64 2), (5, .slice A13 (4 + 1) c14), (6, .int .u64 (x : Int)), (7, .int .i64 (((35 - j) : Nat) : Int)), (8, .slice A40 ds.length c41)] (by kernel_rfl) rfl ?_
    refine GL.k rfl hK38 (fun _ _ h => h) ?_
    refine G.seqK fun K45 hK46 => ?_
    refine G.region ?_
    refine GL.run (j := 1) 1 [1, 5, 6, 7, 8, 9] [(1, .int .i64 2), (5, .slice A13 (4 + 1) c14), (6, .int .u64 (x : Int)), (7, .int .i64 (((35 - j) : Nat) : Int)), (8, .slice A40 ds.length c41), (9, .bool false)] (by kernel_rfl) rfl ?_
    refine GL.k rfl hK46 (fun _ _ h => h) ?_
    refine G.seqK fun K47 hK48 => ?_
    refine G.seqK fun K49 hK50 => ?_
    refine G.region ?_
    refine GL.run (j := 1) 1 [1, 5, 6, 7, 8, 9, 10] [(1, .int .i64 2), (5, .slice A13 (4 + 1) c14), (6, .int .u64 (x : Int)), (7, .int .i64 (((35 - j) : Nat) : Int)), (8, .slice A40 ds.length c41), (9, .bool false), (10, .int .i64 0)] (by kernel_rfl) rfl ?_
    refine GL.k rfl hK50 (fun _ _ h => h) ?_
    refine G.block ?_
    refine G.fit [1, 5, 6, 7, 8, 9, 10] (M' := [(1, .int .i64 2), (5, .slice A13 (4 + 1) c14), (6, .int .u64 (x : Int)), (7, .int .i64 (((35 - j) : Nat) : Int)), (8, .slice A40 ds.length c41), (9, .bool false), (10, .int .i64 0)]) (by kernel_rfl) ?_
    refine G.loop (X := Nat × Bool) (fun ⟨i, o⟩ => [(1, .int .i64 2), (5, .slice A13 (4 + 1) c14), (6, .int .u64 (x : Int)), (7, .int .i64 (((35 - j) : Nat) : Int)), (8, .slice A40 ds.length c41), (9, .bool o), (10, .int .i64 (i : Int))]) (fun ⟨i, o⟩ w_ => (i ≤ 16 ∧ o = decide (val (((List.replicate 4 0) ++ [p]).take i) < val (ds.take i))) ∧ Hp w [] [.row A13 (4 + 1) c14 64 1 (dg ((List.replicate 4 0) ++ [p])), .row (some ⟨p9, 0, none⟩) 1 1 64 1 (dg [p]), .row A40 ds.length c41 64 1 (dg ds)] w_) (fun ⟨i, o⟩ => 16 - i) ⟨0, false⟩ [1, 5, 6, 7, 8, 9, 10] (by kernel_rfl) ⟨⟨by omega, by rw [List.take_zero, List.take_zero]; exact (decide_eq_false (Nat.lt_irrefl _)).symm⟩, H42⟩ ?_
    rintro ⟨i, o⟩ w51 ⟨hi52, H53⟩
    refine G.eq (M' := [(1, .int .i64 2), (5, .slice A13 (4 + 1) c14), (6, .int .u64 (x : Int)), (7, .int .i64 (((35 - j) : Nat) : Int)), (8, .slice A40 ds.length c41), (9, .bool o), (10, .int .i64 (i : Int))]) rfl ?_
    have H53 : Hp w [] [.row A13 (4 + 1) c14 64 1 (dg ((List.replicate 4 0) ++ [p])), .row (some ⟨p9, 0, none⟩) 1 1 64 1 (dg [p]), .row A40 ds.length c41 64 1 (dg ds)] w51 := H53
    obtain ⟨hi16, hov⟩ := hi52
    refine G.seqK fun K54 hK55 => ?_
    refine G.seqK fun K56 hK57 => ?_
    refine G.region ?_
    refine GL.run (j := 2) 2 [1, 5, 6, 7, 8, 9, 10, 28] [(1, .int .i64 2), (5, .slice A13 (4 + 1) c14), (6, .int .u64 (x : Int)), (7, .int .i64 (((35 - j) : Nat) : Int)), (8, .slice A40 ds.length c41), (9, .bool o), (10, .int .i64 (i : Int)), (28, .bool (decide ((i : Int) < 16)))] (by kernel_rfl) rfl ?_
    refine GL.k rfl hK57 (fun _ _ h => h) ?_
    cases hb58 : (decide ((i : Int) < 16))
    · skip
      have hb58f := of_decide_eq_false hb58
      refine G.no rfl ?_
      refine G.exitK hK48 (fun _ _ h => h) ?_
      refine G.seqK fun K59 hK60 => ?_
      refine G.region ?_
      refine GL.run (j := 2) 2 [1, 5, 6, 7, 46] [(1, .int .i64 2), (5, .slice A13 (4 + 1) c14), (6, .int .u64 (x : Int)), (7, .int .i64 (((35 - j) : Nat) : Int)), (46, .bool (!o))] (by kernel_rfl) rfl ?_
      refine GL.k rfl hK60 (fun _ _ h => h) ?_
      rcases (Bool.eq_false_or_eq_true o).symm with hb61 | hb61
      · skip
        refine G.eq (M' := [(1, .int .i64 2), (5, .slice A13 (4 + 1) c14), (6, .int .u64 (x : Int)), (7, .int .i64 (((35 - j) : Nat) : Int)), (46, .bool true)]) (by first | (rw [hb61]; done) | (rw [hb61]; rfl)) ?_
        refine G.yes rfl ?_
        refine G.region ?_
        refine GL.run (j := 2) 2 [1, 5, 7, 47, 48] [(1, .int .i64 2), (5, .slice A13 (4 + 1) c14), (7, .int .i64 (((35 - j) : Nat) : Int)), (47, .int .u64 (x : Int)), (48, .int .i64 (((35 - j) : Nat) : Int))] (by kernel_rfl) rfl ?_
        refine GL.sem (j := 3) (run_shl1 (P := Try.prog) (k' := .i64) (t := 64) (r := (35 - j)) (by omega) _) [1, 5, 7, 47, 49] [(1, .int .i64 2), (5, .slice A13 (4 + 1) c14), (7, .int .i64 (((35 - j) : Nat) : Int)), (47, .int .u64 (x : Int)), (49, .int .u64 (((2 ^ (35 - j)) : Nat) : Int))] (by kernel_rfl) (by kernel_rfl) rfl ?_
        refine GL.run (j := 5) 2 [1, 5, 6, 7] [(1, .int .i64 2), (5, .slice A13 (4 + 1) c14), (6, .int .u64 (IntKind.u64.wrap ((x : Int) + (((2 ^ (35 - j)) : Nat) : Int)))), (7, .int .i64 (((35 - j) : Nat) : Int))] (by kernel_rfl) rfl ?_
        have e62 : (IntKind.u64.wrap ((x : Int) + (((2 ^ (35 - j)) : Nat) : Int))) = ((x + 2 ^ (35 - j) : Nat) : Int) := n_add' (a := x) (b := 2 ^ (35 - j)) (by omega)
        refine GL.eq (M' := [(1, .int .i64 2), (5, .slice A13 (4 + 1) c14), (6, .int .u64 ((x + 2 ^ (35 - j) : Nat) : Int)), (7, .int .i64 (((35 - j) : Nat) : Int))]) (by rw [e62]) ?_
        clear e62
        refine GL.k rfl hK36 (fun _ _ h => h) ?_
        refine G.region ?_
        refine GL.run (j := 3) 3 [1, 5, 6, 7] [(1, .int .i64 2), (5, .slice A13 (4 + 1) c14), (6, .int .u64 ((x + 2 ^ (35 - j) : Nat) : Int)), (7, .int .i64 (IntKind.i64.wrap ((((35 - j) : Nat) : Int) - 1)))] (by kernel_rfl) rfl ?_
        have e63 : (IntKind.i64.wrap ((((35 - j) : Nat) : Int) - 1)) = (34 - (j : Int)) := by rw [in_i64 (by omega)]; omega
        refine GL.eq (M' := [(1, .int .i64 2), (5, .slice A13 (4 + 1) c14), (6, .int .u64 ((x + 2 ^ (35 - j) : Nat) : Int)), (7, .int .i64 (34 - (j : Int)))]) (by rw [e63]) ?_
        clear e63
        have H64 : Hp w [] [.row A13 (4 + 1) c14 64 1 (dg ((List.replicate 4 0) ++ [p])), .row (some ⟨p9, 0, none⟩) 1 1 64 1 (dg [p])] w51 := H53.sub (List.Sublist.cons_cons _ (List.Sublist.cons_cons _ (List.Sublist.cons _ (List.Sublist.slnil))))
        have hcmp : o = decide (p * 65536 ^ (2 * 2) < (x + 2 ^ (35 - j)) ^ 2) := by rw [hov, show i = 16 by omega, List.take_of_length_le (by omega), List.take_of_length_le (by omega), hWv, hdv]
        have hroot : rootS p 2 (j + 1) = (x + 2 ^ (35 - j)) := by rw [rootS, ← hxj, if_pos (by have := of_decide_eq_false (hcmp.symm.trans hb61); omega)]
        refine GL.fit (ts := [1, 5, 6, 7]) (M' := [(1, .int .i64 2), (5, .slice A13 (4 + 1) c14), (6, .int .u64 ((x + 2 ^ (35 - j) : Nat) : Int)), (7, .int .i64 (34 - (j : Int)))]) (by kernel_rfl) ?_
        refine GL.eq (M' := [(1, .int .i64 2), (5, .slice A13 (4 + 1) c14), (6, .int .u64 (((x + 2 ^ (35 - j)) : Nat) : Int)), (7, .int .i64 (35 - (((j + 1) : Nat) : Int)))]) (by rw [show (34 - (j : Int)) = 35 - ((j + 1 : Nat) : Int) by omega]) ?_
        exact GL.again ⟨(j + 1), (x + 2 ^ (35 - j))⟩ [1, 5, 6, 7] rfl (by kernel_rfl) (by show 36 - (j + 1) < 36 - j; omega) ⟨⟨by omega, hroot.symm⟩, H64⟩
      · skip
        refine G.eq (M' := [(1, .int .i64 2), (5, .slice A13 (4 + 1) c14), (6, .int .u64 (x : Int)), (7, .int .i64 (((35 - j) : Nat) : Int)), (46, .bool false)]) (by first | (rw [hb61]; done) | (rw [hb61]; rfl)) ?_
        refine G.no rfl ?_
        refine G.skipK hK36 (fun _ _ h => h) ?_
        refine G.region ?_
        refine GL.run (j := 3) 3 [1, 5, 6, 7] [(1, .int .i64 2), (5, .slice A13 (4 + 1) c14), (6, .int .u64 (x : Int)), (7, .int .i64 (IntKind.i64.wrap ((((35 - j) : Nat) : Int) - 1)))] (by kernel_rfl) rfl ?_
        have e65 : (IntKind.i64.wrap ((((35 - j) : Nat) : Int) - 1)) = (34 - (j : Int)) := by rw [in_i64 (by omega)]; omega
        refine GL.eq (M' := [(1, .int .i64 2), (5, .slice A13 (4 + 1) c14), (6, .int .u64 (x : Int)), (7, .int .i64 (34 - (j : Int)))]) (by rw [e65]) ?_
        clear e65
        have H66 : Hp w [] [.row A13 (4 + 1) c14 64 1 (dg ((List.replicate 4 0) ++ [p])), .row (some ⟨p9, 0, none⟩) 1 1 64 1 (dg [p])] w51 := H53.sub (List.Sublist.cons_cons _ (List.Sublist.cons_cons _ (List.Sublist.cons _ (List.Sublist.slnil))))
        have hcmp : o = decide (p * 65536 ^ (2 * 2) < (x + 2 ^ (35 - j)) ^ 2) := by rw [hov, show i = 16 by omega, List.take_of_length_le (by omega), List.take_of_length_le (by omega), hWv, hdv]
        have hroot : rootS p 2 (j + 1) = x := by rw [rootS, ← hxj, if_neg (by have := of_decide_eq_true (hcmp.symm.trans hb61); omega)]
        refine GL.fit (ts := [1, 5, 6, 7]) (M' := [(1, .int .i64 2), (5, .slice A13 (4 + 1) c14), (6, .int .u64 (x : Int)), (7, .int .i64 (34 - (j : Int)))]) (by kernel_rfl) ?_
        refine GL.eq (M' := [(1, .int .i64 2), (5, .slice A13 (4 + 1) c14), (6, .int .u64 (x : Int)), (7, .int .i64 (35 - (((j + 1) : Nat) : Int)))]) (by rw [show (34 - (j : Int)) = 35 - ((j + 1 : Nat) : Int) by omega]) ?_
        exact GL.again ⟨(j + 1), x⟩ [1, 5, 6, 7] rfl (by kernel_rfl) (by show 36 - (j + 1) < 36 - j; omega) ⟨⟨by omega, hroot.symm⟩, H66⟩
    · skip
      have hb58f := of_decide_eq_true hb58
      refine G.yes rfl ?_
      refine G.skipK hK55 (fun _ _ h => h) ?_
      refine G.seqK fun K67 hK68 => ?_
      refine G.block ?_
      refine G.seqK fun K69 hK70 => ?_
      refine G.region ?_
      refine GL.run (j := 2) 2 [1, 5, 6, 7, 8, 9, 10, 31, 32] [(1, .int .i64 2), (5, .slice A13 (4 + 1) c14), (6, .int .u64 (x : Int)), (7, .int .i64 (((35 - j) : Nat) : Int)), (8, .slice A40 ds.length c41), (9, .bool o), (10, .int .i64 (i : Int)), (31, .slice A40 ds.length c41), (32, .int .i64 (i : Int))] (by kernel_rfl) rfl ?_
      refine GL.call (j := 3) (Digit_calls ds i ds.length A40 c41 w51 (H53.rdRow 2 rfl) (rfl)) (by kernel_rfl) rfl (fun e_ w71 hR => ?_)
      obtain ⟨rfl, H73⟩ := hR
      have H72 : Hp w [] [.row A13 (4 + 1) c14 64 1 (dg ((List.replicate 4 0) ++ [p])), .row (some ⟨p9, 0, none⟩) 1 1 64 1 (dg [p]), .row A40 ds.length c41 64 1 (dg ds)] w71 := H53.callNil H73
      refine ⟨_, rfl, [1, 5, 6, 7, 8, 9, 10, 33], [(1, .int .i64 2), (5, .slice A13 (4 + 1) c14), (6, .int .u64 (x : Int)), (7, .int .i64 (((35 - j) : Nat) : Int)), (8, .slice A40 ds.length c41), (9, .bool o), (10, .int .i64 (i : Int)), (33, .int .u64 (((ds.getD i 0) : Nat) : Int))], by kernel_rfl, ?_⟩
      refine GL.run (j := 5) 2 [1, 5, 6, 7, 8, 9, 10, 33, 34, 35] [(1, .int .i64 2), (5, .slice A13 (4 + 1) c14), (6, .int .u64 (x : Int)), (7, .int .i64 (((35 - j) : Nat) : Int)), (8, .slice A40 ds.length c41), (9, .bool o), (10, .int .i64 (i : Int)), (33, .int .u64 (((ds.getD i 0) : Nat) : Int)), (34, .slice A13 (4 + 1) c14), (35, .int .i64 (i : Int))] (by kernel_rfl) rfl ?_
      refine GL.call (j := 6) (Digit_calls ((List.replicate 4 0) ++ [p]) i (4 + 1) A13 c14 w71 (H72.rdRow 0 rfl) (by omega)) (by kernel_rfl) rfl (fun e_ w74 hR => ?_)
      obtain ⟨rfl, H76⟩ := hR
      have H75 : Hp w [] [.row A13 (4 + 1) c14 64 1 (dg ((List.replicate 4 0) ++ [p])), .row (some ⟨p9, 0, none⟩) 1 1 64 1 (dg [p]), .row A40 ds.length c41 64 1 (dg ds)] w74 := H72.callNil H76
      refine ⟨_, rfl, [1, 5, 6, 7, 8, 9, 10, 33, 36], [(1, .int .i64 2), (5, .slice A13 (4 + 1) c14), (6, .int .u64 (x : Int)), (7, .int .i64 (((35 - j) : Nat) : Int)), (8, .slice A40 ds.length c41), (9, .bool o), (10, .int .i64 (i : Int)), (33, .int .u64 (((ds.getD i 0) : Nat) : Int)), (36, .int .u64 (((((List.replicate 4 0) ++ [p]).getD i 0) : Nat) : Int))], by kernel_rfl, ?_⟩
      refine GL.run (j := 7) 1 [1, 5, 6, 7, 8, 9, 10, 37] [(1, .int .i64 2), (5, .slice A13 (4 + 1) c14), (6, .int .u64 (x : Int)), (7, .int .i64 (((35 - j) : Nat) : Int)), (8, .slice A40 ds.length c41), (9, .bool o), (10, .int .i64 (i : Int)), (37, .bool ((((ds.getD i 0) : Nat) : Int) != (((((List.replicate 4 0) ++ [p]).getD i 0) : Nat) : Int)))] (by kernel_rfl) rfl ?_
      refine GL.k rfl hK70 (fun _ _ h => h) ?_
      cases hb77 : ((((ds.getD i 0) : Nat) : Int) != (((((List.replicate 4 0) ++ [p]).getD i 0) : Nat) : Int))
      · skip
        have hb77f : (((ds.getD i 0) : Nat) : Int) = (((((List.replicate 4 0) ++ [p]).getD i 0) : Nat) : Int) := bne_eq_false_iff_eq.1 hb77
        refine G.no rfl ?_
        refine G.skipK hK68 (fun _ _ h => h) ?_
        refine G.region ?_
        refine GL.run (j := 3) 3 [1, 5, 6, 7, 8, 9, 10] [(1, .int .i64 2), (5, .slice A13 (4 + 1) c14), (6, .int .u64 (x : Int)), (7, .int .i64 (((35 - j) : Nat) : Int)), (8, .slice A40 ds.length c41), (9, .bool o), (10, .int .i64 (IntKind.i64.wrap ((i : Int) + 1)))] (by kernel_rfl) rfl ?_
        have e78 : (IntKind.i64.wrap ((i : Int) + 1)) = ((i + 1 : Nat) : Int) := by rw [in_i64 (by omega)]; omega
        refine GL.eq (M' := [(1, .int .i64 2), (5, .slice A13 (4 + 1) c14), (6, .int .u64 (x : Int)), (7, .int .i64 (((35 - j) : Nat) : Int)), (8, .slice A40 ds.length c41), (9, .bool o), (10, .int .i64 ((i + 1 : Nat) : Int))]) (by rw [e78]) ?_
        clear e78
        refine GL.fit (ts := [1, 5, 6, 7, 8, 9, 10]) (M' := [(1, .int .i64 2), (5, .slice A13 (4 + 1) c14), (6, .int .u64 (x : Int)), (7, .int .i64 (((35 - j) : Nat) : Int)), (8, .slice A40 ds.length c41), (9, .bool o), (10, .int .i64 ((i + 1 : Nat) : Int))]) (by kernel_rfl) ?_
        refine GL.eq (M' := [(1, .int .i64 2), (5, .slice A13 (4 + 1) c14), (6, .int .u64 (x : Int)), (7, .int .i64 (((35 - j) : Nat) : Int)), (8, .slice A40 ds.length c41), (9, .bool o), (10, .int .i64 (((i + 1) : Nat) : Int))]) (by rfl) ?_
        exact GL.again ⟨(i + 1), o⟩ [1, 5, 6, 7, 8, 9, 10] rfl (by kernel_rfl) (by show 16 - (i + 1) < 16 - i; omega) ⟨⟨by omega, by rw [(cmp_step (i := i) hdok hWok).2 (by omega), hov]⟩, H75⟩
      · skip
        have hb77f : (((ds.getD i 0) : Nat) : Int) ≠ (((((List.replicate 4 0) ++ [p]).getD i 0) : Nat) : Int) := bne_iff_ne.1 hb77
        refine G.yes rfl ?_
        refine G.region ?_
        refine GL.run (j := 2) 2 [1, 5, 6, 7, 8, 10, 38, 39] [(1, .int .i64 2), (5, .slice A13 (4 + 1) c14), (6, .int .u64 (x : Int)), (7, .int .i64 (((35 - j) : Nat) : Int)), (8, .slice A40 ds.length c41), (10, .int .i64 (i : Int)), (38, .slice A40 ds.length c41), (39, .int .i64 (i : Int))] (by kernel_rfl) rfl ?_
        refine GL.call (j := 3) (Digit_calls ds i ds.length A40 c41 w74 (H75.rdRow 2 rfl) (rfl)) (by kernel_rfl) rfl (fun e_ w79 hR => ?_)
        obtain ⟨rfl, H81⟩ := hR
        have H80 : Hp w [] [.row A13 (4 + 1) c14 64 1 (dg ((List.replicate 4 0) ++ [p])), .row (some ⟨p9, 0, none⟩) 1 1 64 1 (dg [p]), .row A40 ds.length c41 64 1 (dg ds)] w79 := H75.callNil H81
        refine ⟨_, rfl, [1, 5, 6, 7, 8, 10, 40], [(1, .int .i64 2), (5, .slice A13 (4 + 1) c14), (6, .int .u64 (x : Int)), (7, .int .i64 (((35 - j) : Nat) : Int)), (8, .slice A40 ds.length c41), (10, .int .i64 (i : Int)), (40, .int .u64 (((ds.getD i 0) : Nat) : Int))], by kernel_rfl, ?_⟩
        refine GL.run (j := 5) 2 [1, 5, 6, 7, 8, 10, 40, 41, 42] [(1, .int .i64 2), (5, .slice A13 (4 + 1) c14), (6, .int .u64 (x : Int)), (7, .int .i64 (((35 - j) : Nat) : Int)), (8, .slice A40 ds.length c41), (10, .int .i64 (i : Int)), (40, .int .u64 (((ds.getD i 0) : Nat) : Int)), (41, .slice A13 (4 + 1) c14), (42, .int .i64 (i : Int))] (by kernel_rfl) rfl ?_
        refine GL.call (j := 6) (Digit_calls ((List.replicate 4 0) ++ [p]) i (4 + 1) A13 c14 w79 (H80.rdRow 0 rfl) (by omega)) (by kernel_rfl) rfl (fun e_ w82 hR => ?_)
        obtain ⟨rfl, H84⟩ := hR
        have H83 : Hp w [] [.row A13 (4 + 1) c14 64 1 (dg ((List.replicate 4 0) ++ [p])), .row (some ⟨p9, 0, none⟩) 1 1 64 1 (dg [p]), .row A40 ds.length c41 64 1 (dg ds)] w82 := H80.callNil H84
        refine ⟨_, rfl, [1, 5, 6, 7, 8, 10, 40, 43], [(1, .int .i64 2), (5, .slice A13 (4 + 1) c14), (6, .int .u64 (x : Int)), (7, .int .i64 (((35 - j) : Nat) : Int)), (8, .slice A40 ds.length c41), (10, .int .i64 (i : Int)), (40, .int .u64 (((ds.getD i 0) : Nat) : Int)), (43, .int .u64 (((((List.replicate 4 0) ++ [p]).getD i 0) : Nat) : Int))], by kernel_rfl, ?_⟩
        refine GL.run (j := 8) 2 [1, 5, 6, 7, 8, 9, 10] [(1, .int .i64 2), (5, .slice A13 (4 + 1) c14), (6, .int .u64 (x : Int)), (7, .int .i64 (((35 - j) : Nat) : Int)), (8, .slice A40 ds.length c41), (9, .bool (decide ((((((List.replicate 4 0) ++ [p]).getD i 0) : Nat) : Int) < (((ds.getD i 0) : Nat) : Int)))), (10, .int .i64 (i : Int))] (by kernel_rfl) rfl ?_
        refine GL.k rfl hK68 (fun _ _ h => h) ?_
        refine G.region ?_
        refine GL.run (j := 3) 3 [1, 5, 6, 7, 8, 9, 10] [(1, .int .i64 2), (5, .slice A13 (4 + 1) c14), (6, .int .u64 (x : Int)), (7, .int .i64 (((35 - j) : Nat) : Int)), (8, .slice A40 ds.length c41), (9, .bool (decide ((((((List.replicate 4 0) ++ [p]).getD i 0) : Nat) : Int) < (((ds.getD i 0) : Nat) : Int)))), (10, .int .i64 (IntKind.i64.wrap ((i : Int) + 1)))] (by kernel_rfl) rfl ?_
        have e85 : (IntKind.i64.wrap ((i : Int) + 1)) = ((i + 1 : Nat) : Int) := by rw [in_i64 (by omega)]; omega
        refine GL.eq (M' := [(1, .int .i64 2), (5, .slice A13 (4 + 1) c14), (6, .int .u64 (x : Int)), (7, .int .i64 (((35 - j) : Nat) : Int)), (8, .slice A40 ds.length c41), (9, .bool (decide ((((((List.replicate 4 0) ++ [p]).getD i 0) : Nat) : Int) < (((ds.getD i 0) : Nat) : Int)))), (10, .int .i64 ((i + 1 : Nat) : Int))]) (by rw [e85]) ?_
        clear e85
        refine GL.fit (ts := [1, 5, 6, 7, 8, 9, 10]) (M' := [(1, .int .i64 2), (5, .slice A13 (4 + 1) c14), (6, .int .u64 (x : Int)), (7, .int .i64 (((35 - j) : Nat) : Int)), (8, .slice A40 ds.length c41), (9, .bool (decide ((((((List.replicate 4 0) ++ [p]).getD i 0) : Nat) : Int) < (((ds.getD i 0) : Nat) : Int)))), (10, .int .i64 ((i + 1 : Nat) : Int))]) (by kernel_rfl) ?_
        refine GL.eq (M' := [(1, .int .i64 2), (5, .slice A13 (4 + 1) c14), (6, .int .u64 (x : Int)), (7, .int .i64 (((35 - j) : Nat) : Int)), (8, .slice A40 ds.length c41), (9, .bool (decide ((((((List.replicate 4 0) ++ [p]).getD i 0) : Nat) : Int) < (((ds.getD i 0) : Nat) : Int)))), (10, .int .i64 (((i + 1) : Nat) : Int))]) (by rfl) ?_
        exact GL.again ⟨(i + 1), (decide ((((((List.replicate 4 0) ++ [p]).getD i 0) : Nat) : Int) < (((ds.getD i 0) : Nat) : Int)))⟩ [1, 5, 6, 7, 8, 9, 10] rfl (by kernel_rfl) (by show 16 - (i + 1) < 16 - i; omega) ⟨⟨by omega, by rw [(cmp_step (i := i) hdok hWok).1 (by omega), decide_eq_decide]; omega⟩, H83⟩
theorem Root3_calls (p : Nat) (hp : p < 65536) (w : World) : Calls Try.prog 38 #[.int .u64 (p : Int), .int .i64 3] w fun e w' => e = .returned (.int .u32 ((rootS p 3 36 % W32 : Nat) : Int)) ∧ Hp w [] [] w' := by
  have hMX : MX = 4611686018427387904 := rfl
  have hK0 : K = 18446744073709551616 := rfl
  have hK40 : K4 = 115792089237316195423570985008687907853269984665640564039457584007913129639936 := rfl
  refine calls_G (args := [.int .u64 (p : Int), .int .i64 3]) Try.func38 rfl Try.ntmps38 rfl ?_
  intro Q0 hRet hNor hPan
  have H := Hp.start w
  have H : Hp w [] [] w := H
  refine G.seqK fun K1 hK2 => ?_
  refine G.region ?_
  refine GL.run (j := 1) 1 [0, 1] [(0, .int .u64 (p : Int)), (1, .int .i64 3)] (by kernel_rfl) rfl ?_
  refine GL.k rfl hK2 (fun _ _ h => h) ?_
  refine G.seqK fun K3 hK4 => ?_
  refine G.region ?_
  refine GL.run (j := 2) 2 [0, 1, 12] [(0, .int .u64 (p : Int)), (1, .int .i64 3), (12, .int .i64 6)] (by kernel_rfl) rfl ?_
  obtain ⟨p5, w6, r7, H8⟩ := H.makeD (P := Try.prog) (t := 72) (e := 64) (n := 6) (kl := .i64) (kc := .i64) (by kernel_rfl) (by omega)
  have H8 : Hp w [] [.row (some ⟨p5, 0, none⟩) 6 6 64 1 (dg (List.replicate 6 0))] w6 := H8
  refine GL.sem (j := 3) (r7) [0, 1, 13] [(0, .int .u64 (p : Int)), (1, .int .i64 3), (13, .slice (some ⟨p5, 0, none⟩) 6 6)] (by kernel_rfl) (by kernel_rfl) rfl ?_
  refine GL.run (j := 4) 1 [1, 13, 14] [(1, .int .i64 3), (13, .slice (some ⟨p5, 0, none⟩) 6 6), (14, .int .u64 (p : Int))] (by kernel_rfl) rfl ?_
  obtain ⟨p9, w10, r11, H12⟩ := H8.madeRow (P := Try.prog) (Instr.buildSlice 72 1 #[(0, .int .u64 (p : Int))]) (fun b_ => .slice (some ⟨b_, 0, none⟩) 1 1) [.int .u64 (p : Int)] 64 1 1 1 (by kernel_rfl) (by decide) (by decide) rfl
  have H12 : Hp w [] [.row (some ⟨p5, 0, none⟩) 6 6 64 1 (dg (List.replicate 6 0)), .row (some ⟨p9, 0, none⟩) 1 1 64 1 (dg [p])] w10 := H12
  refine GL.sem (j := 5) (r11) [1, 13, 15] [(1, .int .i64 3), (13, .slice (some ⟨p5, 0, none⟩) 6 6), (15, .slice (some ⟨p9, 0, none⟩) 1 1)] (by kernel_rfl) (by kernel_rfl) rfl ?_
  obtain ⟨A13, c14, w15, r16, H17⟩ := H12.append (P := Try.prog) (e := 64) (sz := 1) (by_ := 8) (n := 6) (c := 6) (m := 1) (d := 1) (t := 72) (ty := 72) (xs := dg (List.replicate 6 0)) (news := dg [p]) 0 rfl (by kernel_rfl) (H12.rdRow 1 rfl) (by simp [dg_length]) (dg_one _) (by omega) (by simp only [maxLen]; omega)
  rw [← dg_append] at H17
  have H17 : Hp w [] [.row A13 (6 + 1) c14 64 1 (dg ((List.replicate 6 0) ++ [p])), .row (some ⟨p9, 0, none⟩) 1 1 64 1 (dg [p])] w15 := H17
  refine GL.sem (j := 6) (r16) [1, 16] [(1, .int .i64 3), (16, .slice A13 (6 + 1) c14)] (by kernel_rfl) (by kernel_rfl) rfl ?_
  refine GL.run (j := 7) 1 [1, 5] [(1, .int .i64 3), (5, .slice A13 (6 + 1) c14)] (by kernel_rfl) rfl ?_
  refine GL.k rfl hK4 (fun _ _ h => h) ?_
  refine G.seqK fun K18 hK19 => ?_
  refine G.region ?_
  refine GL.run (j := 1) 1 [1, 5, 6] [(1, .int .i64 3), (5, .slice A13 (6 + 1) c14), (6, .int .u64 0)] (by kernel_rfl) rfl ?_
  refine GL.k rfl hK19 (fun _ _ h => h) ?_
  refine G.seqK fun K20 hK21 => ?_
  refine G.seqK fun K22 hK23 => ?_
  refine G.region ?_
  refine GL.run (j := 1) 1 [1, 5, 6, 7] [(1, .int .i64 3), (5, .slice A13 (6 + 1) c14), (6, .int .u64 0), (7, .int .i64 35)] (by kernel_rfl) rfl ?_
  refine GL.k rfl hK23 (fun _ _ h => h) ?_
  refine G.block ?_
  have hWok : ok16 ((List.replicate 6 0) ++ [p]) := fun d hd => (List.mem_append.1 hd).elim (fun hd => by rw [(List.mem_replicate.1 hd).2]; decide) (fun hd => by rw [List.mem_singleton.1 hd]; exact hp)
  have hWl : ((List.replicate 6 0) ++ [p]).length = 7 := by rw [List.length_append, List.length_replicate]; rfl
  have hWv : val ((List.replicate 6 0) ++ [p]) = p * 65536 ^ (2 * 3) := by rw [val_append, val_zeros, List.length_replicate, Nat.zero_add, Nat.mul_comm]; show (p + 65536 * 0) * _ = _; rw [Nat.mul_zero, Nat.add_zero]
  refine G.fit [1, 5, 6, 7] (M' := [(1, .int .i64 3), (5, .slice A13 (6 + 1) c14), (6, .int .u64 0), (7, .int .i64 35)]) (by kernel_rfl) ?_
  refine G.eq (M' := [(1, .int .i64 3), (5, .slice A13 (6 + 1) c14), (6, .int .u64 0), (7, .int .i64 (35 - ((0 : Nat) : Int)))]) (by rfl) ?_
  refine G.loop (X := Nat × Nat) (fun ⟨j, x⟩ => [(1, .int .i64 3), (5, .slice A13 (6 + 1) c14), (6, .int .u64 (x : Int)), (7, .int .i64 (35 - (j : Int)))]) (fun ⟨j, x⟩ w_ => (j ≤ 36 ∧ x = rootS p 3 j) ∧ Hp w [] [.row A13 (6 + 1) c14 64 1 (dg ((List.replicate 6 0) ++ [p])), .row (some ⟨p9, 0, none⟩) 1 1 64 1 (dg [p])] w_) (fun ⟨j, x⟩ => 36 - j) ⟨0, 0⟩ [1, 5, 6, 7] (by kernel_rfl) ⟨⟨by omega, rfl⟩, H17⟩ ?_
  rintro ⟨j, x⟩ w24 ⟨hi25, H26⟩
  refine G.eq (M' := [(1, .int .i64 3), (5, .slice A13 (6 + 1) c14), (6, .int .u64 (x : Int)), (7, .int .i64 (35 - (j : Int)))]) rfl ?_
  have H26 : Hp w [] [.row A13 (6 + 1) c14 64 1 (dg ((List.replicate 6 0) ++ [p])), .row (some ⟨p9, 0, none⟩) 1 1 64 1 (dg [p])] w24 := H26
  obtain ⟨hj36, hxj⟩ := hi25
  refine G.seqK fun K27 hK28 => ?_
  refine G.seqK fun K29 hK30 => ?_
  refine G.region ?_
  refine GL.run (j := 2) 2 [1, 5, 6, 7, 18] [(1, .int .i64 3), (5, .slice A13 (6 + 1) c14), (6, .int .u64 (x : Int)), (7, .int .i64 (35 - (j : Int))), (18, .bool (decide (0 ≤ (35 - (j : Int)))))] (by kernel_rfl) rfl ?_
  refine GL.k rfl hK30 (fun _ _ h => h) ?_
  cases hb31 : (decide (0 ≤ (35 - (j : Int))))
  · skip
    have hb31f := of_decide_eq_false hb31
    refine G.no rfl ?_
    refine G.exitK hK21 (fun _ _ h => h) ?_
    refine G.seqK fun K32 hK33 => ?_
    refine G.region ?_
    refine GL.run (j := 3) 3 [4] [(4, .int .u32 (IntKind.u32.wrap (x : Int)))] (by kernel_rfl) rfl ?_
    have e34 : (IntKind.u32.wrap (x : Int)) = (((x % W32) : Nat) : Int) := w_u32 _
    refine GL.eq (M' := [(4, .int .u32 (((x % W32) : Nat) : Int))]) (by rw [e34]) ?_
    clear e34
    refine GL.k rfl hK33 (fun _ _ h => h) ?_
    refine G.ret ?_
    intro F_ hF_ hM_
    refine hRet _ _ (bodyPost_1 rfl (RV.tmp rfl) ?_ F_ hF_ hM_)
    rw [show rootS p 3 36 = x by rw [hxj, show j = 36 by omega]]
    exact ⟨rfl, H26.sub (List.nil_sublist _)⟩
  · skip
    have hb31f := of_decide_eq_true hb31
    have ei : (35 - (j : Int)) = ((35 - j : Nat) : Int) := by omega
    refine G.eq (M' := [(1, .int .i64 3), (5, .slice A13 (6 + 1) c14), (6, .int .u64 (x : Int)), (7, .int .i64 (((35 - j) : Nat) : Int)), (18, .bool true)]) (by rw [ei]) ?_
    have hroom : x + 2 ^ (35 - j) < 68719476736 := by rw [hxj]; exact rootS_room (by omega)
    have h2p : 2 ^ (35 - j) ≤ 68719476736 := by omega
    refine G.yes rfl ?_
    refine G.skipK hK28 (fun _ _ h => h) ?_
    refine G.seqK fun K35 hK36 => ?_
    refine G.block ?_
    refine G.seqK fun K37 hK38 => ?_
    refine G.region ?_
    refine GL.run (j := 2) 2 [1, 5, 6, 7, 21, 22] [(1, .int .i64 3), (5, .slice A13 (6 + 1) c14), (6, .int .u64 (x : Int)), (7, .int .i64 (((35 - j) : Nat) : Int)), (21, .int .u64 (x : Int)), (22, .int .i64 (((35 - j) : Nat) : Int))] (by kernel_rfl) rfl ?_
    refine GL.sem (j := 3) (run_shl1 (P := Try.prog) (k' := .i64) (t := 64) (r := (35 - j)) (by omega) _) [1, 5, 6, 7, 21, 23] [(1, .int .i64 3), (5, .slice A13 (6 + 1) c14), (6, .int .u64 (x : Int)), (7, .int .i64 (((35 - j) : Nat) : Int)), (21, .int .u64 (x : Int)), (23, .int .u64 (((2 ^ (35 - j)) : Nat) : Int))] (by kernel_rfl) (by kernel_rfl) rfl ?_
    refine GL.run (j := 5) 2 [1, 5, 6, 7, 24, 25] [(1, .int .i64 3), (5, .slice A13 (6 + 1) c14), (6, .int .u64 (x : Int)), (7, .int .i64 (((35 - j) : Nat) : Int)), (24, .int .u64 (IntKind.u64.wrap ((x : Int) + (((2 ^ (35 - j)) : Nat) : Int)))), (25, .int .i64 3)] (by kernel_rfl) rfl ?_
    have e39 : (IntKind.u64.wrap ((x : Int) + (((2 ^ (35 - j)) : Nat) : Int))) = ((x + 2 ^ (35 - j) : Nat) : Int) := n_add' (a := x) (b := 2 ^ (35 - j)) (by omega)
    refine GL.eq (M' := [(1, .int .i64 3), (5, .slice A13 (6 + 1) c14), (6, .int .u64 (x : Int)), (7, .int .i64 (((35 - j) : Nat) : Int)), (24, .int .u64 ((x + 2 ^ (35 - j) : Nat) : Int)), (25, .int .i64 3)]) (by rw [e39]) ?_
    clear e39
    refine GL.call (j := 6) (Power_calls (x + 2 ^ (35 - j)) 3 (by omega) (by omega) w24) (by kernel_rfl) rfl (fun e_ w44 hR => ?_)
    obtain ⟨ds, A40, c41, rfl, H43, hdok, hdl, hdv⟩ := hR
    have H42 : Hp w [] [.row A13 (6 + 1) c14 64 1 (dg ((List.replicate 6 0) ++ [p])), .row (some ⟨p9, 0, none⟩) 1 1 64 1 (dg [p]), .row A40 ds.length c41 64 1 (dg ds)] w44 := H26.callNew H43
    refine ⟨_, rfl, [1, 5, 6, 7, 26], [(1, .int .i64 3), (5, .slice A13 (6 + 1) c14), (6, .int .u64 (x : Int)), (7, .int .i64 (((35 - j) : Nat) : Int)), (26, .slice A40 ds.length c41)], by kernel_rfl, ?_⟩
    refine GL.run (j := 7) 1 [1, 5, 6, 7, 8] [(1, .int .i64 3), (5, .slice A13 (6 + 1) c14), (6, .int .u64 (x : Int)), (7, .int .i64 (((35 - j) : Nat) : Int)), (8, .slice A40 ds.length c41)] (by kernel_rfl) rfl ?_
    refine GL.k rfl hK38 (fun _ _ h => h) ?_
    refine G.seqK fun K45 hK46 => ?_
    refine G.region ?_
    refine GL.run (j := 1) 1 [1, 5, 6, 7, 8, 9] [(1, .int .i64 3), (5, .slice A13 (6 + 1) c14), (6, .int .u64 (x : Int)), (7, .int .i64 (((35 - j) : Nat) : Int)), (8, .slice A40 ds.length c41), (9, .bool false)] (by kernel_rfl) rfl ?_
    refine GL.k rfl hK46 (fun _ _ h => h) ?_
    refine G.seqK fun K47 hK48 => ?_
    refine G.seqK fun K49 hK50 => ?_
    refine G.region ?_
    refine GL.run (j := 1) 1 [1, 5, 6, 7, 8, 9, 10] [(1, .int .i64 3), (5, .slice A13 (6 + 1) c14), (6, .int .u64 (x : Int)), (7, .int .i64 (((35 - j) : Nat) : Int)), (8, .slice A40 ds.length c41), (9, .bool false), (10, .int .i64 0)] (by kernel_rfl) rfl ?_
    refine GL.k rfl hK50 (fun _ _ h => h) ?_
    refine G.block ?_
    refine G.fit [1, 5, 6, 7, 8, 9, 10] (M' := [(1, .int .i64 3), (5, .slice A13 (6 + 1) c14), (6, .int .u64 (x : Int)), (7, .int .i64 (((35 - j) : Nat) : Int)), (8, .slice A40 ds.length c41), (9, .bool false), (10, .int .i64 0)]) (by kernel_rfl) ?_
    refine G.loop (X := Nat × Bool) (fun ⟨i, o⟩ => [(1, .int .i64 3), (5, .slice A13 (6 + 1) c14), (6, .int .u64 (x : Int)), (7, .int .i64 (((35 - j) : Nat) : Int)), (8, .slice A40 ds.length c41), (9, .bool o), (10, .int .i64 (i : Int))]) (fun ⟨i, o⟩ w_ => (i ≤ 16 ∧ o = decide (val (((List.replicate 6 0) ++ [p]).take i) < val (ds.take i))) ∧ Hp w [] [.row A13 (6 + 1) c14 64 1 (dg ((List.replicate 6 0) ++ [p])), .row (some ⟨p9, 0, none⟩) 1 1 64 1 (dg [p]), .row A40 ds.length c41 64 1 (dg ds)] w_) (fun ⟨i, o⟩ => 16 - i) ⟨0, false⟩ [1, 5, 6, 7, 8, 9, 10] (by kernel_rfl) ⟨⟨by omega, by rw [List.take_zero, List.take_zero]; exact (decide_eq_false (Nat.lt_irrefl _)).symm⟩, H42⟩ ?_
    rintro ⟨i, o⟩ w51 ⟨hi52, H53⟩
    refine G.eq (M' := [(1, .int .i64 3), (5, .slice A13 (6 + 1) c14), (6, .int .u64 (x : Int)), (7, .int .i64 (((35 - j) : Nat) : Int)), (8, .slice A40 ds.length c41), (9, .bool o), (10, .int .i64 (i : Int))]) rfl ?_
    have H53 : Hp w [] [.row A13 (6 + 1) c14 64 1 (dg ((List.replicate 6 0) ++ [p])), .row (some ⟨p9, 0, none⟩) 1 1 64 1 (dg [p]), .row A40 ds.length c41 64 1 (dg ds)] w51 := H53
    obtain ⟨hi16, hov⟩ := hi52
    refine G.seqK fun K54 hK55 => ?_
    refine G.seqK fun K56 hK57 => ?_
    refine G.region ?_
    refine GL.run (j := 2) 2 [1, 5, 6, 7, 8, 9, 10, 28] [(1, .int .i64 3), (5, .slice A13 (6 + 1) c14), (6, .int .u64 (x : Int)), (7, .int .i64 (((35 - j) : Nat) : Int)), (8, .slice A40 ds.length c41), (9, .bool o), (10, .int .i64 (i : Int)), (28, .bool (decide ((i : Int) < 16)))] (by kernel_rfl) rfl ?_
    refine GL.k rfl hK57 (fun _ _ h => h) ?_
    cases hb58 : (decide ((i : Int) < 16))
    · skip
      have hb58f := of_decide_eq_false hb58
      refine G.no rfl ?_
      refine G.exitK hK48 (fun _ _ h => h) ?_
      refine G.seqK fun K59 hK60 => ?_
      refine G.region ?_
      refine GL.run (j := 2) 2 [1, 5, 6, 7, 46] [(1, .int .i64 3), (5, .slice A13 (6 + 1) c14), (6, .int .u64 (x : Int)), (7, .int .i64 (((35 - j) : Nat) : Int)), (46, .bool (!o))] (by kernel_rfl) rfl ?_
      refine GL.k rfl hK60 (fun _ _ h => h) ?_
      rcases (Bool.eq_false_or_eq_true o).symm with hb61 | hb61
      · skip
        refine G.eq (M' := [(1, .int .i64 3), (5, .slice A13 (6 + 1) c14), (6, .int .u64 (x : Int)), (7, .int .i64 (((35 - j) : Nat) : Int)), (46, .bool true)]) (by first | (rw [hb61]; done) | (rw [hb61]; rfl)) ?_
        refine G.yes rfl ?_
        refine G.region ?_
        refine GL.run (j := 2) 2 [1, 5, 7, 47, 48] [(1, .int .i64 3), (5, .slice A13 (6 + 1) c14), (7, .int .i64 (((35 - j) : Nat) : Int)), (47, .int .u64 (x : Int)), (48, .int .i64 (((35 - j) : Nat) : Int))] (by kernel_rfl) rfl ?_
        refine GL.sem (j := 3) (run_shl1 (P := Try.prog) (k' := .i64) (t := 64) (r := (35 - j)) (by omega) _) [1, 5, 7, 47, 49] [(1, .int .i64 3), (5, .slice A13 (6 + 1) c14), (7, .int .i64 (((35 - j) : Nat) : Int)), (47, .int .u64 (x : Int)), (49, .int .u64 (((2 ^ (35 - j)) : Nat) : Int))] (by kernel_rfl) (by kernel_rfl) rfl ?_
        refine GL.run (j := 5) 2 [1, 5, 6, 7] [(1, .int .i64 3), (5, .slice A13 (6 + 1) c14), (6, .int .u64 (IntKind.u64.wrap ((x : Int) + (((2 ^ (35 - j)) : Nat) : Int)))), (7, .int .i64 (((35 - j) : Nat) : Int))] (by kernel_rfl) rfl ?_
        have e62 : (IntKind.u64.wrap ((x : Int) + (((2 ^ (35 - j)) : Nat) : Int))) = ((x + 2 ^ (35 - j) : Nat) : Int) := n_add' (a := x) (b := 2 ^ (35 - j)) (by omega)
        refine GL.eq (M' := [(1, .int .i64 3), (5, .slice A13 (6 + 1) c14), (6, .int .u64 ((x + 2 ^ (35 - j) : Nat) : Int)), (7, .int .i64 (((35 - j) : Nat) : Int))]) (by rw [e62]) ?_
        clear e62
        refine GL.k rfl hK36 (fun _ _ h => h) ?_
        refine G.region ?_
        refine GL.run (j := 3) 3 [1, 5, 6, 7] [(1, .int .i64 3), (5, .slice A13 (6 + 1) c14), (6, .int .u64 ((x + 2 ^ (35 - j) : Nat) : Int)), (7, .int .i64 (IntKind.i64.wrap ((((35 - j) : Nat) : Int) - 1)))] (by kernel_rfl) rfl ?_
        have e63 : (IntKind.i64.wrap ((((35 - j) : Nat) : Int) - 1)) = (34 - (j : Int)) := by rw [in_i64 (by omega)]; omega
        refine GL.eq (M' := [(1, .int .i64 3), (5, .slice A13 (6 + 1) c14), (6, .int .u64 ((x + 2 ^ (35 - j) : Nat) : Int)), (7, .int .i64 (34 - (j : Int)))]) (by rw [e63]) ?_
        clear e63
        have H64 : Hp w [] [.row A13 (6 + 1) c14 64 1 (dg ((List.replicate 6 0) ++ [p])), .row (some ⟨p9, 0, none⟩) 1 1 64 1 (dg [p])] w51 := H53.sub (List.Sublist.cons_cons _ (List.Sublist.cons_cons _ (List.Sublist.cons _ (List.Sublist.slnil))))
        have hcmp : o = decide (p * 65536 ^ (2 * 3) < (x + 2 ^ (35 - j)) ^ 3) := by rw [hov, show i = 16 by omega, List.take_of_length_le (by omega), List.take_of_length_le (by omega), hWv, hdv]
        have hroot : rootS p 3 (j + 1) = (x + 2 ^ (35 - j)) := by rw [rootS, ← hxj, if_pos (by have := of_decide_eq_false (hcmp.symm.trans hb61); omega)]
        refine GL.fit (ts := [1, 5, 6, 7]) (M' := [(1, .int .i64 3), (5, .slice A13 (6 + 1) c14), (6, .int .u64 ((x + 2 ^ (35 - j) : Nat) : Int)), (7, .int .i64 (34 - (j : Int)))]) (by kernel_rfl) ?_
        refine GL.eq (M' := [(1, .int .i64 3), (5, .slice A13 (6 + 1) c14), (6, .int .u64 (((x + 2 ^ (35 - j)) : Nat) : Int)), (7, .int .i64 (35 - (((j + 1) : Nat) : Int)))]) (by rw [show (34 - (j : Int)) = 35 - ((j + 1 : Nat) : Int) by omega]) ?_
        exact GL.again ⟨(j + 1), (x + 2 ^ (35 - j))⟩ [1, 5, 6, 7] rfl (by kernel_rfl) (by show 36 - (j + 1) < 36 - j; omega) ⟨⟨by omega, hroot.symm⟩, H64⟩
      · skip
        refine G.eq (M' := [(1, .int .i64 3), (5, .slice A13 (6 + 1) c14), (6, .int .u64 (x : Int)), (7, .int .i64 (((35 - j) : Nat) : Int)), (46, .bool false)]) (by first | (rw [hb61]; done) | (rw [hb61]; rfl)) ?_
        refine G.no rfl ?_
        refine G.skipK hK36 (fun _ _ h => h) ?_
        refine G.region ?_
        refine GL.run (j := 3) 3 [1, 5, 6, 7] [(1, .int .i64 3), (5, .slice A13 (6 + 1) c14), (6, .int .u64 (x : Int)), (7, .int .i64 (IntKind.i64.wrap ((((35 - j) : Nat) : Int) - 1)))] (by kernel_rfl) rfl ?_
        have e65 : (IntKind.i64.wrap ((((35 - j) : Nat) : Int) - 1)) = (34 - (j : Int)) := by rw [in_i64 (by omega)]; omega
        refine GL.eq (M' := [(1, .int .i64 3), (5, .slice A13 (6 + 1) c14), (6, .int .u64 (x : Int)), (7, .int .i64 (34 - (j : Int)))]) (by rw [e65]) ?_
        clear e65
        have H66 : Hp w [] [.row A13 (6 + 1) c14 64 1 (dg ((List.replicate 6 0) ++ [p])), .row (some ⟨p9, 0, none⟩) 1 1 64 1 (dg [p])] w51 := H53.sub (List.Sublist.cons_cons _ (List.Sublist.cons_cons _ (List.Sublist.cons _ (List.Sublist.slnil))))
        have hcmp : o = decide (p * 65536 ^ (2 * 3) < (x + 2 ^ (35 - j)) ^ 3) := by rw [hov, show i = 16 by omega, List.take_of_length_le (by omega), List.take_of_length_le (by omega), hWv, hdv]
        have hroot : rootS p 3 (j + 1) = x := by rw [rootS, ← hxj, if_neg (by have := of_decide_eq_true (hcmp.symm.trans hb61); omega)]
        refine GL.fit (ts := [1, 5, 6, 7]) (M' := [(1, .int .i64 3), (5, .slice A13 (6 + 1) c14), (6, .int .u64 (x : Int)), (7, .int .i64 (34 - (j : Int)))]) (by kernel_rfl) ?_
        refine GL.eq (M' := [(1, .int .i64 3), (5, .slice A13 (6 + 1) c14), (6, .int .u64 (x : Int)), (7, .int .i64 (35 - (((j + 1) : Nat) : Int)))]) (by rw [show (34 - (j : Int)) = 35 - ((j + 1 : Nat) : Int) by omega]) ?_
        exact GL.again ⟨(j + 1), x⟩ [1, 5, 6, 7] rfl (by kernel_rfl) (by show 36 - (j + 1) < 36 - j; omega) ⟨⟨by omega, hroot.symm⟩, H66⟩
    · skip
      have hb58f := of_decide_eq_true hb58
      refine G.yes rfl ?_
      refine G.skipK hK55 (fun _ _ h => h) ?_
      refine G.seqK fun K67 hK68 => ?_
      refine G.block ?_
      refine G.seqK fun K69 hK70 => ?_
      refine G.region ?_
      refine GL.run (j := 2) 2 [1, 5, 6, 7, 8, 9, 10, 31, 32] [(1, .int .i64 3), (5, .slice A13 (6 + 1) c14), (6, .int .u64 (x : Int)), (7, .int .i64 (((35 - j) : Nat) : Int)), (8, .slice A40 ds.length c41), (9, .bool o), (10, .int .i64 (i : Int)), (31, .slice A40 ds.length c41), (32, .int .i64 (i : Int))] (by kernel_rfl) rfl ?_
      refine GL.call (j := 3) (Digit_calls ds i ds.length A40 c41 w51 (H53.rdRow 2 rfl) (rfl)) (by kernel_rfl) rfl (fun e_ w71 hR => ?_)
      obtain ⟨rfl, H73⟩ := hR
      have H72 : Hp w [] [.row A13 (6 + 1) c14 64 1 (dg ((List.replicate 6 0) ++ [p])), .row (some ⟨p9, 0, none⟩) 1 1 64 1 (dg [p]), .row A40 ds.length c41 64 1 (dg ds)] w71 := H53.callNil H73
      refine ⟨_, rfl, [1, 5, 6, 7, 8, 9, 10, 33], [(1, .int .i64 3), (5, .slice A13 (6 + 1) c14), (6, .int .u64 (x : Int)), (7, .int .i64 (((35 - j) : Nat) : Int)), (8, .slice A40 ds.length c41), (9, .bool o), (10, .int .i64 (i : Int)), (33, .int .u64 (((ds.getD i 0) : Nat) : Int))], by kernel_rfl, ?_⟩
      refine GL.run (j := 5) 2 [1, 5, 6, 7, 8, 9, 10, 33, 34, 35] [(1, .int .i64 3), (5, .slice A13 (6 + 1) c14), (6, .int .u64 (x : Int)), (7, .int .i64 (((35 - j) : Nat) : Int)), (8, .slice A40 ds.length c41), (9, .bool o), (10, .int .i64 (i : Int)), (33, .int .u64 (((ds.getD i 0) : Nat) : Int)), (34, .slice A13 (6 + 1) c14), (35, .int .i64 (i : Int))] (by kernel_rfl) rfl ?_
      refine GL.call (j := 6) (Digit_calls ((List.replicate 6 0) ++ [p]) i (6 + 1) A13 c14 w71 (H72.rdRow 0 rfl) (by omega)) (by kernel_rfl) rfl (fun e_ w74 hR => ?_)
      obtain ⟨rfl, H76⟩ := hR
      have H75 : Hp w [] [.row A13 (6 + 1) c14 64 1 (dg ((List.replicate 6 0) ++ [p])), .row (some ⟨p9, 0, none⟩) 1 1 64 1 (dg [p]), .row A40 ds.length c41 64 1 (dg ds)] w74 := H72.callNil H76
      refine ⟨_, rfl, [1, 5, 6, 7, 8, 9, 10, 33, 36], [(1, .int .i64 3), (5, .slice A13 (6 + 1) c14), (6, .int .u64 (x : Int)), (7, .int .i64 (((35 - j) : Nat) : Int)), (8, .slice A40 ds.length c41), (9, .bool o), (10, .int .i64 (i : Int)), (33, .int .u64 (((ds.getD i 0) : Nat) : Int)), (36, .int .u64 (((((List.replicate 6 0) ++ [p]).getD i 0) : Nat) : Int))], by kernel_rfl, ?_⟩
      refine GL.run (j := 7) 1 [1, 5, 6, 7, 8, 9, 10, 37] [(1, .int .i64 3), (5, .slice A13 (6 + 1) c14), (6, .int .u64 (x : Int)), (7, .int .i64 (((35 - j) : Nat) : Int)), (8, .slice A40 ds.length c41), (9, .bool o), (10, .int .i64 (i : Int)), (37, .bool ((((ds.getD i 0) : Nat) : Int) != (((((List.replicate 6 0) ++ [p]).getD i 0) : Nat) : Int)))] (by kernel_rfl) rfl ?_
      refine GL.k rfl hK70 (fun _ _ h => h) ?_
      cases hb77 : ((((ds.getD i 0) : Nat) : Int) != (((((List.replicate 6 0) ++ [p]).getD i 0) : Nat) : Int))
      · skip
        have hb77f : (((ds.getD i 0) : Nat) : Int) = (((((List.replicate 6 0) ++ [p]).getD i 0) : Nat) : Int) := bne_eq_false_iff_eq.1 hb77
        refine G.no rfl ?_
        refine G.skipK hK68 (fun _ _ h => h) ?_
        refine G.region ?_
        refine GL.run (j := 3) 3 [1, 5, 6, 7, 8, 9, 10] [(1, .int .i64 3), (5, .slice A13 (6 + 1) c14), (6, .int .u64 (x : Int)), (7, .int .i64 (((35 - j) : Nat) : Int)), (8, .slice A40 ds.length c41), (9, .bool o), (10, .int .i64 (IntKind.i64.wrap ((i : Int) + 1)))] (by kernel_rfl) rfl ?_
        have e78 : (IntKind.i64.wrap ((i : Int) + 1)) = ((i + 1 : Nat) : Int) := by rw [in_i64 (by omega)]; omega
        refine GL.eq (M' := [(1, .int .i64 3), (5, .slice A13 (6 + 1) c14), (6, .int .u64 (x : Int)), (7, .int .i64 (((35 - j) : Nat) : Int)), (8, .slice A40 ds.length c41), (9, .bool o), (10, .int .i64 ((i + 1 : Nat) : Int))]) (by rw [e78]) ?_
        clear e78
        refine GL.fit (ts := [1, 5, 6, 7, 8, 9, 10]) (M' := [(1, .int .i64 3), (5, .slice A13 (6 + 1) c14), (6, .int .u64 (x : Int)), (7, .int .i64 (((35 - j) : Nat) : Int)), (8, .slice A40 ds.length c41), (9, .bool o), (10, .int .i64 ((i + 1 : Nat) : Int))]) (by kernel_rfl) ?_
        refine GL.eq (M' := [(1, .int .i64 3), (5, .slice A13 (6 + 1) c14), (6, .int .u64 (x : Int)), (7, .int .i64 (((35 - j) : Nat) : Int)), (8, .slice A40 ds.length c41), (9, .bool o), (10, .int .i64 (((i + 1) : Nat) : Int))]) (by rfl) ?_
        exact GL.again ⟨(i + 1), o⟩ [1, 5, 6, 7, 8, 9, 10] rfl (by kernel_rfl) (by show 16 - (i + 1) < 16 - i; omega) ⟨⟨by omega, by rw [(cmp_step (i := i) hdok hWok).2 (by omega), hov]⟩, H75⟩
      · skip
        have hb77f : (((ds.getD i 0) : Nat) : Int) ≠ (((((List.replicate 6 0) ++ [p]).getD i 0) : Nat) : Int) := bne_iff_ne.1 hb77
        refine G.yes rfl ?_
        refine G.region ?_
        refine GL.run (j := 2) 2 [1, 5, 6, 7, 8, 10, 38, 39] [(1, .int .i64 3), (5, .slice A13 (6 + 1) c14), (6, .int .u64 (x : Int)), (7, .int .i64 (((35 - j) : Nat) : Int)), (8, .slice A40 ds.length c41), (10, .int .i64 (i : Int)), (38, .slice A40 ds.length c41), (39, .int .i64 (i : Int))] (by kernel_rfl) rfl ?_
        refine GL.call (j := 3) (Digit_calls ds i ds.length A40 c41 w74 (H75.rdRow 2 rfl) (rfl)) (by kernel_rfl) rfl (fun e_ w79 hR => ?_)
        obtain ⟨rfl, H81⟩ := hR
        have H80 : Hp w [] [.row A13 (6 + 1) c14 64 1 (dg ((List.replicate 6 0) ++ [p])), .row (some ⟨p9, 0, none⟩) 1 1 64 1 (dg [p]), .row A40 ds.length c41 64 1 (dg ds)] w79 := H75.callNil H81
        refine ⟨_, rfl, [1, 5, 6, 7, 8, 10, 40], [(1, .int .i64 3), (5, .slice A13 (6 + 1) c14), (6, .int .u64 (x : Int)), (7, .int .i64 (((35 - j) : Nat) : Int)), (8, .slice A40 ds.length c41), (10, .int .i64 (i : Int)), (40, .int .u64 (((ds.getD i 0) : Nat) : Int))], by kernel_rfl, ?_⟩
        refine GL.run (j := 5) 2 [1, 5, 6, 7, 8, 10, 40, 41, 42] [(1, .int .i64 3), (5, .slice A13 (6 + 1) c14), (6, .int .u64 (x : Int)), (7, .int .i64 (((35 - j) : Nat) : Int)), (8, .slice A40 ds.length c41), (10, .int .i64 (i : Int)), (40, .int .u64 (((ds.getD i 0) : Nat) : Int)), (41, .slice A13 (6 + 1) c14), (42, .int .i64 (i : Int))] (by kernel_rfl) rfl ?_
        refine GL.call (j := 6) (Digit_calls ((List.replicate 6 0) ++ [p]) i (6 + 1) A13 c14 w79 (H80.rdRow 0 rfl) (by omega)) (by kernel_rfl) rfl (fun e_ w82 hR => ?_)
        obtain ⟨rfl, H84⟩ := hR
        have H83 : Hp w [] [.row A13 (6 + 1) c14 64 1 (dg ((List.replicate 6 0) ++ [p])), .row (some ⟨p9, 0, none⟩) 1 1 64 1 (dg [p]), .row A40 ds.length c41 64 1 (dg ds)] w82 := H80.callNil H84
        refine ⟨_, rfl, [1, 5, 6, 7, 8, 10, 40, 43], [(1, .int .i64 3), (5, .slice A13 (6 + 1) c14), (6, .int .u64 (x : Int)), (7, .int .i64 (((35 - j) : Nat) : Int)), (8, .slice A40 ds.length c41), (10, .int .i64 (i : Int)), (40, .int .u64 (((ds.getD i 0) : Nat) : Int)), (43, .int .u64 (((((List.replicate 6 0) ++ [p]).getD i 0) : Nat) : Int))], by kernel_rfl, ?_⟩
        refine GL.run (j := 8) 2 [1, 5, 6, 7, 8, 9, 10] [(1, .int .i64 3), (5, .slice A13 (6 + 1) c14), (6, .int .u64 (x : Int)), (7, .int .i64 (((35 - j) : Nat) : Int)), (8, .slice A40 ds.length c41), (9, .bool (decide ((((((List.replicate 6 0) ++ [p]).getD i 0) : Nat) : Int) < (((ds.getD i 0) : Nat) : Int)))), (10, .int .i64 (i : Int))] (by kernel_rfl) rfl ?_
        refine GL.k rfl hK68 (fun _ _ h => h) ?_
        refine G.region ?_
        refine GL.run (j := 3) 3 [1, 5, 6, 7, 8, 9, 10] [(1, .int .i64 3), (5, .slice A13 (6 + 1) c14), (6, .int .u64 (x : Int)), (7, .int .i64 (((35 - j) : Nat) : Int)), (8, .slice A40 ds.length c41), (9, .bool (decide ((((((List.replicate 6 0) ++ [p]).getD i 0) : Nat) : Int) < (((ds.getD i 0) : Nat) : Int)))), (10, .int .i64 (IntKind.i64.wrap ((i : Int) + 1)))] (by kernel_rfl) rfl ?_
        have e85 : (IntKind.i64.wrap ((i : Int) + 1)) = ((i + 1 : Nat) : Int) := by rw [in_i64 (by omega)]; omega
        refine GL.eq (M' := [(1, .int .i64 3), (5, .slice A13 (6 + 1) c14), (6, .int .u64 (x : Int)), (7, .int .i64 (((35 - j) : Nat) : Int)), (8, .slice A40 ds.length c41), (9, .bool (decide ((((((List.replicate 6 0) ++ [p]).getD i 0) : Nat) : Int) < (((ds.getD i 0) : Nat) : Int)))), (10, .int .i64 ((i + 1 : Nat) : Int))]) (by rw [e85]) ?_
        clear e85
        refine GL.fit (ts := [1, 5, 6, 7, 8, 9, 10]) (M' := [(1, .int .i64 3), (5, .slice A13 (6 + 1) c14), (6, .int .u64 (x : Int)), (7, .int .i64 (((35 - j) : Nat) : Int)), (8, .slice A40 ds.length c41), (9, .bool (decide ((((((List.replicate 6 0) ++ [p]).getD i 0) : Nat) : Int) < (((ds.getD i 0) : Nat) : Int)))), (10, .int .i64 ((i + 1 : Nat) : Int))]) (by kernel_rfl) ?_
        refine GL.eq (M' := [(1, .int .i64 3), (5, .slice A13 (6 + 1) c14), (6, .int .u64 (x : Int)), (7, .int .i64 (((35 - j) : Nat) : Int)), (8, .slice A40 ds.length c41), (9, .bool (decide ((((((List.replicate 6 0) ++ [p]).getD i 0) : Nat) : Int) < (((ds.getD i 0) : Nat) : Int)))), (10, .int .i64 (((i + 1) : Nat) : Int))]) (by rfl) ?_
        exact GL.again ⟨(i + 1), (decide ((((((List.replicate 6 0) ++ [p]).getD i 0) : Nat) : Int) < (((ds.getD i 0) : Nat) : Int)))⟩ [1, 5, 6, 7, 8, 9, 10] rfl (by kernel_rfl) (by show 16 - (i + 1) < 16 - i; omega) ⟨⟨by omega, by rw [(cmp_step (i := i) hdok hWok).1 (by omega), decide_eq_decide]; omega⟩, H83⟩
theorem Primes_calls (w : World) : Calls Try.prog 37 #[.int .i64 64] w fun e w' => ∃ A c, e = .returned (.slice A 64 c) ∧ Hp w [] [.row A 64 c 64 1 (dg PR)] w' := by
  have hMX : MX = 4611686018427387904 := rfl
  have hK0 : K = 18446744073709551616 := rfl
  have hK40 : K4 = 115792089237316195423570985008687907853269984665640564039457584007913129639936 := rfl
  refine calls_G (args := [.int .i64 64]) Try.func37 rfl Try.ntmps37 rfl ?_
  intro Q0 hRet hNor hPan
  have H := Hp.start w
  have H : Hp w [] [] w := H
  refine G.seqK fun K1 hK2 => ?_
  refine G.region ?_
  refine GL.run (j := 1) 1 [0] [(0, .int .i64 64)] (by kernel_rfl) rfl ?_
  refine GL.k rfl hK2 (fun _ _ h => h) ?_
  refine G.seqK fun K3 hK4 => ?_
  refine G.region ?_
  obtain ⟨p5, w6, r7, H8⟩ := H.madeRow (P := Try.prog) (Instr.buildSlice 72 0 #[]) (fun b_ => .slice (some ⟨b_, 0, none⟩) 0 0) [] 64 0 0 1 (by kernel_rfl) (by decide) (by decide) rfl
  have H8 : Hp w [] [.row (some ⟨p5, 0, none⟩) 0 0 64 1 (dg [])] w6 := H8
  refine GL.sem (j := 1) (r7) [0, 8] [(0, .int .i64 64), (8, .slice (some ⟨p5, 0, none⟩) 0 0)] (by kernel_rfl) (by kernel_rfl) rfl ?_
  refine GL.run (j := 2) 1 [0, 3] [(0, .int .i64 64), (3, .slice (some ⟨p5, 0, none⟩) 0 0)] (by kernel_rfl) rfl ?_
  refine GL.k rfl hK4 (fun _ _ h => h) ?_
  refine G.seqK fun K9 hK10 => ?_
  refine G.seqK fun K11 hK12 => ?_
  refine G.region ?_
  refine GL.run (j := 1) 1 [0, 3, 4] [(0, .int .i64 64), (3, .slice (some ⟨p5, 0, none⟩) 0 0), (4, .int .u64 2)] (by kernel_rfl) rfl ?_
  refine GL.k rfl hK12 (fun _ _ h => h) ?_
  refine G.block ?_
  have H13 : Hp w [] [.row (some ⟨p5, 0, none⟩) ((prF 0).length) 0 64 1 (dg (prF 0))] w6 := H8
  refine G.fit [0, 3, 4] (M' := [(0, .int .i64 64), (3, .slice (some ⟨p5, 0, none⟩) ((prF 0).length) 0), (4, .int .u64 2)]) (by kernel_rfl) ?_
  refine G.eq (M' := [(0, .int .i64 64), (3, .slice (some ⟨p5, 0, none⟩) ((prF 0).length) 0), (4, .int .u64 (((0 + 2) : Nat) : Int))]) (by rfl) ?_
  refine G.loop (X := Nat × Option Addr × Nat) (fun ⟨k, A_, c_⟩ => [(0, .int .i64 64), (3, .slice A_ ((prF k).length) c_), (4, .int .u64 (((k + 2) : Nat) : Int))]) (fun ⟨k, A_, c_⟩ w_ => (k ≤ 310) ∧ Hp w [] [.row A_ ((prF k).length) c_ 64 1 (dg (prF k))] w_) (fun ⟨k, A_, c_⟩ => 310 - k) ⟨0, (some ⟨p5, 0, none⟩), 0⟩ [0, 3, 4] (by kernel_rfl) ⟨by omega, H13⟩ ?_
  rintro ⟨k, A_, c_⟩ w14 ⟨hi15, H16⟩
  refine G.eq (M' := [(0, .int .i64 64), (3, .slice A_ ((prF k).length) c_), (4, .int .u64 (((k + 2) : Nat) : Int))]) rfl ?_
  have H16 : Hp w [] [.row A_ ((prF k).length) c_ 64 1 (dg (prF k))] w14 := H16
  have hk310 := hi15
  refine G.seqK fun K17 hK18 => ?_
  refine G.seqK fun K19 hK20 => ?_
  refine G.region ?_
  refine GL.run (j := 4) 4 [0, 3, 4, 12] [(0, .int .i64 64), (3, .slice A_ ((prF k).length) c_), (4, .int .u64 (((k + 2) : Nat) : Int)), (12, .bool (decide ((((prF k).length : Nat) : Int) < 64)))] (by kernel_rfl) rfl ?_
  refine GL.k rfl hK20 (fun _ _ h => h) ?_
  cases hb21 : (decide ((((prF k).length : Nat) : Int) < 64))
  · skip
    have hb21f := of_decide_eq_false hb21
    have hkE : k = 310 := prF_out hk310 (by omega)
    refine G.no rfl ?_
    refine G.exitK hK10 (fun _ _ h => h) ?_
    refine G.seqK fun K22 hK23 => ?_
    refine G.region ?_
    refine GL.run (j := 2) 2 [2] [(2, .slice A_ ((prF k).length) c_)] (by kernel_rfl) rfl ?_
    refine GL.k rfl hK23 (fun _ _ h => h) ?_
    refine G.ret ?_
    intro F_ hF_ hM_
    refine hRet _ _ (bodyPost_1 rfl (RV.tmp rfl) ?_ F_ hF_ hM_)
    have H24 := H16
    rw [hkE, prF_all] at H24
    refine ⟨A_, c_, ?_, H24⟩
    rw [hkE, prF_all]
    rfl
  · skip
    have hb21f := of_decide_eq_true hb21
    have hk9 : k < 310 := prF_in (by omega)
    refine G.yes rfl ?_
    refine G.skipK hK18 (fun _ _ h => h) ?_
    refine G.seqK fun K25 hK26 => ?_
    refine G.block ?_
    refine G.seqK fun K27 hK28 => ?_
    refine G.region ?_
    refine GL.run (j := 1) 1 [0, 3, 4, 5] [(0, .int .i64 64), (3, .slice A_ ((prF k).length) c_), (4, .int .u64 (((k + 2) : Nat) : Int)), (5, .bool true)] (by kernel_rfl) rfl ?_
    refine GL.k rfl hK28 (fun _ _ h => h) ?_
    refine G.seqK fun K29 hK30 => ?_
    refine G.seqK fun K31 hK32 => ?_
    refine G.region ?_
    refine GL.run (j := 3) 3 [0, 3, 4, 5, 15, 16, 17] [(0, .int .i64 64), (3, .slice A_ ((prF k).length) c_), (4, .int .u64 (((k + 2) : Nat) : Int)), (5, .bool true), (15, .slice A_ ((prF k).length) c_), (16, .int .i64 (((prF k).length : Nat) : Int)), (17, .int .i64 0)] (by kernel_rfl) rfl ?_
    refine GL.k rfl hK32 (fun _ _ h => h) ?_
    refine G.block ?_
    refine G.fit [0, 3, 4, 5, 15, 16, 17] (M' := [(0, .int .i64 64), (3, .slice A_ ((prF k).length) c_), (4, .int .u64 (((k + 2) : Nat) : Int)), (5, .bool true), (15, .slice A_ ((prF k).length) c_), (16, .int .i64 (((prF k).length : Nat) : Int)), (17, .int .i64 0)]) (by kernel_rfl) ?_
    refine G.loop (X := Nat × Bool) (fun ⟨j, b⟩ => [(0, .int .i64 64), (3, .slice A_ ((prF k).length) c_), (4, .int .u64 (((k + 2) : Nat) : Int)), (5, .bool b), (15, .slice A_ ((prF k).length) c_), (16, .int .i64 (((prF k).length : Nat) : Int)), (17, .int .i64 (j : Int))]) (fun ⟨j, b⟩ w_ => (j ≤ (prF k).length ∧ b = ((prF k).take j).all (fun q => decide ((k + 2) % q ≠ 0))) ∧ Hp w [] [.row A_ ((prF k).length) c_ 64 1 (dg (prF k))] w_) (fun ⟨j, b⟩ => (prF k).length - j) ⟨0, true⟩ [0, 3, 4, 5, 15, 16, 17] (by kernel_rfl) ⟨⟨Nat.zero_le _, by rw [List.take_zero]; rfl⟩, H16⟩ ?_
    rintro ⟨j, b⟩ w33 ⟨hi34, H35⟩
    refine G.eq (M' := [(0, .int .i64 64), (3, .slice A_ ((prF k).length) c_), (4, .int .u64 (((k + 2) : Nat) : Int)), (5, .bool b), (15, .slice A_ ((prF k).length) c_), (16, .int .i64 (((prF k).length : Nat) : Int)), (17, .int .i64 (j : Int))]) rfl ?_
    have H35 : Hp w [] [.row A_ ((prF k).length) c_ 64 1 (dg (prF k))] w33 := H35
    obtain ⟨hjl, hbj⟩ := hi34
    refine G.seqK fun K36 hK37 => ?_
    refine G.region ?_
    refine GL.run (j := 1) 1 [0, 3, 4, 5, 15, 16, 17, 18] [(0, .int .i64 64), (3, .slice A_ ((prF k).length) c_), (4, .int .u64 (((k + 2) : Nat) : Int)), (5, .bool b), (15, .slice A_ ((prF k).length) c_), (16, .int .i64 (((prF k).length : Nat) : Int)), (17, .int .i64 (j : Int)), (18, .bool (decide ((j : Int) < (((prF k).length : Nat) : Int))))] (by kernel_rfl) rfl ?_
    refine GL.k rfl hK37 (fun _ _ h => h) ?_
    refine G.seqK fun K38 hK39 => ?_
    cases hb40 : (decide ((j : Int) < (((prF k).length : Nat) : Int)))
    · skip
      have hb40f := of_decide_eq_false hb40
      have hbw : b = (prF k).all (fun q => decide ((k + 2) % q ≠ 0)) := by rw [hbj, List.take_of_length_le (by omega)]
      refine G.no rfl ?_
      refine G.exitK hK30 (fun _ _ h => h) ?_
      refine G.seqK fun K41 hK42 => ?_
      refine G.region ?_
      refine GL.run (j := 1) 1 [0, 3, 4, 29] [(0, .int .i64 64), (3, .slice A_ ((prF k).length) c_), (4, .int .u64 (((k + 2) : Nat) : Int)), (29, .bool b)] (by kernel_rfl) rfl ?_
      refine GL.k rfl hK42 (fun _ _ h => h) ?_
      rcases (Bool.eq_false_or_eq_true b).symm with hb43 | hb43
      · skip
        refine G.eq (M' := [(0, .int .i64 64), (3, .slice A_ ((prF k).length) c_), (4, .int .u64 (((k + 2) : Nat) : Int)), (29, .bool false)]) (by first | (rw [hb43]; done) | (rw [hb43]; rfl)) ?_
        refine G.no rfl ?_
        refine G.skipK hK26 (fun _ _ h => h) ?_
        refine G.region ?_
        refine GL.run (j := 3) 3 [0, 3, 4] [(0, .int .i64 64), (3, .slice A_ ((prF k).length) c_), (4, .int .u64 (IntKind.u64.wrap ((((k + 2) : Nat) : Int) + 1)))] (by kernel_rfl) rfl ?_
        have e44 : (IntKind.u64.wrap ((((k + 2) : Nat) : Int) + 1)) = ((k + 1 + 2 : Nat) : Int) := (n_add' (a := k + 2) (b := 1) (by omega))
        refine GL.eq (M' := [(0, .int .i64 64), (3, .slice A_ ((prF k).length) c_), (4, .int .u64 ((k + 1 + 2 : Nat) : Int))]) (by rw [e44]) ?_
        clear e44
        have hst : prF (k + 1) = prF k := by rw [prF, if_neg (by rw [← hbw]; rw [hb43]; decide)]
        have H45 : Hp w [] [.row A_ ((prF (k + 1)).length) c_ 64 1 (dg (prF (k + 1)))] w33 := by rw [hst]; exact H35
        refine GL.fit (ts := [0, 3, 4]) (M' := [(0, .int .i64 64), (3, .slice A_ ((prF k).length) c_), (4, .int .u64 ((k + 1 + 2 : Nat) : Int))]) (by kernel_rfl) ?_
        refine GL.eq (M' := [(0, .int .i64 64), (3, .slice A_ ((prF (k + 1)).length) c_), (4, .int .u64 ((((k + 1) + 2) : Nat) : Int))]) (by first | (rw [hst]; done) | (rw [hst]; rfl)) ?_
        exact GL.again ⟨(k + 1), A_, c_⟩ [0, 3, 4] rfl (by kernel_rfl) (by show 310 - (k + 1) < 310 - k; omega) ⟨by omega, H45⟩
      · skip
        refine G.eq (M' := [(0, .int .i64 64), (3, .slice A_ ((prF k).length) c_), (4, .int .u64 (((k + 2) : Nat) : Int)), (29, .bool true)]) (by first | (rw [hb43]; done) | (rw [hb43]; rfl)) ?_
        refine G.yes rfl ?_
        refine G.region ?_
        refine GL.run (j := 2) 2 [0, 4, 30, 31] [(0, .int .i64 64), (4, .int .u64 (((k + 2) : Nat) : Int)), (30, .slice A_ ((prF k).length) c_), (31, .int .u64 (((k + 2) : Nat) : Int))] (by kernel_rfl) rfl ?_
        obtain ⟨p46, w47, r48, H49⟩ := H35.madeRow (P := Try.prog) (Instr.buildSlice 72 1 #[(0, .int .u64 (((k + 2) : Nat) : Int))]) (fun b_ => .slice (some ⟨b_, 0, none⟩) 1 1) [.int .u64 (((k + 2) : Nat) : Int)] 64 1 1 1 (by kernel_rfl) (by decide) (by decide) rfl
        have H49 : Hp w [] [.row A_ ((prF k).length) c_ 64 1 (dg (prF k)), .row (some ⟨p46, 0, none⟩) 1 1 64 1 (dg [(k + 2)])] w47 := H49
        refine GL.sem (j := 3) (r48) [0, 4, 30, 32] [(0, .int .i64 64), (4, .int .u64 (((k + 2) : Nat) : Int)), (30, .slice A_ ((prF k).length) c_), (32, .slice (some ⟨p46, 0, none⟩) 1 1)] (by kernel_rfl) (by kernel_rfl) rfl ?_
        obtain ⟨A50, c51, w52, r53, H54⟩ := H49.append (P := Try.prog) (e := 64) (sz := 1) (by_ := 8) (n := (prF k).length) (c := c_) (m := 1) (d := 1) (t := 72) (ty := 72) (xs := dg (prF k)) (news := dg [(k + 2)]) 0 rfl (by kernel_rfl) (H49.rdRow 1 rfl) (by simp [dg_length]) (dg_one _) (by omega) (by simp only [maxLen]; omega)
        rw [← dg_append] at H54
        have H54 : Hp w [] [.row A50 ((prF k).length + 1) c51 64 1 (dg ((prF k) ++ [(k + 2)])), .row (some ⟨p46, 0, none⟩) 1 1 64 1 (dg [(k + 2)])] w52 := H54
        refine GL.sem (j := 4) (r53) [0, 4, 33] [(0, .int .i64 64), (4, .int .u64 (((k + 2) : Nat) : Int)), (33, .slice A50 ((prF k).length + 1) c51)] (by kernel_rfl) (by kernel_rfl) rfl ?_
        refine GL.run (j := 5) 1 [0, 3, 4] [(0, .int .i64 64), (3, .slice A50 ((prF k).length + 1) c51), (4, .int .u64 (((k + 2) : Nat) : Int))] (by kernel_rfl) rfl ?_
        refine GL.k rfl hK26 (fun _ _ h => h) ?_
        refine G.region ?_
        refine GL.run (j := 3) 3 [0, 3, 4] [(0, .int .i64 64), (3, .slice A50 ((prF k).length + 1) c51), (4, .int .u64 (IntKind.u64.wrap ((((k + 2) : Nat) : Int) + 1)))] (by kernel_rfl) rfl ?_
        have e55 : (IntKind.u64.wrap ((((k + 2) : Nat) : Int) + 1)) = ((k + 1 + 2 : Nat) : Int) := (n_add' (a := k + 2) (b := 1) (by omega))
        refine GL.eq (M' := [(0, .int .i64 64), (3, .slice A50 ((prF k).length + 1) c51), (4, .int .u64 ((k + 1 + 2 : Nat) : Int))]) (by rw [e55]) ?_
        clear e55
        have H56 : Hp w [] [.row A50 ((prF k).length + 1) c51 64 1 (dg ((prF k) ++ [(k + 2)]))] w52 := H54.sub (List.Sublist.cons_cons _ (List.Sublist.cons _ (List.Sublist.slnil)))
        have hst : prF (k + 1) = prF k ++ [k + 2] := by rw [prF, if_pos (by rw [← hbw]; exact hb43)]
        have H57 : Hp w [] [.row A50 ((prF (k + 1)).length) c51 64 1 (dg (prF (k + 1)))] w52 := by rw [hst, List.length_append]; exact H56
        refine GL.fit (ts := [0, 3, 4]) (M' := [(0, .int .i64 64), (3, .slice A50 ((prF k).length + 1) c51), (4, .int .u64 ((k + 1 + 2 : Nat) : Int))]) (by kernel_rfl) ?_
        refine GL.eq (M' := [(0, .int .i64 64), (3, .slice A50 ((prF (k + 1)).length) c51), (4, .int .u64 ((((k + 1) + 2) : Nat) : Int))]) (by first | (rw [hst, List.length_append]; done) | (rw [hst, List.length_append]; rfl)) ?_
        exact GL.again ⟨(k + 1), A50, c51⟩ [0, 3, 4] rfl (by kernel_rfl) (by show 310 - (k + 1) < 310 - k; omega) ⟨by omega, H57⟩
    · skip
      have hb40f := of_decide_eq_true hb40
      refine G.yes rfl ?_
      refine G.skipK hK39 (fun _ _ h => h) ?_
      refine G.seqK fun K58 hK59 => ?_
      refine G.block ?_
      refine G.seqK fun K60 hK61 => ?_
      refine G.region ?_
      refine GL.sem (j := 1) (run_idxRd (P := Try.prog) (k := .i64) (t := 72) (A := A_) (len := (prF k).length) (cap := c_) (j := j) (by kernel_rfl) rfl (H35.rdRow 0 rfl) (by first | exact dg_length _ | rw [dg_length]; first | rfl | assumption | (symm; assumption) | (simp; done) | (rw [List.length_take]; omega) | omega) (by first | rfl | omega | (simp only [List.length_cons, List.length_nil, List.length_drop, List.length_take, List.length_append] <;> omega))) [0, 3, 4, 5, 15, 16, 17, 19] [(0, .int .i64 64), (3, .slice A_ ((prF k).length) c_), (4, .int .u64 (((k + 2) : Nat) : Int)), (5, .bool b), (15, .slice A_ ((prF k).length) c_), (16, .int .i64 (((prF k).length : Nat) : Int)), (17, .int .i64 (j : Int)), (19, .pointer (Option.map (fun x => Addr.add x j) A_))] (by kernel_rfl) (by kernel_rfl) rfl ?_
      obtain ⟨d62, hd63⟩ : ∃ d : Nat, ((prF k))[j]? = some d := ⟨_, List.getElem?_eq_getElem (by omega)⟩
      have hge := prF_ge k _ (List.mem_of_getElem? hd63)
      refine GL.sem (j := 2) (run_ldRd (P := Try.prog) (ty := 64) (A := A_) (j := j) (v := .int .u64 (d62 : Int)) (by kernel_rfl) (H35.rdRow 0 rfl) (dg_at hd63)) [0, 3, 4, 5, 15, 16, 17, 20] [(0, .int .i64 64), (3, .slice A_ ((prF k).length) c_), (4, .int .u64 (((k + 2) : Nat) : Int)), (5, .bool b), (15, .slice A_ ((prF k).length) c_), (16, .int .i64 (((prF k).length : Nat) : Int)), (17, .int .i64 (j : Int)), (20, .int .u64 (d62 : Int))] (by kernel_rfl) (by kernel_rfl) rfl ?_
      refine GL.run (j := 3) 1 [0, 3, 4, 5, 7, 15, 16, 17] [(0, .int .i64 64), (3, .slice A_ ((prF k).length) c_), (4, .int .u64 (((k + 2) : Nat) : Int)), (5, .bool b), (7, .int .u64 (d62 : Int)), (15, .slice A_ ((prF k).length) c_), (16, .int .i64 (((prF k).length : Nat) : Int)), (17, .int .i64 (j : Int))] (by kernel_rfl) rfl ?_
      refine GL.k rfl hK61 (fun _ _ h => h) ?_
      refine G.region ?_
      refine GL.run (j := 2) 2 [0, 3, 4, 7, 15, 16, 17, 22] [(0, .int .i64 64), (3, .slice A_ ((prF k).length) c_), (4, .int .u64 (((k + 2) : Nat) : Int)), (7, .int .u64 (d62 : Int)), (15, .slice A_ ((prF k).length) c_), (16, .int .i64 (((prF k).length : Nat) : Int)), (17, .int .i64 (j : Int)), (22, .bool b)] (by kernel_rfl) rfl ?_
      rcases (Bool.eq_false_or_eq_true b).symm with hb64 | hb64
      · skip
        refine GL.eq (M' := [(0, .int .i64 64), (3, .slice A_ ((prF k).length) c_), (4, .int .u64 (((k + 2) : Nat) : Int)), (7, .int .u64 (d62 : Int)), (15, .slice A_ ((prF k).length) c_), (16, .int .i64 (((prF k).length : Nat) : Int)), (17, .int .i64 (j : Int)), (22, .bool false)]) (by first | (rw [hb64]; done) | (rw [hb64]; rfl)) ?_
        refine GL.run (j := 8) 6 [0, 3, 4, 5, 15, 16, 17] [(0, .int .i64 64), (3, .slice A_ ((prF k).length) c_), (4, .int .u64 (((k + 2) : Nat) : Int)), (5, .bool false), (15, .slice A_ ((prF k).length) c_), (16, .int .i64 (((prF k).length : Nat) : Int)), (17, .int .i64 (j : Int))] (by kernel_rfl) rfl ?_
        refine GL.k rfl hK59 (fun _ _ h => h) ?_
        refine G.region ?_
        refine GL.run (j := 2) 2 [0, 3, 4, 5, 15, 16, 17] [(0, .int .i64 64), (3, .slice A_ ((prF k).length) c_), (4, .int .u64 (((k + 2) : Nat) : Int)), (5, .bool false), (15, .slice A_ ((prF k).length) c_), (16, .int .i64 (((prF k).length : Nat) : Int)), (17, .int .i64 (IntKind.i64.wrap ((j : Int) + 1)))] (by kernel_rfl) rfl ?_
        have e65 : (IntKind.i64.wrap ((j : Int) + 1)) = ((j + 1 : Nat) : Int) := by rw [in_i64 (by omega)]; omega
        refine GL.eq (M' := [(0, .int .i64 64), (3, .slice A_ ((prF k).length) c_), (4, .int .u64 (((k + 2) : Nat) : Int)), (5, .bool false), (15, .slice A_ ((prF k).length) c_), (16, .int .i64 (((prF k).length : Nat) : Int)), (17, .int .i64 ((j + 1 : Nat) : Int))]) (by rw [e65]) ?_
        clear e65
        have hstep : false = ((prF k).take (j + 1)).all (fun q => decide ((k + 2) % q ≠ 0)) := by
          rw [all_take hd63, ← hbj, hb64]
          rfl
        refine GL.fit (ts := [0, 3, 4, 5, 15, 16, 17]) (M' := [(0, .int .i64 64), (3, .slice A_ ((prF k).length) c_), (4, .int .u64 (((k + 2) : Nat) : Int)), (5, .bool false), (15, .slice A_ ((prF k).length) c_), (16, .int .i64 (((prF k).length : Nat) : Int)), (17, .int .i64 ((j + 1 : Nat) : Int))]) (by kernel_rfl) ?_
        refine GL.eq (M' := [(0, .int .i64 64), (3, .slice A_ ((prF k).length) c_), (4, .int .u64 (((k + 2) : Nat) : Int)), (5, .bool false), (15, .slice A_ ((prF k).length) c_), (16, .int .i64 (((prF k).length : Nat) : Int)), (17, .int .i64 (((j + 1) : Nat) : Int))]) (by rfl) ?_
        exact GL.again ⟨(j + 1), false⟩ [0, 3, 4, 5, 15, 16, 17] rfl (by kernel_rfl) (by show (prF k).length - (j + 1) < (prF k).length - j; omega) ⟨⟨by omega, hstep⟩, H35⟩
      · skip
        refine GL.eq (M' := [(0, .int .i64 64), (3, .slice A_ ((prF k).length) c_), (4, .int .u64 (((k + 2) : Nat) : Int)), (7, .int .u64 (d62 : Int)), (15, .slice A_ ((prF k).length) c_), (16, .int .i64 (((prF k).length : Nat) : Int)), (17, .int .i64 (j : Int)), (22, .bool true)]) (by first | (rw [hb64]; done) | (rw [hb64]; rfl)) ?_
        refine GL.run (j := 4) 2 [0, 3, 4, 15, 16, 17, 22, 23, 24] [(0, .int .i64 64), (3, .slice A_ ((prF k).length) c_), (4, .int .u64 (((k + 2) : Nat) : Int)), (15, .slice A_ ((prF k).length) c_), (16, .int .i64 (((prF k).length : Nat) : Int)), (17, .int .i64 (j : Int)), (22, .bool true), (23, .int .u64 (((k + 2) : Nat) : Int)), (24, .int .u64 (d62 : Int))] (by kernel_rfl) rfl ?_
        refine GL.sem (j := 5) (run_remN (P := Try.prog) (t := 64) (a := k + 2) (b := d62) (v := (k + 2) % d62) (by omega) rfl _) [0, 3, 4, 15, 16, 17, 22, 25] [(0, .int .i64 64), (3, .slice A_ ((prF k).length) c_), (4, .int .u64 (((k + 2) : Nat) : Int)), (15, .slice A_ ((prF k).length) c_), (16, .int .i64 (((prF k).length : Nat) : Int)), (17, .int .i64 (j : Int)), (22, .bool true), (25, .int .u64 ((((k + 2) % d62) : Nat) : Int))] (by kernel_rfl) (by kernel_rfl) rfl ?_
        refine GL.run (j := 8) 3 [0, 3, 4, 5, 15, 16, 17] [(0, .int .i64 64), (3, .slice A_ ((prF k).length) c_), (4, .int .u64 (((k + 2) : Nat) : Int)), (5, .bool (((((k + 2) % d62) : Nat) : Int) != 0)), (15, .slice A_ ((prF k).length) c_), (16, .int .i64 (((prF k).length : Nat) : Int)), (17, .int .i64 (j : Int))] (by kernel_rfl) rfl ?_
        refine GL.k rfl hK59 (fun _ _ h => h) ?_
        refine G.region ?_
        refine GL.run (j := 2) 2 [0, 3, 4, 5, 15, 16, 17] [(0, .int .i64 64), (3, .slice A_ ((prF k).length) c_), (4, .int .u64 (((k + 2) : Nat) : Int)), (5, .bool (((((k + 2) % d62) : Nat) : Int) != 0)), (15, .slice A_ ((prF k).length) c_), (16, .int .i64 (((prF k).length : Nat) : Int)), (17, .int .i64 (IntKind.i64.wrap ((j : Int) + 1)))] (by kernel_rfl) rfl ?_
        have e66 : (IntKind.i64.wrap ((j : Int) + 1)) = ((j + 1 : Nat) : Int) := by rw [in_i64 (by omega)]; omega
        refine GL.eq (M' := [(0, .int .i64 64), (3, .slice A_ ((prF k).length) c_), (4, .int .u64 (((k + 2) : Nat) : Int)), (5, .bool (((((k + 2) % d62) : Nat) : Int) != 0)), (15, .slice A_ ((prF k).length) c_), (16, .int .i64 (((prF k).length : Nat) : Int)), (17, .int .i64 ((j + 1 : Nat) : Int))]) (by rw [e66]) ?_
        clear e66
        have hstep : (((((k + 2) % d62) : Nat) : Int) != 0) = ((prF k).take (j + 1)).all (fun q => decide ((k + 2) % q ≠ 0)) := by
          rw [all_take hd63, ← hbj, hb64]
          rw [Bool.true_and, Bool.eq_iff_iff, bne_iff_ne, decide_eq_true_iff]
          omega
        refine GL.fit (ts := [0, 3, 4, 5, 15, 16, 17]) (M' := [(0, .int .i64 64), (3, .slice A_ ((prF k).length) c_), (4, .int .u64 (((k + 2) : Nat) : Int)), (5, .bool (((((k + 2) % d62) : Nat) : Int) != 0)), (15, .slice A_ ((prF k).length) c_), (16, .int .i64 (((prF k).length : Nat) : Int)), (17, .int .i64 ((j + 1 : Nat) : Int))]) (by kernel_rfl) ?_
        refine GL.eq (M' := [(0, .int .i64 64), (3, .slice A_ ((prF k).length) c_), (4, .int .u64 (((k + 2) : Nat) : Int)), (5, .bool (((((k + 2) % d62) : Nat) : Int) != 0)), (15, .slice A_ ((prF k).length) c_), (16, .int .i64 (((prF k).length : Nat) : Int)), (17, .int .i64 (((j + 1) : Nat) : Int))]) (by rfl) ?_
        exact GL.again ⟨(j + 1), (((((k + 2) % d62) : Nat) : Int) != 0)⟩ [0, 3, 4, 5, 15, 16, 17] rfl (by kernel_rfl) (by show (prF k).length - (j + 1) < (prF k).length - j; omega) ⟨⟨by omega, hstep⟩, H35⟩
theorem TurnR2_calls (x : Nat) (hx : x < W32) (w : World) : Calls Try.prog 39 #[.int .u32 (x : Int), .int .i64 2] w fun e w' => e = .returned (.int .u32 ((rt x 2 : Nat) : Int)) ∧ Hp w [] [] w' := by
  refine calls_G (args := [.int .u32 (x : Int), .int .i64 2]) Try.func39 rfl Try.ntmps39 rfl ?_
  intro Q0 hRet hNor hPan
  have H := Hp.start w
  have H : Hp w [] [] w := H
  refine G.seqK fun K1 hK2 => ?_
  refine G.region ?_
  refine GL.run (j := 1) 1 [0, 1] [(0, .int .u32 (x : Int)), (1, .int .i64 2)] (by kernel_rfl) rfl ?_
  refine GL.k rfl hK2 (fun _ _ h => h) ?_
  refine G.seqK fun K3 hK4 => ?_
  refine G.draw H (by kernel_rfl) (by kernel_rfl) ?_
  refine GQ.run (j := 9) 9 [4] [(4, .int .u32 (Go.bits .or .u32 (Int.fdiv (x : Int) (2 ^ 2)) (IntKind.u32.wrap ((x : Int) * 2 ^ 30))))] (by kernel_rfl) rfl ?_
  have e5 : (Int.fdiv (x : Int) (2 ^ 2)) = ((x / 2 ^ 2 : Nat) : Int) := n_shr x 2
  have e6 : (IntKind.u32.wrap ((x : Int) * 2 ^ 30)) = ((x * 2 ^ 30 % W32 : Nat) : Int) := w_shl x 30
  have e7 : (Go.bits .or .u32 ((x / 2 ^ 2 : Nat) : Int) ((x * 2 ^ 30 % W32 : Nat) : Int)) = ((rt x 2 : Nat) : Int) := (w_or (Nat.lt_of_le_of_lt (Nat.div_le_self _ _) hx) (Nat.mod_lt _ (by decide))).trans (by rw [Nat.or_comm]; rfl)
  refine GQ.eq (M' := [(4, .int .u32 ((rt x 2 : Nat) : Int))]) (by rw [e5, e6, e7]) ?_
  clear e5 e6 e7
  refine GQ.k rfl hK4 (fun _ _ h => h) (fun w8 H9 => ?_)
  refine G.ret ?_
  intro F_ hF_ hM_
  refine hRet _ _ (bodyPost_1 rfl (RV.tmp rfl) ?_ F_ hF_ hM_)
  exact ⟨rfl, H9⟩
theorem TurnR6_calls (x : Nat) (hx : x < W32) (w : World) : Calls Try.prog 39 #[.int .u32 (x : Int), .int .i64 6] w fun e w' => e = .returned (.int .u32 ((rt x 6 : Nat) : Int)) ∧ Hp w [] [] w' := by
  refine calls_G (args := [.int .u32 (x : Int), .int .i64 6]) Try.func39 rfl Try.ntmps39 rfl ?_
  intro Q0 hRet hNor hPan
  have H := Hp.start w
  have H : Hp w [] [] w := H
  refine G.seqK fun K1 hK2 => ?_
  refine G.region ?_
  refine GL.run (j := 1) 1 [0, 1] [(0, .int .u32 (x : Int)), (1, .int .i64 6)] (by kernel_rfl) rfl ?_
  refine GL.k rfl hK2 (fun _ _ h => h) ?_
  refine G.seqK fun K3 hK4 => ?_
  refine G.draw H (by kernel_rfl) (by kernel_rfl) ?_
  refine GQ.run (j := 9) 9 [4] [(4, .int .u32 (Go.bits .or .u32 (Int.fdiv (x : Int) (2 ^ 6)) (IntKind.u32.wrap ((x : Int) * 2 ^ 26))))] (by kernel_rfl) rfl ?_
  have e5 : (Int.fdiv (x : Int) (2 ^ 6)) = ((x / 2 ^ 6 : Nat) : Int) := n_shr x 6
  have e6 : (IntKind.u32.wrap ((x : Int) * 2 ^ 26)) = ((x * 2 ^ 26 % W32 : Nat) : Int) := w_shl x 26
  have e7 : (Go.bits .or .u32 ((x / 2 ^ 6 : Nat) : Int) ((x * 2 ^ 26 % W32 : Nat) : Int)) = ((rt x 6 : Nat) : Int) := (w_or (Nat.lt_of_le_of_lt (Nat.div_le_self _ _) hx) (Nat.mod_lt _ (by decide))).trans (by rw [Nat.or_comm]; rfl)
  refine GQ.eq (M' := [(4, .int .u32 ((rt x 6 : Nat) : Int))]) (by rw [e5, e6, e7]) ?_
  clear e5 e6 e7
  refine GQ.k rfl hK4 (fun _ _ h => h) (fun w8 H9 => ?_)
  refine G.ret ?_
  intro F_ hF_ hM_
  refine hRet _ _ (bodyPost_1 rfl (RV.tmp rfl) ?_ F_ hF_ hM_)
  exact ⟨rfl, H9⟩
theorem TurnR7_calls (x : Nat) (hx : x < W32) (w : World) : Calls Try.prog 39 #[.int .u32 (x : Int), .int .i64 7] w fun e w' => e = .returned (.int .u32 ((rt x 7 : Nat) : Int)) ∧ Hp w [] [] w' := by
  refine calls_G (args := [.int .u32 (x : Int), .int .i64 7]) Try.func39 rfl Try.ntmps39 rfl ?_
  intro Q0 hRet hNor hPan
  have H := Hp.start w
  have H : Hp w [] [] w := H
  refine G.seqK fun K1 hK2 => ?_
  refine G.region ?_
  refine GL.run (j := 1) 1 [0, 1] [(0, .int .u32 (x : Int)), (1, .int .i64 7)] (by kernel_rfl) rfl ?_
  refine GL.k rfl hK2 (fun _ _ h => h) ?_
  refine G.seqK fun K3 hK4 => ?_
  refine G.draw H (by kernel_rfl) (by kernel_rfl) ?_
  refine GQ.run (j := 9) 9 [4] [(4, .int .u32 (Go.bits .or .u32 (Int.fdiv (x : Int) (2 ^ 7)) (IntKind.u32.wrap ((x : Int) * 2 ^ 25))))] (by kernel_rfl) rfl ?_
  have e5 : (Int.fdiv (x : Int) (2 ^ 7)) = ((x / 2 ^ 7 : Nat) : Int) := n_shr x 7
  have e6 : (IntKind.u32.wrap ((x : Int) * 2 ^ 25)) = ((x * 2 ^ 25 % W32 : Nat) : Int) := w_shl x 25
  have e7 : (Go.bits .or .u32 ((x / 2 ^ 7 : Nat) : Int) ((x * 2 ^ 25 % W32 : Nat) : Int)) = ((rt x 7 : Nat) : Int) := (w_or (Nat.lt_of_le_of_lt (Nat.div_le_self _ _) hx) (Nat.mod_lt _ (by decide))).trans (by rw [Nat.or_comm]; rfl)
  refine GQ.eq (M' := [(4, .int .u32 ((rt x 7 : Nat) : Int))]) (by rw [e5, e6, e7]) ?_
  clear e5 e6 e7
  refine GQ.k rfl hK4 (fun _ _ h => h) (fun w8 H9 => ?_)
  refine G.ret ?_
  intro F_ hF_ hM_
  refine hRet _ _ (bodyPost_1 rfl (RV.tmp rfl) ?_ F_ hF_ hM_)
  exact ⟨rfl, H9⟩
theorem TurnR11_calls (x : Nat) (hx : x < W32) (w : World) : Calls Try.prog 39 #[.int .u32 (x : Int), .int .i64 11] w fun e w' => e = .returned (.int .u32 ((rt x 11 : Nat) : Int)) ∧ Hp w [] [] w' := by
  refine calls_G (args := [.int .u32 (x : Int), .int .i64 11]) Try.func39 rfl Try.ntmps39 rfl ?_
  intro Q0 hRet hNor hPan
  have H := Hp.start w
  have H : Hp w [] [] w := H
  refine G.seqK fun K1 hK2 => ?_
  refine G.region ?_
  refine GL.run (j := 1) 1 [0, 1] [(0, .int .u32 (x : Int)), (1, .int .i64 11)] (by kernel_rfl) rfl ?_
  refine GL.k rfl hK2 (fun _ _ h => h) ?_
  refine G.seqK fun K3 hK4 => ?_
  refine G.draw H (by kernel_rfl) (by kernel_rfl) ?_
  refine GQ.run (j := 9) 9 [4] [(4, .int .u32 (Go.bits .or .u32 (Int.fdiv (x : Int) (2 ^ 11)) (IntKind.u32.wrap ((x : Int) * 2 ^ 21))))] (by kernel_rfl) rfl ?_
  have e5 : (Int.fdiv (x : Int) (2 ^ 11)) = ((x / 2 ^ 11 : Nat) : Int) := n_shr x 11
  have e6 : (IntKind.u32.wrap ((x : Int) * 2 ^ 21)) = ((x * 2 ^ 21 % W32 : Nat) : Int) := w_shl x 21
  have e7 : (Go.bits .or .u32 ((x / 2 ^ 11 : Nat) : Int) ((x * 2 ^ 21 % W32 : Nat) : Int)) = ((rt x 11 : Nat) : Int) := (w_or (Nat.lt_of_le_of_lt (Nat.div_le_self _ _) hx) (Nat.mod_lt _ (by decide))).trans (by rw [Nat.or_comm]; rfl)
  refine GQ.eq (M' := [(4, .int .u32 ((rt x 11 : Nat) : Int))]) (by rw [e5, e6, e7]) ?_
  clear e5 e6 e7
  refine GQ.k rfl hK4 (fun _ _ h => h) (fun w8 H9 => ?_)
  refine G.ret ?_
  intro F_ hF_ hM_
  refine hRet _ _ (bodyPost_1 rfl (RV.tmp rfl) ?_ F_ hF_ hM_)
  exact ⟨rfl, H9⟩
theorem TurnR13_calls (x : Nat) (hx : x < W32) (w : World) : Calls Try.prog 39 #[.int .u32 (x : Int), .int .i64 13] w fun e w' => e = .returned (.int .u32 ((rt x 13 : Nat) : Int)) ∧ Hp w [] [] w' := by
  refine calls_G (args := [.int .u32 (x : Int), .int .i64 13]) Try.func39 rfl Try.ntmps39 rfl ?_
  intro Q0 hRet hNor hPan
  have H := Hp.start w
  have H : Hp w [] [] w := H
  refine G.seqK fun K1 hK2 => ?_
  refine G.region ?_
  refine GL.run (j := 1) 1 [0, 1] [(0, .int .u32 (x : Int)), (1, .int .i64 13)] (by kernel_rfl) rfl ?_
  refine GL.k rfl hK2 (fun _ _ h => h) ?_
  refine G.seqK fun K3 hK4 => ?_
  refine G.draw H (by kernel_rfl) (by kernel_rfl) ?_
  refine GQ.run (j := 9) 9 [4] [(4, .int .u32 (Go.bits .or .u32 (Int.fdiv (x : Int) (2 ^ 13)) (IntKind.u32.wrap ((x : Int) * 2 ^ 19))))] (by kernel_rfl) rfl ?_
  have e5 : (Int.fdiv (x : Int) (2 ^ 13)) = ((x / 2 ^ 13 : Nat) : Int) := n_shr x 13
  have e6 : (IntKind.u32.wrap ((x : Int) * 2 ^ 19)) = ((x * 2 ^ 19 % W32 : Nat) : Int) := w_shl x 19
  have e7 : (Go.bits .or .u32 ((x / 2 ^ 13 : Nat) : Int) ((x * 2 ^ 19 % W32 : Nat) : Int)) = ((rt x 13 : Nat) : Int) := (w_or (Nat.lt_of_le_of_lt (Nat.div_le_self _ _) hx) (Nat.mod_lt _ (by decide))).trans (by rw [Nat.or_comm]; rfl)
  refine GQ.eq (M' := [(4, .int .u32 ((rt x 13 : Nat) : Int))]) (by rw [e5, e6, e7]) ?_
  clear e5 e6 e7
  refine GQ.k rfl hK4 (fun _ _ h => h) (fun w8 H9 => ?_)
  refine G.ret ?_
  intro F_ hF_ hM_
  refine hRet _ _ (bodyPost_1 rfl (RV.tmp rfl) ?_ F_ hF_ hM_)
  exact ⟨rfl, H9⟩
theorem TurnR17_calls (x : Nat) (hx : x < W32) (w : World) : Calls Try.prog 39 #[.int .u32 (x : Int), .int .i64 17] w fun e w' => e = .returned (.int .u32 ((rt x 17 : Nat) : Int)) ∧ Hp w [] [] w' := by
  refine calls_G (args := [.int .u32 (x : Int), .int .i64 17]) Try.func39 rfl Try.ntmps39 rfl ?_
  intro Q0 hRet hNor hPan
  have H := Hp.start w
  have H : Hp w [] [] w := H
  refine G.seqK fun K1 hK2 => ?_
  refine G.region ?_
  refine GL.run (j := 1) 1 [0, 1] [(0, .int .u32 (x : Int)), (1, .int .i64 17)] (by kernel_rfl) rfl ?_
  refine GL.k rfl hK2 (fun _ _ h => h) ?_
  refine G.seqK fun K3 hK4 => ?_
  refine G.draw H (by kernel_rfl) (by kernel_rfl) ?_
  refine GQ.run (j := 9) 9 [4] [(4, .int .u32 (Go.bits .or .u32 (Int.fdiv (x : Int) (2 ^ 17)) (IntKind.u32.wrap ((x : Int) * 2 ^ 15))))] (by kernel_rfl) rfl ?_
  have e5 : (Int.fdiv (x : Int) (2 ^ 17)) = ((x / 2 ^ 17 : Nat) : Int) := n_shr x 17
  have e6 : (IntKind.u32.wrap ((x : Int) * 2 ^ 15)) = ((x * 2 ^ 15 % W32 : Nat) : Int) := w_shl x 15
  have e7 : (Go.bits .or .u32 ((x / 2 ^ 17 : Nat) : Int) ((x * 2 ^ 15 % W32 : Nat) : Int)) = ((rt x 17 : Nat) : Int) := (w_or (Nat.lt_of_le_of_lt (Nat.div_le_self _ _) hx) (Nat.mod_lt _ (by decide))).trans (by rw [Nat.or_comm]; rfl)
  refine GQ.eq (M' := [(4, .int .u32 ((rt x 17 : Nat) : Int))]) (by rw [e5, e6, e7]) ?_
  clear e5 e6 e7
  refine GQ.k rfl hK4 (fun _ _ h => h) (fun w8 H9 => ?_)
  refine G.ret ?_
  intro F_ hF_ hM_
  refine hRet _ _ (bodyPost_1 rfl (RV.tmp rfl) ?_ F_ hF_ hM_)
  exact ⟨rfl, H9⟩
theorem TurnR18_calls (x : Nat) (hx : x < W32) (w : World) : Calls Try.prog 39 #[.int .u32 (x : Int), .int .i64 18] w fun e w' => e = .returned (.int .u32 ((rt x 18 : Nat) : Int)) ∧ Hp w [] [] w' := by
  refine calls_G (args := [.int .u32 (x : Int), .int .i64 18]) Try.func39 rfl Try.ntmps39 rfl ?_
  intro Q0 hRet hNor hPan
  have H := Hp.start w
  have H : Hp w [] [] w := H
  refine G.seqK fun K1 hK2 => ?_
  refine G.region ?_
  refine GL.run (j := 1) 1 [0, 1] [(0, .int .u32 (x : Int)), (1, .int .i64 18)] (by kernel_rfl) rfl ?_
  refine GL.k rfl hK2 (fun _ _ h => h) ?_
  refine G.seqK fun K3 hK4 => ?_
  refine G.draw H (by kernel_rfl) (by kernel_rfl) ?_
  refine GQ.run (j := 9) 9 [4] [(4, .int .u32 (Go.bits .or .u32 (Int.fdiv (x : Int) (2 ^ 18)) (IntKind.u32.wrap ((x : Int) * 2 ^ 14))))] (by kernel_rfl) rfl ?_
  have e5 : (Int.fdiv (x : Int) (2 ^ 18)) = ((x / 2 ^ 18 : Nat) : Int) := n_shr x 18
  have e6 : (IntKind.u32.wrap ((x : Int) * 2 ^ 14)) = ((x * 2 ^ 14 % W32 : Nat) : Int) := w_shl x 14
  have e7 : (Go.bits .or .u32 ((x / 2 ^ 18 : Nat) : Int) ((x * 2 ^ 14 % W32 : Nat) : Int)) = ((rt x 18 : Nat) : Int) := (w_or (Nat.lt_of_le_of_lt (Nat.div_le_self _ _) hx) (Nat.mod_lt _ (by decide))).trans (by rw [Nat.or_comm]; rfl)
  refine GQ.eq (M' := [(4, .int .u32 ((rt x 18 : Nat) : Int))]) (by rw [e5, e6, e7]) ?_
  clear e5 e6 e7
  refine GQ.k rfl hK4 (fun _ _ h => h) (fun w8 H9 => ?_)
  refine G.ret ?_
  intro F_ hF_ hM_
  refine hRet _ _ (bodyPost_1 rfl (RV.tmp rfl) ?_ F_ hF_ hM_)
  exact ⟨rfl, H9⟩
theorem TurnR19_calls (x : Nat) (hx : x < W32) (w : World) : Calls Try.prog 39 #[.int .u32 (x : Int), .int .i64 19] w fun e w' => e = .returned (.int .u32 ((rt x 19 : Nat) : Int)) ∧ Hp w [] [] w' := by
  refine calls_G (args := [.int .u32 (x : Int), .int .i64 19]) Try.func39 rfl Try.ntmps39 rfl ?_
  intro Q0 hRet hNor hPan
  have H := Hp.start w
  have H : Hp w [] [] w := H
  refine G.seqK fun K1 hK2 => ?_
  refine G.region ?_
  refine GL.run (j := 1) 1 [0, 1] [(0, .int .u32 (x : Int)), (1, .int .i64 19)] (by kernel_rfl) rfl ?_
  refine GL.k rfl hK2 (fun _ _ h => h) ?_
  refine G.seqK fun K3 hK4 => ?_
  refine G.draw H (by kernel_rfl) (by kernel_rfl) ?_
  refine GQ.run (j := 9) 9 [4] [(4, .int .u32 (Go.bits .or .u32 (Int.fdiv (x : Int) (2 ^ 19)) (IntKind.u32.wrap ((x : Int) * 2 ^ 13))))] (by kernel_rfl) rfl ?_
  have e5 : (Int.fdiv (x : Int) (2 ^ 19)) = ((x / 2 ^ 19 : Nat) : Int) := n_shr x 19
  have e6 : (IntKind.u32.wrap ((x : Int) * 2 ^ 13)) = ((x * 2 ^ 13 % W32 : Nat) : Int) := w_shl x 13
  have e7 : (Go.bits .or .u32 ((x / 2 ^ 19 : Nat) : Int) ((x * 2 ^ 13 % W32 : Nat) : Int)) = ((rt x 19 : Nat) : Int) := (w_or (Nat.lt_of_le_of_lt (Nat.div_le_self _ _) hx) (Nat.mod_lt _ (by decide))).trans (by rw [Nat.or_comm]; rfl)
  refine GQ.eq (M' := [(4, .int .u32 ((rt x 19 : Nat) : Int))]) (by rw [e5, e6, e7]) ?_
  clear e5 e6 e7
  refine GQ.k rfl hK4 (fun _ _ h => h) (fun w8 H9 => ?_)
  refine G.ret ?_
  intro F_ hF_ hM_
  refine hRet _ _ (bodyPost_1 rfl (RV.tmp rfl) ?_ F_ hF_ hM_)
  exact ⟨rfl, H9⟩
theorem TurnR22_calls (x : Nat) (hx : x < W32) (w : World) : Calls Try.prog 39 #[.int .u32 (x : Int), .int .i64 22] w fun e w' => e = .returned (.int .u32 ((rt x 22 : Nat) : Int)) ∧ Hp w [] [] w' := by
  refine calls_G (args := [.int .u32 (x : Int), .int .i64 22]) Try.func39 rfl Try.ntmps39 rfl ?_
  intro Q0 hRet hNor hPan
  have H := Hp.start w
  have H : Hp w [] [] w := H
  refine G.seqK fun K1 hK2 => ?_
  refine G.region ?_
  refine GL.run (j := 1) 1 [0, 1] [(0, .int .u32 (x : Int)), (1, .int .i64 22)] (by kernel_rfl) rfl ?_
  refine GL.k rfl hK2 (fun _ _ h => h) ?_
  refine G.seqK fun K3 hK4 => ?_
  refine G.draw H (by kernel_rfl) (by kernel_rfl) ?_
  refine GQ.run (j := 9) 9 [4] [(4, .int .u32 (Go.bits .or .u32 (Int.fdiv (x : Int) (2 ^ 22)) (IntKind.u32.wrap ((x : Int) * 2 ^ 10))))] (by kernel_rfl) rfl ?_
  have e5 : (Int.fdiv (x : Int) (2 ^ 22)) = ((x / 2 ^ 22 : Nat) : Int) := n_shr x 22
  have e6 : (IntKind.u32.wrap ((x : Int) * 2 ^ 10)) = ((x * 2 ^ 10 % W32 : Nat) : Int) := w_shl x 10
  have e7 : (Go.bits .or .u32 ((x / 2 ^ 22 : Nat) : Int) ((x * 2 ^ 10 % W32 : Nat) : Int)) = ((rt x 22 : Nat) : Int) := (w_or (Nat.lt_of_le_of_lt (Nat.div_le_self _ _) hx) (Nat.mod_lt _ (by decide))).trans (by rw [Nat.or_comm]; rfl)
  refine GQ.eq (M' := [(4, .int .u32 ((rt x 22 : Nat) : Int))]) (by rw [e5, e6, e7]) ?_
  clear e5 e6 e7
  refine GQ.k rfl hK4 (fun _ _ h => h) (fun w8 H9 => ?_)
  refine G.ret ?_
  intro F_ hF_ hM_
  refine hRet _ _ (bodyPost_1 rfl (RV.tmp rfl) ?_ F_ hF_ hM_)
  exact ⟨rfl, H9⟩
theorem TurnR25_calls (x : Nat) (hx : x < W32) (w : World) : Calls Try.prog 39 #[.int .u32 (x : Int), .int .i64 25] w fun e w' => e = .returned (.int .u32 ((rt x 25 : Nat) : Int)) ∧ Hp w [] [] w' := by
  refine calls_G (args := [.int .u32 (x : Int), .int .i64 25]) Try.func39 rfl Try.ntmps39 rfl ?_
  intro Q0 hRet hNor hPan
  have H := Hp.start w
  have H : Hp w [] [] w := H
  refine G.seqK fun K1 hK2 => ?_
  refine G.region ?_
  refine GL.run (j := 1) 1 [0, 1] [(0, .int .u32 (x : Int)), (1, .int .i64 25)] (by kernel_rfl) rfl ?_
  refine GL.k rfl hK2 (fun _ _ h => h) ?_
  refine G.seqK fun K3 hK4 => ?_
  refine G.draw H (by kernel_rfl) (by kernel_rfl) ?_
  refine GQ.run (j := 9) 9 [4] [(4, .int .u32 (Go.bits .or .u32 (Int.fdiv (x : Int) (2 ^ 25)) (IntKind.u32.wrap ((x : Int) * 2 ^ 7))))] (by kernel_rfl) rfl ?_
  have e5 : (Int.fdiv (x : Int) (2 ^ 25)) = ((x / 2 ^ 25 : Nat) : Int) := n_shr x 25
  have e6 : (IntKind.u32.wrap ((x : Int) * 2 ^ 7)) = ((x * 2 ^ 7 % W32 : Nat) : Int) := w_shl x 7
  have e7 : (Go.bits .or .u32 ((x / 2 ^ 25 : Nat) : Int) ((x * 2 ^ 7 % W32 : Nat) : Int)) = ((rt x 25 : Nat) : Int) := (w_or (Nat.lt_of_le_of_lt (Nat.div_le_self _ _) hx) (Nat.mod_lt _ (by decide))).trans (by rw [Nat.or_comm]; rfl)
  refine GQ.eq (M' := [(4, .int .u32 ((rt x 25 : Nat) : Int))]) (by rw [e5, e6, e7]) ?_
  clear e5 e6 e7
  refine GQ.k rfl hK4 (fun _ _ h => h) (fun w8 H9 => ?_)
  refine G.ret ?_
  intro F_ hF_ hM_
  refine hRet _ _ (bodyPost_1 rfl (RV.tmp rfl) ?_ F_ hF_ hM_)
  exact ⟨rfl, H9⟩
end Go.Proofs.Ytgmggjnoegelgaa
namespace Go.Proofs.Ytgmggjnoegelgaa
open Go.RowKit
section
variable {P : Program} {n : Nat} {M : FM} {w : World}
theorem G.seqJ {a b : Code} {Q : Exit → Act → World → Prop} {X : Type} (Mx : X → FM) (J : X → World → Prop)
    (h : (∀ x w', J x w' → G P b Q n (Mx x) w') → ∀ K : Act → World → Prop, (∀ a w, b.wp P Q a w → K a w) → G P a (Exit.then K Q) n M w)
    (hb : ∀ x w', J x w' → G P b Q n (Mx x) w') : G P (.seq a b) Q n M w := G.seqK fun K hK => h hb K hK
end
end Go.Proofs.Ytgmggjnoegelgaa
