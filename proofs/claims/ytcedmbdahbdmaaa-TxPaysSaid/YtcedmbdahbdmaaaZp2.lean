/- Part 2 of what txPays_proved stands on. -/
import Derived.Test.YtcedmbdahbdmaaaZp1
set_option linter.unusedVariables false
set_option maxRecDepth 100000
namespace Go.Proofs.Ytcedmbdahbdmaaa
open Go.RowKit
theorem Grow_nil (n : Nat) (hn : n ≤ 1099511627776) (w : World) : Calls Try.prog 72 #[.slice none 0 0, .int .i64 (n : Int)] w fun e w' =>
    ∃ A c, e = .returned (.slice A 0 c) ∧ n ≤ c ∧ Hp w [] [.row A 0 c 5 1 (by8 [])] w' := by
  refine calls_G (args := [.slice none 0 0, .int .i64 (n : Int)]) Try.func72 rfl Try.ntmps72 rfl ?_
  intro Q0 hRet hNor hPan
  have H := Hp.start w
  have H : Hp w [] [] w := H
  refine G.seqK fun K1 hK2 => ?_
  refine G.region ?_
  refine GL.run (j := 1) 1 [0, 1] [(0, .slice none 0 0), (1, .int .i64 (n : Int))] (by kernel_rfl) rfl ?_
  refine GL.k rfl hK2 (fun _ _ h => h) ?_
  refine G.seqK fun K3 hK4 => ?_
  refine G.seqK fun K5 hK6 => ?_
  refine G.region ?_
  refine GL.run (j := 2) 2 [0, 1, 6] [(0, .slice none 0 0), (1, .int .i64 (n : Int)), (6, .bool (decide ((n : Int) < 0)))] (by kernel_rfl) rfl ?_
  refine GL.k rfl hK6 (fun _ _ h => h) ?_
  have hb7 : (decide ((n : Int) < 0)) = false := decide_eq_false (by omega)
  rw [hb7]
  refine G.no rfl ?_
  refine G.skipK hK4 (fun _ _ h => h) ?_
  refine G.seqK fun K8 hK9 => ?_
  refine G.seqK fun K10 hK11 => ?_
  refine G.region ?_
  refine GL.run (j := 8) 8 [0, 1] [(0, .slice none 0 0), (1, .int .i64 (IntKind.i64.wrap ((n : Int) - 0)))] (by kernel_rfl) rfl ?_
  have e12 : (IntKind.i64.wrap ((n : Int) - 0)) = (n : Int) := by rw [in_i64 (by omega)]; omega
  refine GL.eq (M' := [(0, .slice none 0 0), (1, .int .i64 (n : Int))]) (by rw [e12]) ?_
  clear e12
  refine GL.k rfl hK11 (fun _ _ h => h) ?_
  refine G.seqK fun K13 hK14 => ?_
  refine G.region ?_
  refine GL.run (j := 2) 2 [0, 1, 16] [(0, .slice none 0 0), (1, .int .i64 (n : Int)), (16, .bool (decide (0 < (n : Int))))] (by kernel_rfl) rfl ?_
  refine GL.k rfl hK14 (fun _ _ h => h) ?_
  cases hb15 : (decide (0 < (n : Int)))
  · skip
    have hb15f := of_decide_eq_false hb15
    have hn0 : n = 0 := by have := of_decide_eq_false hb15; omega
    refine G.no rfl ?_
    refine G.skipK hK9 (fun _ _ h => h) ?_
    refine G.seqK fun K16 hK17 => ?_
    refine G.region ?_
    refine GL.run (j := 2) 2 [4] [(4, .slice none 0 0)] (by kernel_rfl) rfl ?_
    refine GL.k rfl hK17 (fun _ _ h => h) ?_
    refine G.ret ?_
    intro F_ hF_ hM_
    refine hRet _ _ (bodyPost_1 rfl (RV.tmp rfl) ?_ F_ hF_ hM_)
    exact ⟨none, 0, rfl, by omega, H.rowNil 5 1⟩
  · skip
    have hb15f := of_decide_eq_true hb15
    have hn0 : 0 < n := by have := of_decide_eq_true hb15; omega
    refine G.yes rfl ?_
    refine G.region ?_
    refine GL.run (j := 5) 5 [0, 20, 21] [(0, .slice none 0 0), (20, .slice none 0 0), (21, .int .i64 (n : Int))] (by kernel_rfl) rfl ?_
    obtain ⟨b18, c19, w20, r21, hc22, H23⟩ := H.appendMake (P := Try.prog) (t := 38) (ti := 3) (ty := 38) (by_ := 1) (n := n) (by kernel_rfl) (by kernel_rfl) (by assumption) (by omega) (by simp only [maxLen]; omega)
    have H23 : Hp w [] [.row (some ⟨b18, 0, none⟩) 0 c19 5 1 (by8 [])] w20 := H23
    refine GL.sem (j := 6) (r21) [0, 22] [(0, .slice none 0 0), (22, .slice (some ⟨b18, 0, none⟩) n c19)] (by kernel_rfl) (by kernel_rfl) rfl ?_
    refine GL.run (j := 8) 2 [22, 24] [(22, .slice (some ⟨b18, 0, none⟩) n c19), (24, .int .i64 0)] (by kernel_rfl) rfl ?_
    refine GL.sem (j := 9) (run_sliceSl0 (P := Try.prog) (lo := none) (hi := some (.int .i64 0)) (t := 38) (len := n) (cap := c19) (A := (some ⟨b18, 0, none⟩)) (h := 0) (by kernel_rfl) (Or.inl ⟨rfl, rfl⟩) (Or.inr ⟨_, _, rfl, rfl⟩) (by omega)) [25] [(25, .slice (some ⟨b18, 0, none⟩) 0 c19)] (by kernel_rfl) (by kernel_rfl) rfl ?_
    refine GL.run (j := 10) 1 [0] [(0, .slice (some ⟨b18, 0, none⟩) 0 c19)] (by kernel_rfl) rfl ?_
    refine GL.k rfl hK9 (fun _ _ h => h) ?_
    refine G.seqK fun K24 hK25 => ?_
    refine G.region ?_
    refine GL.run (j := 2) 2 [4] [(4, .slice (some ⟨b18, 0, none⟩) 0 c19)] (by kernel_rfl) rfl ?_
    refine GL.k rfl hK25 (fun _ _ h => h) ?_
    refine G.ret ?_
    intro F_ hF_ hM_
    refine hRet _ _ (bodyPost_1 rfl (RV.tmp rfl) ?_ F_ hF_ hM_)
    exact ⟨_, _, rfl, by omega, H23⟩
theorem Concat_calls (b : Nat) (vs : List SB) (w : World) (hb : Blk w b (vs.map sv) 38) (hr : ∀ s ∈ vs, RdS w s.1 (by8 s.2.2)) (hn : (flat vs).length ≤ 1099511627776) (hvs : vs.length ≤ 1099511627776) :
    Calls Try.prog 53 #[.slice (some ⟨b, 0, none⟩) vs.length vs.length] w fun e w' => ∃ A c, e = .returned (.slice A (flat vs).length c) ∧ Hp w [] [.row A (flat vs).length c 5 1 (by8 (flat vs))] w' := by
  refine calls_G (args := [.slice (some ⟨b, 0, none⟩) vs.length vs.length]) Try.func53 rfl Try.ntmps53 rfl ?_
  intro Q0 hRet hNor hPan
  have H := Hp.start w
  have H : Hp w [] [] w := H
  refine G.seqK fun K1 hK2 => ?_
  refine G.region ?_
  refine GL.run (j := 1) 1 [0] [(0, .slice (some ⟨b, 0, none⟩) vs.length vs.length)] (by kernel_rfl) rfl ?_
  refine GL.k rfl hK2 (fun _ _ h => h) ?_
  refine G.seqK fun K3 hK4 => ?_
  refine G.region ?_
  refine GL.run (j := 1) 1 [0, 3] [(0, .slice (some ⟨b, 0, none⟩) vs.length vs.length), (3, .int .i64 0)] (by kernel_rfl) rfl ?_
  refine GL.k rfl hK4 (fun _ _ h => h) ?_
  refine G.seqK fun K5 hK6 => ?_
  refine G.seqK fun K7 hK8 => ?_
  refine G.region ?_
  refine GL.run (j := 3) 3 [0, 3, 9, 10, 11] [(0, .slice (some ⟨b, 0, none⟩) vs.length vs.length), (3, .int .i64 0), (9, .slice (some ⟨b, 0, none⟩) vs.length vs.length), (10, .int .i64 (vs.length : Int)), (11, .int .i64 0)] (by kernel_rfl) rfl ?_
  refine GL.k rfl hK8 (fun _ _ h => h) ?_
  refine G.block ?_
  refine G.fit [0, 3, 9, 10, 11] (M' := [(0, .slice (some ⟨b, 0, none⟩) vs.length vs.length), (3, .int .i64 0), (9, .slice (some ⟨b, 0, none⟩) vs.length vs.length), (10, .int .i64 (vs.length : Int)), (11, .int .i64 0)]) (by kernel_rfl) ?_
  refine G.eq (M' := [(0, .slice (some ⟨b, 0, none⟩) vs.length vs.length), (3, .int .i64 (((flat (vs.take 0)).length : Nat) : Int)), (9, .slice (some ⟨b, 0, none⟩) vs.length vs.length), (10, .int .i64 (vs.length : Int)), (11, .int .i64 0)]) (by rfl) ?_
  refine G.loop (X := Nat) (fun k => [(0, .slice (some ⟨b, 0, none⟩) vs.length vs.length), (3, .int .i64 (((flat (vs.take k)).length : Nat) : Int)), (9, .slice (some ⟨b, 0, none⟩) vs.length vs.length), (10, .int .i64 (vs.length : Int)), (11, .int .i64 (k : Int))]) (fun k w_ => (k ≤ vs.length) ∧ Hp w [] [] w_) (fun k => vs.length - (k)) 0 [0, 3, 9, 10, 11] (by kernel_rfl) ⟨Nat.zero_le _, H⟩ ?_
  rintro k w9 ⟨hi10, H11⟩
  refine G.eq (M' := [(0, .slice (some ⟨b, 0, none⟩) vs.length vs.length), (3, .int .i64 (((flat (vs.take k)).length : Nat) : Int)), (9, .slice (some ⟨b, 0, none⟩) vs.length vs.length), (10, .int .i64 (vs.length : Int)), (11, .int .i64 (k : Int))]) rfl ?_
  have H11 : Hp w [] [] w9 := H11
  have hk := hi10
  refine G.seqK fun K12 hK13 => ?_
  refine G.region ?_
  refine GL.run (j := 1) 1 [0, 3, 9, 10, 11, 12] [(0, .slice (some ⟨b, 0, none⟩) vs.length vs.length), (3, .int .i64 (((flat (vs.take k)).length : Nat) : Int)), (9, .slice (some ⟨b, 0, none⟩) vs.length vs.length), (10, .int .i64 (vs.length : Int)), (11, .int .i64 (k : Int)), (12, .bool (decide ((k : Int) < (vs.length : Int))))] (by kernel_rfl) rfl ?_
  refine GL.k rfl hK13 (fun _ _ h => h) ?_
  refine G.seqK fun K14 hK15 => ?_
  cases hb16 : (decide ((k : Int) < (vs.length : Int)))
  · skip
    have hb16f := of_decide_eq_false hb16
    have hge : vs.length ≤ k := by have := of_decide_eq_false hb16; omega
    refine G.no rfl ?_
    refine G.exitK hK6 (fun _ _ h => h) ?_
    refine G.seqK fun K17 hK18 => ?_
    refine G.region ?_
    refine GL.run (j := 1) 1 [0, 23] [(0, .slice (some ⟨b, 0, none⟩) vs.length vs.length), (23, .int .i64 (((flat (vs.take k)).length : Nat) : Int))] (by kernel_rfl) rfl ?_
    have e0 : vs.take k = vs := List.take_of_length_le (by omega)
    rw [e0]
    refine GL.call (j := 2) (Grow_nil ((flat vs).length) (by omega) w9) (by kernel_rfl) rfl (fun e_ w21 hR => ?_)
    obtain ⟨A19, c20, rfl, _, H23⟩ := hR
    have H22 : Hp w [] [.row A19 0 c20 5 1 (by8 [])] w21 := H11.callNew H23
    refine ⟨_, rfl, [0, 24], [(0, .slice (some ⟨b, 0, none⟩) vs.length vs.length), (24, .slice A19 0 c20)], by kernel_rfl, ?_⟩
    refine GL.run (j := 3) 1 [0, 6] [(0, .slice (some ⟨b, 0, none⟩) vs.length vs.length), (6, .slice A19 0 c20)] (by kernel_rfl) rfl ?_
    refine GL.k rfl hK18 (fun _ _ h => h) ?_
    refine G.seqK fun K24 hK25 => ?_
    refine G.seqK fun K26 hK27 => ?_
    refine G.region ?_
    refine GL.run (j := 3) 3 [6, 25, 26, 27] [(6, .slice A19 0 c20), (25, .slice (some ⟨b, 0, none⟩) vs.length vs.length), (26, .int .i64 (vs.length : Int)), (27, .int .i64 0)] (by kernel_rfl) rfl ?_
    refine GL.k rfl hK27 (fun _ _ h => h) ?_
    refine G.block ?_
    refine G.fit [6, 25, 26, 27] (M' := [(6, .slice A19 0 c20), (25, .slice (some ⟨b, 0, none⟩) vs.length vs.length), (26, .int .i64 (vs.length : Int)), (27, .int .i64 0)]) (by kernel_rfl) ?_
    refine G.eq (M' := [(6, .slice A19 ((flat (vs.take 0)).length) c20), (25, .slice (some ⟨b, 0, none⟩) vs.length vs.length), (26, .int .i64 (vs.length : Int)), (27, .int .i64 0)]) (by rfl) ?_
    refine G.loop (X := Nat × Option Addr × Nat) (fun ⟨k, A, c⟩ => [(6, .slice A ((flat (vs.take k)).length) c), (25, .slice (some ⟨b, 0, none⟩) vs.length vs.length), (26, .int .i64 (vs.length : Int)), (27, .int .i64 (k : Int))]) (fun ⟨k, A, c⟩ w_ => (k ≤ vs.length) ∧ Hp w [] [.row A ((flat (vs.take k)).length) c 5 1 (by8 (flat (vs.take k)))] w_) (fun ⟨k, A, c⟩ => vs.length - (k)) ⟨0, A19, c20⟩ [6, 25, 26, 27] (by kernel_rfl) ⟨Nat.zero_le _, H22⟩ ?_
    rintro ⟨k, A, c⟩ w28 ⟨hi29, H30⟩
    refine G.eq (M' := [(6, .slice A ((flat (vs.take k)).length) c), (25, .slice (some ⟨b, 0, none⟩) vs.length vs.length), (26, .int .i64 (vs.length : Int)), (27, .int .i64 (k : Int))]) rfl ?_
    have H30 : Hp w [] [.row A ((flat (vs.take k)).length) c 5 1 (by8 (flat (vs.take k)))] w28 := H30
    have hk := hi29
    refine G.seqK fun K31 hK32 => ?_
    refine G.region ?_
    refine GL.run (j := 1) 1 [6, 25, 26, 27, 28] [(6, .slice A ((flat (vs.take k)).length) c), (25, .slice (some ⟨b, 0, none⟩) vs.length vs.length), (26, .int .i64 (vs.length : Int)), (27, .int .i64 (k : Int)), (28, .bool (decide ((k : Int) < (vs.length : Int))))] (by kernel_rfl) rfl ?_
    refine GL.k rfl hK32 (fun _ _ h => h) ?_
    refine G.seqK fun K33 hK34 => ?_
    cases hb35 : (decide ((k : Int) < (vs.length : Int)))
    · skip
      have hb35f := of_decide_eq_false hb35
      have hge : vs.length ≤ k := by have := of_decide_eq_false hb35; omega
      refine G.no rfl ?_
      refine G.exitK hK25 (fun _ _ h => h) ?_
      refine G.seqK fun K36 hK37 => ?_
      refine G.region ?_
      refine GL.run (j := 2) 2 [2] [(2, .slice A ((flat (vs.take k)).length) c)] (by kernel_rfl) rfl ?_
      refine GL.k rfl hK37 (fun _ _ h => h) ?_
      refine G.ret ?_
      intro F_ hF_ hM_
      refine hRet _ _ (bodyPost_1 rfl (RV.tmp rfl) ?_ F_ hF_ hM_)
      have e0 : vs.take k = vs := List.take_of_length_le (by omega)
      rw [e0] at H30 ⊢
      exact ⟨_, _, rfl, H30⟩
    · skip
      have hb35f := of_decide_eq_true hb35
      have hlt : k < vs.length := by have := of_decide_eq_true hb35; omega
      obtain ⟨s, hs⟩ : ∃ s, vs[k]? = some s := ⟨vs[k], List.getElem?_eq_getElem hlt⟩
      have e1 := flat_take hs
      have e2 := flat_le vs (k + 1)
      rw [e1, List.length_append] at e2
      refine G.yes rfl ?_
      refine G.skipK hK34 (fun _ _ h => h) ?_
      refine G.seqK fun K38 hK39 => ?_
      refine G.block ?_
      refine G.seqK fun K40 hK41 => ?_
      refine G.region ?_
      refine GL.sem (j := 1) (run_idxSl (P := Try.prog) (k := .i64) (t := 125) (sz := 1) (a := ⟨b, 0, none⟩) (len := vs.length) (cap := vs.length) (j := k) (by kernel_rfl) rfl (by first | rfl | omega | (simp only [List.length_cons, List.length_nil, List.length_drop, List.length_take, List.length_append] <;> omega))) [6, 25, 26, 27, 29] [(6, .slice A ((flat (vs.take k)).length) c), (25, .slice (some ⟨b, 0, none⟩) vs.length vs.length), (26, .int .i64 (vs.length : Int)), (27, .int .i64 (k : Int)), (29, .pointer (some (Addr.add ⟨b, 0, none⟩ (k * 1))))] (by kernel_rfl) (by kernel_rfl) rfl ?_
      refine GL.sem (j := 2) (run_ld1 (P := Try.prog) (ty := 38) (a := (Addr.add ⟨b, 0, none⟩ (k * 1))) (v := sv s) (by kernel_rfl) (by rw [addr_add, (H30.oldBlk hb).cell]; simp [hs])) [6, 25, 26, 27, 30] [(6, .slice A ((flat (vs.take k)).length) c), (25, .slice (some ⟨b, 0, none⟩) vs.length vs.length), (26, .int .i64 (vs.length : Int)), (27, .int .i64 (k : Int)), (30, .slice s.1 s.2.2.length s.2.1)] (by kernel_rfl) (by kernel_rfl) rfl ?_
      refine GL.run (j := 3) 1 [6, 8, 25, 26, 27] [(6, .slice A ((flat (vs.take k)).length) c), (8, .slice s.1 s.2.2.length s.2.1), (25, .slice (some ⟨b, 0, none⟩) vs.length vs.length), (26, .int .i64 (vs.length : Int)), (27, .int .i64 (k : Int))] (by kernel_rfl) rfl ?_
      refine GL.k rfl hK41 (fun _ _ h => h) ?_
      refine G.region ?_
      refine GL.run (j := 2) 2 [25, 26, 27, 31, 32] [(25, .slice (some ⟨b, 0, none⟩) vs.length vs.length), (26, .int .i64 (vs.length : Int)), (27, .int .i64 (k : Int)), (31, .slice A ((flat (vs.take k)).length) c), (32, .slice s.1 s.2.2.length s.2.1)] (by kernel_rfl) rfl ?_
      obtain ⟨A42, c43, w44, r45, H46⟩ := H30.append (P := Try.prog) (e := 5) (sz := 1) (by_ := 1) (n := (flat (vs.take k)).length) (c := c) (m := s.2.2.length) (d := s.2.1) (t := 38) (ty := 38) (xs := by8 (flat (vs.take k))) (news := by8 s.2.2) 0 rfl (by kernel_rfl) ((hr s (List.mem_of_getElem? hs)).hp H30) (by simp [by8_length]) (by8_one _) (by omega) (by simp only [maxLen]; omega)
      rw [← by8_append] at H46
      have H46 : Hp w [] [.row A42 ((flat (vs.take k)).length + s.2.2.length) c43 5 1 (by8 ((flat (vs.take k)) ++ s.2.2))] w44 := H46
      refine GL.sem (j := 3) (r45) [25, 26, 27, 33] [(25, .slice (some ⟨b, 0, none⟩) vs.length vs.length), (26, .int .i64 (vs.length : Int)), (27, .int .i64 (k : Int)), (33, .slice A42 ((flat (vs.take k)).length + s.2.2.length) c43)] (by kernel_rfl) (by kernel_rfl) rfl ?_
      refine GL.run (j := 4) 1 [6, 25, 26, 27] [(6, .slice A42 ((flat (vs.take k)).length + s.2.2.length) c43), (25, .slice (some ⟨b, 0, none⟩) vs.length vs.length), (26, .int .i64 (vs.length : Int)), (27, .int .i64 (k : Int))] (by kernel_rfl) rfl ?_
      refine GL.k rfl hK39 (fun _ _ h => h) ?_
      refine G.region ?_
      refine GL.run (j := 2) 2 [6, 25, 26, 27] [(6, .slice A42 ((flat (vs.take k)).length + s.2.2.length) c43), (25, .slice (some ⟨b, 0, none⟩) vs.length vs.length), (26, .int .i64 (vs.length : Int)), (27, .int .i64 (IntKind.i64.wrap ((k : Int) + 1)))] (by kernel_rfl) rfl ?_
      have e47 : (IntKind.i64.wrap ((k : Int) + 1)) = ((k + 1 : Nat) : Int) := by rw [in_i64 (by omega)]; omega
      refine GL.eq (M' := [(6, .slice A42 ((flat (vs.take k)).length + s.2.2.length) c43), (25, .slice (some ⟨b, 0, none⟩) vs.length vs.length), (26, .int .i64 (vs.length : Int)), (27, .int .i64 ((k + 1 : Nat) : Int))]) (by rw [e47]) ?_
      clear e47
      have H48 : Hp w [] [.row A42 ((flat (vs.take (k + 1))).length) c43 5 1 (by8 (flat (vs.take (k + 1))))] w44 := by rw [e1, List.length_append]; exact H46
      refine GL.fit (ts := [6, 25, 26, 27]) (M' := [(6, .slice A42 ((flat (vs.take k)).length + s.2.2.length) c43), (25, .slice (some ⟨b, 0, none⟩) vs.length vs.length), (26, .int .i64 (vs.length : Int)), (27, .int .i64 ((k + 1 : Nat) : Int))]) (by kernel_rfl) ?_
      refine GL.eq (M' := [(6, .slice A42 ((flat (vs.take (k + 1))).length) c43), (25, .slice (some ⟨b, 0, none⟩) vs.length vs.length), (26, .int .i64 (vs.length : Int)), (27, .int .i64 ((k + 1 : Nat) : Int))]) (by rw [e1, List.length_append]) ?_
      exact GL.again ⟨k + 1, A42, c43⟩ [6, 25, 26, 27] rfl (by kernel_rfl) (by show vs.length - (k + 1) < vs.length - (k); omega) ⟨by omega, H48⟩
  · skip
    have hb16f := of_decide_eq_true hb16
    have hlt : k < vs.length := by have := of_decide_eq_true hb16; omega
    obtain ⟨s, hs⟩ : ∃ s, vs[k]? = some s := ⟨vs[k], List.getElem?_eq_getElem hlt⟩
    have e1 := flat_take hs
    have e2 := flat_le vs (k + 1)
    rw [e1, List.length_append] at e2
    refine G.yes rfl ?_
    refine G.skipK hK15 (fun _ _ h => h) ?_
    refine G.seqK fun K49 hK50 => ?_
    refine G.block ?_
    refine G.seqK fun K51 hK52 => ?_
    refine G.region ?_
    refine GL.sem (j := 1) (run_idxSl (P := Try.prog) (k := .i64) (t := 125) (sz := 1) (a := ⟨b, 0, none⟩) (len := vs.length) (cap := vs.length) (j := k) (by kernel_rfl) rfl (by first | rfl | omega | (simp only [List.length_cons, List.length_nil, List.length_drop, List.length_take, List.length_append] <;> omega))) [0, 3, 9, 10, 11, 13] [(0, .slice (some ⟨b, 0, none⟩) vs.length vs.length), (3, .int .i64 (((flat (vs.take k)).length : Nat) : Int)), (9, .slice (some ⟨b, 0, none⟩) vs.length vs.length), (10, .int .i64 (vs.length : Int)), (11, .int .i64 (k : Int)), (13, .pointer (some (Addr.add ⟨b, 0, none⟩ (k * 1))))] (by kernel_rfl) (by kernel_rfl) rfl ?_
    refine GL.sem (j := 2) (run_ld1 (P := Try.prog) (ty := 38) (a := (Addr.add ⟨b, 0, none⟩ (k * 1))) (v := sv s) (by kernel_rfl) (by rw [addr_add, (H11.oldBlk hb).cell]; simp [hs])) [0, 3, 9, 10, 11, 14] [(0, .slice (some ⟨b, 0, none⟩) vs.length vs.length), (3, .int .i64 (((flat (vs.take k)).length : Nat) : Int)), (9, .slice (some ⟨b, 0, none⟩) vs.length vs.length), (10, .int .i64 (vs.length : Int)), (11, .int .i64 (k : Int)), (14, .slice s.1 s.2.2.length s.2.1)] (by kernel_rfl) (by kernel_rfl) rfl ?_
    refine GL.run (j := 3) 1 [0, 3, 5, 9, 10, 11] [(0, .slice (some ⟨b, 0, none⟩) vs.length vs.length), (3, .int .i64 (((flat (vs.take k)).length : Nat) : Int)), (5, .slice s.1 s.2.2.length s.2.1), (9, .slice (some ⟨b, 0, none⟩) vs.length vs.length), (10, .int .i64 (vs.length : Int)), (11, .int .i64 (k : Int))] (by kernel_rfl) rfl ?_
    refine GL.k rfl hK52 (fun _ _ h => h) ?_
    refine G.seqK fun K53 hK54 => ?_
    refine G.region ?_
    refine GL.run (j := 5) 5 [0, 3, 9, 10, 11] [(0, .slice (some ⟨b, 0, none⟩) vs.length vs.length), (3, .int .i64 (IntKind.i64.wrap ((((flat (vs.take k)).length : Nat) : Int) + (s.2.2.length : Int)))), (9, .slice (some ⟨b, 0, none⟩) vs.length vs.length), (10, .int .i64 (vs.length : Int)), (11, .int .i64 (k : Int))] (by kernel_rfl) rfl ?_
    have e55 : (IntKind.i64.wrap ((((flat (vs.take k)).length : Nat) : Int) + (s.2.2.length : Int))) = ((((flat (vs.take k)).length) + s.2.2.length : Nat) : Int) := by rw [in_i64 (by first | rfl | omega | (simp only [List.length_cons, List.length_nil, List.length_drop, List.length_take, List.length_append] <;> omega))]; omega
    refine GL.eq (M' := [(0, .slice (some ⟨b, 0, none⟩) vs.length vs.length), (3, .int .i64 ((((flat (vs.take k)).length) + s.2.2.length : Nat) : Int)), (9, .slice (some ⟨b, 0, none⟩) vs.length vs.length), (10, .int .i64 (vs.length : Int)), (11, .int .i64 (k : Int))]) (by rw [e55]) ?_
    clear e55
    refine GL.k rfl hK54 (fun _ _ h => h) ?_
    refine G.seqK fun K56 hK57 => ?_
    refine G.region ?_
    refine GL.run (j := 2) 2 [0, 3, 9, 10, 11, 20] [(0, .slice (some ⟨b, 0, none⟩) vs.length vs.length), (3, .int .i64 ((((flat (vs.take k)).length) + s.2.2.length : Nat) : Int)), (9, .slice (some ⟨b, 0, none⟩) vs.length vs.length), (10, .int .i64 (vs.length : Int)), (11, .int .i64 (k : Int)), (20, .bool (decide (((((flat (vs.take k)).length) + s.2.2.length : Nat) : Int) < 0)))] (by kernel_rfl) rfl ?_
    refine GL.k rfl hK57 (fun _ _ h => h) ?_
    have hb58 : (decide (((((flat (vs.take k)).length) + s.2.2.length : Nat) : Int) < 0)) = false := decide_eq_false (by omega)
    rw [hb58]
    refine G.no rfl ?_
    refine G.skipK hK50 (fun _ _ h => h) ?_
    refine G.region ?_
    refine GL.run (j := 2) 2 [0, 3, 9, 10, 11] [(0, .slice (some ⟨b, 0, none⟩) vs.length vs.length), (3, .int .i64 ((((flat (vs.take k)).length) + s.2.2.length : Nat) : Int)), (9, .slice (some ⟨b, 0, none⟩) vs.length vs.length), (10, .int .i64 (vs.length : Int)), (11, .int .i64 (IntKind.i64.wrap ((k : Int) + 1)))] (by kernel_rfl) rfl ?_
    have e59 : (IntKind.i64.wrap ((k : Int) + 1)) = ((k + 1 : Nat) : Int) := by rw [in_i64 (by omega)]; omega
    refine GL.eq (M' := [(0, .slice (some ⟨b, 0, none⟩) vs.length vs.length), (3, .int .i64 ((((flat (vs.take k)).length) + s.2.2.length : Nat) : Int)), (9, .slice (some ⟨b, 0, none⟩) vs.length vs.length), (10, .int .i64 (vs.length : Int)), (11, .int .i64 ((k + 1 : Nat) : Int))]) (by rw [e59]) ?_
    clear e59
    refine GL.fit (ts := [0, 3, 9, 10, 11]) (M' := [(0, .slice (some ⟨b, 0, none⟩) vs.length vs.length), (3, .int .i64 ((((flat (vs.take k)).length) + s.2.2.length : Nat) : Int)), (9, .slice (some ⟨b, 0, none⟩) vs.length vs.length), (10, .int .i64 (vs.length : Int)), (11, .int .i64 ((k + 1 : Nat) : Int))]) (by kernel_rfl) ?_
    refine GL.eq (M' := [(0, .slice (some ⟨b, 0, none⟩) vs.length vs.length), (3, .int .i64 (((flat (vs.take (k + 1))).length : Nat) : Int)), (9, .slice (some ⟨b, 0, none⟩) vs.length vs.length), (10, .int .i64 (vs.length : Int)), (11, .int .i64 ((k + 1 : Nat) : Int))]) (by rw [e1, List.length_append]) ?_
    exact GL.again (k + 1) [0, 3, 9, 10, 11] rfl (by kernel_rfl) (by show vs.length - (k + 1) < vs.length - (k); omega) ⟨by omega, H11⟩
theorem Equal_calls (xs ys : List UInt8) (A B : Option Addr) (c d : Nat) (w : World) (hx : RdS w A (by8 xs)) (hy : RdS w B (by8 ys)) : Calls Try.prog 29 #[.slice A xs.length c, .slice B ys.length d] w fun e w' => e = .returned (.bool (xs == ys)) ∧ Hp w [] [] w' := by
  refine calls_G (args := [.slice A xs.length c, .slice B ys.length d]) Try.func29 rfl Try.ntmps29 rfl ?_
  intro Q0 hRet hNor hPan
  have H := Hp.start w
  have H : Hp w [] [] w := H
  refine G.seqK fun K1 hK2 => ?_
  refine G.region ?_
  refine GL.run (j := 1) 1 [0, 1] [(0, .slice A xs.length c), (1, .slice B ys.length d)] (by kernel_rfl) rfl ?_
  refine GL.k rfl hK2 (fun _ _ h => h) ?_
  refine G.seqK fun K3 hK4 => ?_
  refine G.region ?_
  refine GL.run (j := 1) 1 [1, 5] [(1, .slice B ys.length d), (5, .slice A xs.length c)] (by kernel_rfl) rfl ?_
  refine GL.sem (j := 2) (run_toStr (P := Try.prog) (src := 38) (dst := 9) (A := A) (bs := xs) (n := xs.length) (c := c) (by kernel_rfl) (by kernel_rfl) (hx.hp H) (rfl)) [1, 6] [(1, .slice B ys.length d), (6, .string (strOf xs))] (by kernel_rfl) (by kernel_rfl) rfl ?_
  refine GL.run (j := 3) 1 [6, 7] [(6, .string (strOf xs)), (7, .slice B ys.length d)] (by kernel_rfl) rfl ?_
  refine GL.sem (j := 4) (run_toStr (P := Try.prog) (src := 38) (dst := 9) (A := B) (bs := ys) (n := ys.length) (c := d) (by kernel_rfl) (by kernel_rfl) (hy.hp H) (rfl)) [6, 8] [(6, .string (strOf xs)), (8, .string (strOf ys))] (by kernel_rfl) (by kernel_rfl) rfl ?_
  refine GL.sem (j := 5) (run_str_eql (P := Try.prog) (t := 9) xs ys _) [9] [(9, .bool (xs == ys))] (by kernel_rfl) (by kernel_rfl) rfl ?_
  refine GL.run (j := 6) 1 [4] [(4, .bool (xs == ys))] (by kernel_rfl) rfl ?_
  refine GL.k rfl hK4 (fun _ _ h => h) ?_
  refine G.ret ?_
  intro F_ hF_ hM_
  refine hRet _ _ (bodyPost_1 rfl (RV.tmp rfl) ?_ F_ hF_ hM_)
  exact ⟨rfl, H.sub (List.nil_sublist _)⟩
theorem SClone_calls (xs : List UInt8) (A : Option Addr) (c : Nat) (w : World) (hx : RdS w A (by8 xs)) (hA : A.isNone = false) (hn : xs.length ≤ 1099511627776) : Calls Try.prog 30 #[.slice A xs.length c] w fun e w' => ∃ A c, e = .returned ((.slice A xs.length c)) ∧ Hp w [] [.row A xs.length c 5 1 (by8 xs)] w' := by
  refine calls_G (args := [.slice A xs.length c]) Try.func30 rfl Try.ntmps30 rfl ?_
  intro Q0 hRet hNor hPan
  have H := Hp.start w
  have H : Hp w [] [] w := H
  refine G.seqK fun K1 hK2 => ?_
  refine G.region ?_
  refine GL.run (j := 1) 1 [0] [(0, .slice A xs.length c)] (by kernel_rfl) rfl ?_
  refine GL.k rfl hK2 (fun _ _ h => h) ?_
  refine G.seqK fun K3 hK4 => ?_
  refine G.seqK fun K5 hK6 => ?_
  refine G.region ?_
  refine GL.run (j := 1) 1 [0, 3] [(0, .slice A xs.length c), (3, .slice A xs.length c)] (by kernel_rfl) rfl ?_
  refine GL.sem (j := 2) (run_sl_nil (P := Try.prog) (sz := 1) (t := 38) (n := xs.length) (c := c) (A := A) (by kernel_rfl) _) [0, 4] [(0, .slice A xs.length c), (4, .bool (Option.isNone A))] (by kernel_rfl) (by kernel_rfl) rfl ?_
  refine GL.k rfl hK6 (fun _ _ h => h) ?_
  have hb7 : (Option.isNone A) = false := hA
  rw [hb7]
  refine G.no rfl ?_
  refine G.skipK hK4 (fun _ _ h => h) ?_
  refine G.seqK fun K8 hK9 => ?_
  refine G.region ?_
  obtain ⟨p10, w11, r12, H13⟩ := H.madeRow (P := Try.prog) (Instr.buildSlice 38 0 #[]) (fun b_ => .slice (some ⟨b_, 0, none⟩) 0 0) [] 5 0 0 1 (by kernel_rfl) (by decide) (by decide) rfl
  have H13 : Hp w [] [.row (some ⟨p10, 0, none⟩) 0 0 5 1 (by8 ([] : List UInt8))] w11 := H13
  refine GL.sem (j := 1) (r12) [0, 5] [(0, .slice A xs.length c), (5, .slice (some ⟨p10, 0, none⟩) 0 0)] (by kernel_rfl) (by kernel_rfl) rfl ?_
  refine GL.run (j := 2) 1 [5, 6] [(5, .slice (some ⟨p10, 0, none⟩) 0 0), (6, .slice A xs.length c)] (by kernel_rfl) rfl ?_
  obtain ⟨A14, c15, w16, r17, H18⟩ := H13.append (P := Try.prog) (e := 5) (sz := 1) (by_ := 1) (n := 0) (c := 0) (m := xs.length) (d := c) (t := 38) (ty := 38) (xs := by8 ([] : List UInt8)) (news := by8 xs) 0 rfl (by kernel_rfl) (hx.hp H13) (by simp [by8_length]) (by8_one _) (by omega) (by simp only [maxLen]; omega)
  rw [Nat.zero_add] at r17 H18
  have H18 : Hp w [] [.row A14 xs.length c15 5 1 (by8 xs)] w16 := H18
  refine GL.sem (j := 3) (r17) [7] [(7, .slice A14 xs.length c15)] (by kernel_rfl) (by kernel_rfl) rfl ?_
  refine GL.run (j := 4) 1 [2] [(2, .slice A14 xs.length c15)] (by kernel_rfl) rfl ?_
  refine GL.k rfl hK9 (fun _ _ h => h) ?_
  refine G.ret ?_
  intro F_ hF_ hM_
  refine hRet _ _ (bodyPost_1 rfl (RV.tmp rfl) ?_ F_ hF_ hM_)
  exact ⟨_, _, rfl, H18.sub (by simp)⟩
end Go.Proofs.Ytcedmbdahbdmaaa
set_option maxRecDepth 100000
namespace Go.Proofs.Ytcedmbdahbdmaaa
open Go.RowKit
theorem u8_of {n : Nat} (h : n < 256) : IntKind.u8.wrap (n : Int) = ((UInt8.ofNat n).toNat : Int) := by
  rw [in_u8 (by omega), UInt8.toNat_ofNat']
  omega
theorem Bytes_addr (a0 a1 a2 a3 a4 a5 a6 a7 a8 a9 a10 a11 a12 a13 a14 a15 a16 a17 a18 a19 : UInt8) (A : Option Addr) (n c : Nat) (w : World) : Calls Try.prog 25 #[.agg #[.int .i64 1, .int .u8 (a0.toNat : Int), .int .u8 (a1.toNat : Int), .int .u8 (a2.toNat : Int), .int .u8 (a3.toNat : Int), .int .u8 (a4.toNat : Int), .int .u8 (a5.toNat : Int), .int .u8 (a6.toNat : Int), .int .u8 (a7.toNat : Int), .int .u8 (a8.toNat : Int), .int .u8 (a9.toNat : Int), .int .u8 (a10.toNat : Int), .int .u8 (a11.toNat : Int), .int .u8 (a12.toNat : Int), .int .u8 (a13.toNat : Int), .int .u8 (a14.toNat : Int), .int .u8 (a15.toNat : Int), .int .u8 (a16.toNat : Int), .int .u8 (a17.toNat : Int), .int .u8 (a18.toNat : Int), .int .u8 (a19.toNat : Int), .slice A n c]] w fun e w' => ∃ A c, e = .returned (.tuple #[.slice A ([118, 169, 20, a0, a1, a2, a3, a4, a5, a6, a7, a8, a9, a10, a11, a12, a13, a14, a15, a16, a17, a18, a19, 136, 172] : List UInt8).length c, .int .i64 0]) ∧ Hp w [] [.row A ([118, 169, 20, a0, a1, a2, a3, a4, a5, a6, a7, a8, a9, a10, a11, a12, a13, a14, a15, a16, a17, a18, a19, 136, 172] : List UInt8).length c 5 1 (by8 ([118, 169, 20, a0, a1, a2, a3, a4, a5, a6, a7, a8, a9, a10, a11, a12, a13, a14, a15, a16, a17, a18, a19, 136, 172] : List UInt8))] w' := by
  refine calls_G (args := [.agg #[.int .i64 1, .int .u8 (a0.toNat : Int), .int .u8 (a1.toNat : Int), .int .u8 (a2.toNat : Int), .int .u8 (a3.toNat : Int), .int .u8 (a4.toNat : Int), .int .u8 (a5.toNat : Int), .int .u8 (a6.toNat : Int), .int .u8 (a7.toNat : Int), .int .u8 (a8.toNat : Int), .int .u8 (a9.toNat : Int), .int .u8 (a10.toNat : Int), .int .u8 (a11.toNat : Int), .int .u8 (a12.toNat : Int), .int .u8 (a13.toNat : Int), .int .u8 (a14.toNat : Int), .int .u8 (a15.toNat : Int), .int .u8 (a16.toNat : Int), .int .u8 (a17.toNat : Int), .int .u8 (a18.toNat : Int), .int .u8 (a19.toNat : Int), .slice A n c]]) Try.func25 rfl Try.ntmps25 rfl ?_
  intro Q0 hRet hNor hPan
  have H := Hp.start w
  have H : Hp w [] [] w := H
  refine G.seqK fun K1 hK2 => ?_
  refine G.region ?_
  obtain ⟨p3, w4, r5, H6⟩ := H.box (P := Try.prog) 43 [.int .i64 1, .int .u8 (a0.toNat : Int), .int .u8 (a1.toNat : Int), .int .u8 (a2.toNat : Int), .int .u8 (a3.toNat : Int), .int .u8 (a4.toNat : Int), .int .u8 (a5.toNat : Int), .int .u8 (a6.toNat : Int), .int .u8 (a7.toNat : Int), .int .u8 (a8.toNat : Int), .int .u8 (a9.toNat : Int), .int .u8 (a10.toNat : Int), .int .u8 (a11.toNat : Int), .int .u8 (a12.toNat : Int), .int .u8 (a13.toNat : Int), .int .u8 (a14.toNat : Int), .int .u8 (a15.toNat : Int), .int .u8 (a16.toNat : Int), .int .u8 (a17.toNat : Int), .int .u8 (a18.toNat : Int), .int .u8 (a19.toNat : Int), .slice A n c] (.agg #[.int .i64 1, .int .u8 (a0.toNat : Int), .int .u8 (a1.toNat : Int), .int .u8 (a2.toNat : Int), .int .u8 (a3.toNat : Int), .int .u8 (a4.toNat : Int), .int .u8 (a5.toNat : Int), .int .u8 (a6.toNat : Int), .int .u8 (a7.toNat : Int), .int .u8 (a8.toNat : Int), .int .u8 (a9.toNat : Int), .int .u8 (a10.toNat : Int), .int .u8 (a11.toNat : Int), .int .u8 (a12.toNat : Int), .int .u8 (a13.toNat : Int), .int .u8 (a14.toNat : Int), .int .u8 (a15.toNat : Int), .int .u8 (a16.toNat : Int), .int .u8 (a17.toNat : Int), .int .u8 (a18.toNat : Int), .int .u8 (a19.toNat : Int), .slice A n c]) rfl
  have H6 : Hp w [] [.blk p3 [.int .i64 1, .int .u8 (a0.toNat : Int), .int .u8 (a1.toNat : Int), .int .u8 (a2.toNat : Int), .int .u8 (a3.toNat : Int), .int .u8 (a4.toNat : Int), .int .u8 (a5.toNat : Int), .int .u8 (a6.toNat : Int), .int .u8 (a7.toNat : Int), .int .u8 (a8.toNat : Int), .int .u8 (a9.toNat : Int), .int .u8 (a10.toNat : Int), .int .u8 (a11.toNat : Int), .int .u8 (a12.toNat : Int), .int .u8 (a13.toNat : Int), .int .u8 (a14.toNat : Int), .int .u8 (a15.toNat : Int), .int .u8 (a16.toNat : Int), .int .u8 (a17.toNat : Int), .int .u8 (a18.toNat : Int), .int .u8 (a19.toNat : Int), .slice A n c] 43] w4 := H6
  refine GL.sem (j := 1) (r5) [1] [(1, pt p3 0)] (by kernel_rfl) (by kernel_rfl) rfl ?_
  refine GL.run (j := 3) 2 [1] [(1, pt p3 0)] (by kernel_rfl) rfl ?_
  refine GL.k rfl hK2 (fun _ _ h => h) ?_
  refine G.seqK fun K7 hK8 => ?_
  refine G.seqK fun K9 hK10 => ?_
  refine G.region ?_
  refine GL.run (j := 1) 1 [1, 4] [(1, pt p3 0), (4, pt p3 0)] (by kernel_rfl) rfl ?_
  refine GL.sem (j := 2) (H6.ld (o := 0) (ty := 41) (v := .int .i64 1) 0 rfl (by kernel_rfl) rfl) [1, 5] [(1, pt p3 0), (5, .int .i64 1)] (by kernel_rfl) (by kernel_rfl) rfl ?_
  refine GL.k rfl hK10 (fun _ _ h => h) ?_
  refine G.block ?_
  refine G.seqK fun K11 hK12 => ?_
  refine G.region ?_
  refine GL.run (j := 2) 2 [1, 5, 6] [(1, pt p3 0), (5, .int .i64 1), (6, .bool true)] (by kernel_rfl) rfl ?_
  refine GL.k rfl hK12 (fun _ _ h => h) ?_
  refine G.yes rfl ?_
  refine G.seqK fun K13 hK14 => ?_
  refine G.region ?_
  obtain ⟨p15, w16, r17, H18⟩ := H6.made (P := Try.prog) (Instr.buildSlice 38 3 #[(0, .int .u8 118), (1, .int .u8 169), (2, .int .u8 20)]) (fun b_ => .slice (some ⟨b_, 0, none⟩) 3 3) [.int .u8 118, .int .u8 169, .int .u8 20] 5 (by kernel_rfl)
  have H18 : Hp w [] [.blk p3 [.int .i64 1, .int .u8 (a0.toNat : Int), .int .u8 (a1.toNat : Int), .int .u8 (a2.toNat : Int), .int .u8 (a3.toNat : Int), .int .u8 (a4.toNat : Int), .int .u8 (a5.toNat : Int), .int .u8 (a6.toNat : Int), .int .u8 (a7.toNat : Int), .int .u8 (a8.toNat : Int), .int .u8 (a9.toNat : Int), .int .u8 (a10.toNat : Int), .int .u8 (a11.toNat : Int), .int .u8 (a12.toNat : Int), .int .u8 (a13.toNat : Int), .int .u8 (a14.toNat : Int), .int .u8 (a15.toNat : Int), .int .u8 (a16.toNat : Int), .int .u8 (a17.toNat : Int), .int .u8 (a18.toNat : Int), .int .u8 (a19.toNat : Int), .slice A n c] 43, .blk p15 [.int .u8 118, .int .u8 169, .int .u8 20] 5] w16 := H18
  refine GL.sem (j := 1) (r17) [1, 8] [(1, pt p3 0), (8, .slice (some ⟨p15, 0, none⟩) 3 3)] (by kernel_rfl) (by kernel_rfl) rfl ?_
  refine GL.run (j := 3) 2 [8, 10] [(8, .slice (some ⟨p15, 0, none⟩) 3 3), (10, .slice (some ⟨p3, 1, none⟩) 20 20)] (by kernel_rfl) rfl ?_
  obtain ⟨p19, w20, r21, H22⟩ := H18.made (P := Try.prog) (Instr.buildSlice 38 2 #[(0, .int .u8 136), (1, .int .u8 172)]) (fun b_ => .slice (some ⟨b_, 0, none⟩) 2 2) [.int .u8 136, .int .u8 172] 5 (by kernel_rfl)
  have H22 : Hp w [] [.blk p3 [.int .i64 1, .int .u8 (a0.toNat : Int), .int .u8 (a1.toNat : Int), .int .u8 (a2.toNat : Int), .int .u8 (a3.toNat : Int), .int .u8 (a4.toNat : Int), .int .u8 (a5.toNat : Int), .int .u8 (a6.toNat : Int), .int .u8 (a7.toNat : Int), .int .u8 (a8.toNat : Int), .int .u8 (a9.toNat : Int), .int .u8 (a10.toNat : Int), .int .u8 (a11.toNat : Int), .int .u8 (a12.toNat : Int), .int .u8 (a13.toNat : Int), .int .u8 (a14.toNat : Int), .int .u8 (a15.toNat : Int), .int .u8 (a16.toNat : Int), .int .u8 (a17.toNat : Int), .int .u8 (a18.toNat : Int), .int .u8 (a19.toNat : Int), .slice A n c] 43, .blk p15 [.int .u8 118, .int .u8 169, .int .u8 20] 5, .blk p19 [.int .u8 136, .int .u8 172] 5] w20 := H22
  refine GL.sem (j := 4) (r21) [8, 10, 11] [(8, .slice (some ⟨p15, 0, none⟩) 3 3), (10, .slice (some ⟨p3, 1, none⟩) 20 20), (11, .slice (some ⟨p19, 0, none⟩) 2 2)] (by kernel_rfl) (by kernel_rfl) rfl ?_
  obtain ⟨p23, w24, r25, H26⟩ := H22.made (P := Try.prog) (Instr.buildSlice 125 3 #[(0, .slice (some ⟨p15, 0, none⟩) 3 3), (1, .slice (some ⟨p3, 1, none⟩) 20 20), (2, .slice (some ⟨p19, 0, none⟩) 2 2)]) (fun b_ => .slice (some ⟨b_, 0, none⟩) 3 3) [.slice (some ⟨p15, 0, none⟩) 3 3, .slice (some ⟨p3, 1, none⟩) 20 20, .slice (some ⟨p19, 0, none⟩) 2 2] 38 (by kernel_rfl)
  have H26 : Hp w [] [.blk p3 [.int .i64 1, .int .u8 (a0.toNat : Int), .int .u8 (a1.toNat : Int), .int .u8 (a2.toNat : Int), .int .u8 (a3.toNat : Int), .int .u8 (a4.toNat : Int), .int .u8 (a5.toNat : Int), .int .u8 (a6.toNat : Int), .int .u8 (a7.toNat : Int), .int .u8 (a8.toNat : Int), .int .u8 (a9.toNat : Int), .int .u8 (a10.toNat : Int), .int .u8 (a11.toNat : Int), .int .u8 (a12.toNat : Int), .int .u8 (a13.toNat : Int), .int .u8 (a14.toNat : Int), .int .u8 (a15.toNat : Int), .int .u8 (a16.toNat : Int), .int .u8 (a17.toNat : Int), .int .u8 (a18.toNat : Int), .int .u8 (a19.toNat : Int), .slice A n c] 43, .blk p15 [.int .u8 118, .int .u8 169, .int .u8 20] 5, .blk p19 [.int .u8 136, .int .u8 172] 5, .blk p23 [.slice (some ⟨p15, 0, none⟩) 3 3, .slice (some ⟨p3, 1, none⟩) 20 20, .slice (some ⟨p19, 0, none⟩) 2 2] 38] w24 := H26
  refine GL.sem (j := 5) (r25) [12] [(12, .slice (some ⟨p23, 0, none⟩) 3 3)] (by kernel_rfl) (by kernel_rfl) rfl ?_
  have hr27 : ∀ s ∈ ([(some ⟨p15, 0, none⟩, 3, ([118, 169, 20] : List UInt8)), ((some ⟨p3, 1, none⟩), 20, ([a0, a1, a2, a3, a4, a5, a6, a7, a8, a9, a10, a11, a12, a13, a14, a15, a16, a17, a18, a19] : List UInt8)), (some ⟨p19, 0, none⟩, 2, ([136, 172] : List UInt8))] : List SB), RdS w24 s.1 (by8 s.2.2) := by
    intro s hs
    simp only [List.mem_cons, List.not_mem_nil, or_false] at hs
    rcases hs with rfl | rfl | rfl
    · exact H26.rdBlk (o := 0) (xs := by8 ([118, 169, 20] : List UInt8)) 1 3 rfl rfl
    · exact H26.rdBlk (o := 1) (xs := by8 ([a0, a1, a2, a3, a4, a5, a6, a7, a8, a9, a10, a11, a12, a13, a14, a15, a16, a17, a18, a19] : List UInt8)) 0 20 rfl rfl
    · exact H26.rdBlk (o := 0) (xs := by8 ([136, 172] : List UInt8)) 2 2 rfl rfl
  have hX28 : flat ([(some ⟨p15, 0, none⟩, 3, ([118, 169, 20] : List UInt8)), ((some ⟨p3, 1, none⟩), 20, ([a0, a1, a2, a3, a4, a5, a6, a7, a8, a9, a10, a11, a12, a13, a14, a15, a16, a17, a18, a19] : List UInt8)), (some ⟨p19, 0, none⟩, 2, ([136, 172] : List UInt8))] : List SB) = ([118, 169, 20, a0, a1, a2, a3, a4, a5, a6, a7, a8, a9, a10, a11, a12, a13, a14, a15, a16, a17, a18, a19, 136, 172] : List UInt8) := rfl
  have hX28n : (flat ([(some ⟨p15, 0, none⟩, 3, ([118, 169, 20] : List UInt8)), ((some ⟨p3, 1, none⟩), 20, ([a0, a1, a2, a3, a4, a5, a6, a7, a8, a9, a10, a11, a12, a13, a14, a15, a16, a17, a18, a19] : List UInt8)), (some ⟨p19, 0, none⟩, 2, ([136, 172] : List UInt8))] : List SB)).length ≤ 1099511627776 := by rw [hX28]; simp; try omega
  refine GL.call (j := 6) (Concat_calls p23 ([(some ⟨p15, 0, none⟩, 3, ([118, 169, 20] : List UInt8)), ((some ⟨p3, 1, none⟩), 20, ([a0, a1, a2, a3, a4, a5, a6, a7, a8, a9, a10, a11, a12, a13, a14, a15, a16, a17, a18, a19] : List UInt8)), (some ⟨p19, 0, none⟩, 2, ([136, 172] : List UInt8))] : List SB) w24 (H26.blkAt 3 rfl) hr27 hX28n (by simp)) (by kernel_rfl) rfl (fun e_ w29 hR => ?_)
  rw [hX28] at hR
  obtain ⟨A30, c31, rfl, H33⟩ := hR
  have H32 : Hp w [] [.blk p3 [.int .i64 1, .int .u8 (a0.toNat : Int), .int .u8 (a1.toNat : Int), .int .u8 (a2.toNat : Int), .int .u8 (a3.toNat : Int), .int .u8 (a4.toNat : Int), .int .u8 (a5.toNat : Int), .int .u8 (a6.toNat : Int), .int .u8 (a7.toNat : Int), .int .u8 (a8.toNat : Int), .int .u8 (a9.toNat : Int), .int .u8 (a10.toNat : Int), .int .u8 (a11.toNat : Int), .int .u8 (a12.toNat : Int), .int .u8 (a13.toNat : Int), .int .u8 (a14.toNat : Int), .int .u8 (a15.toNat : Int), .int .u8 (a16.toNat : Int), .int .u8 (a17.toNat : Int), .int .u8 (a18.toNat : Int), .int .u8 (a19.toNat : Int), .slice A n c] 43, .blk p15 [.int .u8 118, .int .u8 169, .int .u8 20] 5, .blk p19 [.int .u8 136, .int .u8 172] 5, .blk p23 [.slice (some ⟨p15, 0, none⟩) 3 3, .slice (some ⟨p3, 1, none⟩) 20 20, .slice (some ⟨p19, 0, none⟩) 2 2] 38, .row A30 ((([118, 169, 20, a0, a1, a2, a3, a4, a5, a6, a7, a8, a9, a10, a11, a12, a13, a14, a15, a16, a17, a18, a19, 136, 172] : List UInt8)).length) c31 5 1 (by8 ([118, 169, 20, a0, a1, a2, a3, a4, a5, a6, a7, a8, a9, a10, a11, a12, a13, a14, a15, a16, a17, a18, a19, 136, 172] : List UInt8))] w29 := H26.callNew H33
  refine ⟨_, rfl, [13], [(13, .slice A30 ((([118, 169, 20, a0, a1, a2, a3, a4, a5, a6, a7, a8, a9, a10, a11, a12, a13, a14, a15, a16, a17, a18, a19, 136, 172] : List UInt8)).length) c31)], by kernel_rfl, ?_⟩
  refine GL.run (j := 8) 2 [2, 3] [(2, .slice A30 ((([118, 169, 20, a0, a1, a2, a3, a4, a5, a6, a7, a8, a9, a10, a11, a12, a13, a14, a15, a16, a17, a18, a19, 136, 172] : List UInt8)).length) c31), (3, .int .i64 0)] (by kernel_rfl) rfl ?_
  refine GL.k rfl hK14 (fun _ _ h => h) ?_
  refine G.ret ?_
  intro F_ hF_ hM_
  refine hRet _ _ (bodyPost_2 rfl (RV.tmp rfl) (RV.tmp rfl) ?_ F_ hF_ hM_)
  exact ⟨_, _, rfl, H32.sub (by simp)⟩
theorem Bytes_tag (a0 a1 a2 a3 a4 a5 a6 a7 a8 a9 a10 a11 a12 a13 a14 a15 a16 a17 a18 a19 : UInt8) (bs : List UInt8) (A : Option Addr) (c : Nat) (w : World) (hr : RdS w A (by8 bs)) (h1 : 1 ≤ bs.length) (h40 : bs.length ≤ 40) : Calls Try.prog 25 #[.agg #[.int .i64 2, .int .u8 (a0.toNat : Int), .int .u8 (a1.toNat : Int), .int .u8 (a2.toNat : Int), .int .u8 (a3.toNat : Int), .int .u8 (a4.toNat : Int), .int .u8 (a5.toNat : Int), .int .u8 (a6.toNat : Int), .int .u8 (a7.toNat : Int), .int .u8 (a8.toNat : Int), .int .u8 (a9.toNat : Int), .int .u8 (a10.toNat : Int), .int .u8 (a11.toNat : Int), .int .u8 (a12.toNat : Int), .int .u8 (a13.toNat : Int), .int .u8 (a14.toNat : Int), .int .u8 (a15.toNat : Int), .int .u8 (a16.toNat : Int), .int .u8 (a17.toNat : Int), .int .u8 (a18.toNat : Int), .int .u8 (a19.toNat : Int), .slice A bs.length c]] w fun e w' => ∃ A c, e = .returned (.tuple #[.slice A (106 :: UInt8.ofNat bs.length :: bs).length c, .int .i64 0]) ∧ Hp w [] [.row A (106 :: UInt8.ofNat bs.length :: bs).length c 5 1 (by8 (106 :: UInt8.ofNat bs.length :: bs))] w' := by
  refine calls_G (args := [.agg #[.int .i64 2, .int .u8 (a0.toNat : Int), .int .u8 (a1.toNat : Int), .int .u8 (a2.toNat : Int), .int .u8 (a3.toNat : Int), .int .u8 (a4.toNat : Int), .int .u8 (a5.toNat : Int), .int .u8 (a6.toNat : Int), .int .u8 (a7.toNat : Int), .int .u8 (a8.toNat : Int), .int .u8 (a9.toNat : Int), .int .u8 (a10.toNat : Int), .int .u8 (a11.toNat : Int), .int .u8 (a12.toNat : Int), .int .u8 (a13.toNat : Int), .int .u8 (a14.toNat : Int), .int .u8 (a15.toNat : Int), .int .u8 (a16.toNat : Int), .int .u8 (a17.toNat : Int), .int .u8 (a18.toNat : Int), .int .u8 (a19.toNat : Int), .slice A bs.length c]]) Try.func25 rfl Try.ntmps25 rfl ?_
  intro Q0 hRet hNor hPan
  have H := Hp.start w
  have H : Hp w [] [] w := H
  refine G.seqK fun K1 hK2 => ?_
  refine G.region ?_
  obtain ⟨p3, w4, r5, H6⟩ := H.box (P := Try.prog) 43 [.int .i64 2, .int .u8 (a0.toNat : Int), .int .u8 (a1.toNat : Int), .int .u8 (a2.toNat : Int), .int .u8 (a3.toNat : Int), .int .u8 (a4.toNat : Int), .int .u8 (a5.toNat : Int), .int .u8 (a6.toNat : Int), .int .u8 (a7.toNat : Int), .int .u8 (a8.toNat : Int), .int .u8 (a9.toNat : Int), .int .u8 (a10.toNat : Int), .int .u8 (a11.toNat : Int), .int .u8 (a12.toNat : Int), .int .u8 (a13.toNat : Int), .int .u8 (a14.toNat : Int), .int .u8 (a15.toNat : Int), .int .u8 (a16.toNat : Int), .int .u8 (a17.toNat : Int), .int .u8 (a18.toNat : Int), .int .u8 (a19.toNat : Int), .slice A bs.length c] (.agg #[.int .i64 2, .int .u8 (a0.toNat : Int), .int .u8 (a1.toNat : Int), .int .u8 (a2.toNat : Int), .int .u8 (a3.toNat : Int), .int .u8 (a4.toNat : Int), .int .u8 (a5.toNat : Int), .int .u8 (a6.toNat : Int), .int .u8 (a7.toNat : Int), .int .u8 (a8.toNat : Int), .int .u8 (a9.toNat : Int), .int .u8 (a10.toNat : Int), .int .u8 (a11.toNat : Int), .int .u8 (a12.toNat : Int), .int .u8 (a13.toNat : Int), .int .u8 (a14.toNat : Int), .int .u8 (a15.toNat : Int), .int .u8 (a16.toNat : Int), .int .u8 (a17.toNat : Int), .int .u8 (a18.toNat : Int), .int .u8 (a19.toNat : Int), .slice A bs.length c]) rfl
  have H6 : Hp w [] [.blk p3 [.int .i64 2, .int .u8 (a0.toNat : Int), .int .u8 (a1.toNat : Int), .int .u8 (a2.toNat : Int), .int .u8 (a3.toNat : Int), .int .u8 (a4.toNat : Int), .int .u8 (a5.toNat : Int), .int .u8 (a6.toNat : Int), .int .u8 (a7.toNat : Int), .int .u8 (a8.toNat : Int), .int .u8 (a9.toNat : Int), .int .u8 (a10.toNat : Int), .int .u8 (a11.toNat : Int), .int .u8 (a12.toNat : Int), .int .u8 (a13.toNat : Int), .int .u8 (a14.toNat : Int), .int .u8 (a15.toNat : Int), .int .u8 (a16.toNat : Int), .int .u8 (a17.toNat : Int), .int .u8 (a18.toNat : Int), .int .u8 (a19.toNat : Int), .slice A bs.length c] 43] w4 := H6
  refine GL.sem (j := 1) (r5) [1] [(1, pt p3 0)] (by kernel_rfl) (by kernel_rfl) rfl ?_
  refine GL.run (j := 3) 2 [1] [(1, pt p3 0)] (by kernel_rfl) rfl ?_
  refine GL.k rfl hK2 (fun _ _ h => h) ?_
  refine G.seqK fun K7 hK8 => ?_
  refine G.seqK fun K9 hK10 => ?_
  refine G.region ?_
  refine GL.run (j := 1) 1 [1, 4] [(1, pt p3 0), (4, pt p3 0)] (by kernel_rfl) rfl ?_
  refine GL.sem (j := 2) (H6.ld (o := 0) (ty := 41) (v := .int .i64 2) 0 rfl (by kernel_rfl) rfl) [1, 5] [(1, pt p3 0), (5, .int .i64 2)] (by kernel_rfl) (by kernel_rfl) rfl ?_
  refine GL.k rfl hK10 (fun _ _ h => h) ?_
  refine G.block ?_
  refine G.seqK fun K11 hK12 => ?_
  refine G.region ?_
  refine GL.run (j := 2) 2 [1, 5, 6] [(1, pt p3 0), (5, .int .i64 2), (6, .bool false)] (by kernel_rfl) rfl ?_
  refine GL.k rfl hK12 (fun _ _ h => h) ?_
  refine G.no rfl ?_
  refine G.seqK fun K13 hK14 => ?_
  refine G.region ?_
  refine GL.run (j := 2) 2 [1, 14] [(1, pt p3 0), (14, .bool true)] (by kernel_rfl) rfl ?_
  refine GL.k rfl hK14 (fun _ _ h => h) ?_
  refine G.yes rfl ?_
  refine G.seqK fun K15 hK16 => ?_
  refine G.seqK fun K17 hK18 => ?_
  refine G.region ?_
  refine GL.run (j := 1) 1 [1, 16] [(1, pt p3 0), (16, pt p3 21)] (by kernel_rfl) rfl ?_
  refine GL.sem (j := 2) (H6.ld (o := 21) (ty := 38) (v := .slice A bs.length c) 0 rfl (by kernel_rfl) rfl) [1, 17] [(1, pt p3 0), (17, .slice A bs.length c)] (by kernel_rfl) (by kernel_rfl) rfl ?_
  refine GL.run (j := 5) 3 [1, 20] [(1, pt p3 0), (20, .bool ((bs.length : Int) == 0))] (by kernel_rfl) rfl ?_
  have hb19 : ((bs.length : Int) == 0) = false := beq_eq_false_iff_ne.2 (by omega)
  rw [hb19]
  refine GL.run (j := 6) 1 [1, 20, 21] [(1, pt p3 0), (20, .bool false), (21, pt p3 21)] (by kernel_rfl) rfl ?_
  refine GL.sem (j := 7) (H6.ld (o := 21) (ty := 38) (v := .slice A bs.length c) 0 rfl (by kernel_rfl) rfl) [1, 20, 22] [(1, pt p3 0), (20, .bool false), (22, .slice A bs.length c)] (by kernel_rfl) (by kernel_rfl) rfl ?_
  refine GL.run (j := 10) 3 [1, 25] [(1, pt p3 0), (25, .bool (decide (40 < (bs.length : Int))))] (by kernel_rfl) rfl ?_
  refine GL.k rfl hK18 (fun _ _ h => h) ?_
  have hb20 : (decide (40 < (bs.length : Int))) = false := decide_eq_false (by omega)
  rw [hb20]
  refine G.no rfl ?_
  refine G.skipK hK16 (fun _ _ h => h) ?_
  refine G.seqK fun K21 hK22 => ?_
  refine G.region ?_
  refine GL.run (j := 1) 1 [1, 26] [(1, pt p3 0), (26, pt p3 21)] (by kernel_rfl) rfl ?_
  refine GL.sem (j := 2) (H6.ld (o := 21) (ty := 38) (v := .slice A bs.length c) 0 rfl (by kernel_rfl) rfl) [1, 27] [(1, pt p3 0), (27, .slice A bs.length c)] (by kernel_rfl) (by kernel_rfl) rfl ?_
  refine GL.run (j := 4) 2 [1, 29] [(1, pt p3 0), (29, .int .u8 (IntKind.u8.wrap (bs.length : Int)))] (by kernel_rfl) rfl ?_
  have e23 : (IntKind.u8.wrap (bs.length : Int)) = ((UInt8.ofNat bs.length).toNat : Int) := u8_of (by omega)
  refine GL.eq (M' := [(1, pt p3 0), (29, .int .u8 ((UInt8.ofNat bs.length).toNat : Int))]) (by rw [e23]) ?_
  clear e23
  obtain ⟨p24, w25, r26, H27⟩ := H6.made (P := Try.prog) (Instr.buildSlice 38 2 #[(0, .int .u8 106), (1, .int .u8 ((UInt8.ofNat bs.length).toNat : Int))]) (fun b_ => .slice (some ⟨b_, 0, none⟩) 2 2) [.int .u8 106, .int .u8 ((UInt8.ofNat bs.length).toNat : Int)] 5 (by kernel_rfl)
  have H27 : Hp w [] [.blk p3 [.int .i64 2, .int .u8 (a0.toNat : Int), .int .u8 (a1.toNat : Int), .int .u8 (a2.toNat : Int), .int .u8 (a3.toNat : Int), .int .u8 (a4.toNat : Int), .int .u8 (a5.toNat : Int), .int .u8 (a6.toNat : Int), .int .u8 (a7.toNat : Int), .int .u8 (a8.toNat : Int), .int .u8 (a9.toNat : Int), .int .u8 (a10.toNat : Int), .int .u8 (a11.toNat : Int), .int .u8 (a12.toNat : Int), .int .u8 (a13.toNat : Int), .int .u8 (a14.toNat : Int), .int .u8 (a15.toNat : Int), .int .u8 (a16.toNat : Int), .int .u8 (a17.toNat : Int), .int .u8 (a18.toNat : Int), .int .u8 (a19.toNat : Int), .slice A bs.length c] 43, .blk p24 [.int .u8 106, .int .u8 ((UInt8.ofNat bs.length).toNat : Int)] 5] w25 := H27
  refine GL.sem (j := 5) (r26) [1, 30] [(1, pt p3 0), (30, .slice (some ⟨p24, 0, none⟩) 2 2)] (by kernel_rfl) (by kernel_rfl) rfl ?_
  refine GL.run (j := 6) 1 [30, 31] [(30, .slice (some ⟨p24, 0, none⟩) 2 2), (31, pt p3 21)] (by kernel_rfl) rfl ?_
  refine GL.sem (j := 7) (H27.ld (o := 21) (ty := 38) (v := .slice A bs.length c) 0 rfl (by kernel_rfl) rfl) [30, 32] [(30, .slice (some ⟨p24, 0, none⟩) 2 2), (32, .slice A bs.length c)] (by kernel_rfl) (by kernel_rfl) rfl ?_
  obtain ⟨p28, w29, r30, H31⟩ := H27.made (P := Try.prog) (Instr.buildSlice 125 2 #[(0, .slice (some ⟨p24, 0, none⟩) 2 2), (1, .slice A bs.length c)]) (fun b_ => .slice (some ⟨b_, 0, none⟩) 2 2) [.slice (some ⟨p24, 0, none⟩) 2 2, .slice A bs.length c] 38 (by kernel_rfl)
  have H31 : Hp w [] [.blk p3 [.int .i64 2, .int .u8 (a0.toNat : Int), .int .u8 (a1.toNat : Int), .int .u8 (a2.toNat : Int), .int .u8 (a3.toNat : Int), .int .u8 (a4.toNat : Int), .int .u8 (a5.toNat : Int), .int .u8 (a6.toNat : Int), .int .u8 (a7.toNat : Int), .int .u8 (a8.toNat : Int), .int .u8 (a9.toNat : Int), .int .u8 (a10.toNat : Int), .int .u8 (a11.toNat : Int), .int .u8 (a12.toNat : Int), .int .u8 (a13.toNat : Int), .int .u8 (a14.toNat : Int), .int .u8 (a15.toNat : Int), .int .u8 (a16.toNat : Int), .int .u8 (a17.toNat : Int), .int .u8 (a18.toNat : Int), .int .u8 (a19.toNat : Int), .slice A bs.length c] 43, .blk p24 [.int .u8 106, .int .u8 ((UInt8.ofNat bs.length).toNat : Int)] 5, .blk p28 [.slice (some ⟨p24, 0, none⟩) 2 2, .slice A bs.length c] 38] w29 := H31
  refine GL.sem (j := 8) (r30) [33] [(33, .slice (some ⟨p28, 0, none⟩) 2 2)] (by kernel_rfl) (by kernel_rfl) rfl ?_
  have hr32 : ∀ s ∈ ([(some ⟨p24, 0, none⟩, 2, ([106, (UInt8.ofNat bs.length)] : List UInt8)), (A, c, bs)] : List SB), RdS w29 s.1 (by8 s.2.2) := by
    intro s hs
    simp only [List.mem_cons, List.not_mem_nil, or_false] at hs
    rcases hs with rfl | rfl
    · exact H31.rdBlk (o := 0) (xs := by8 ([106, (UInt8.ofNat bs.length)] : List UInt8)) 1 2 rfl rfl
    · exact hr.hp H31
  have hX33 : flat ([(some ⟨p24, 0, none⟩, 2, ([106, (UInt8.ofNat bs.length)] : List UInt8)), (A, c, bs)] : List SB) = (106 :: UInt8.ofNat bs.length :: bs) := by simp [flat]
  have hX33n : (flat ([(some ⟨p24, 0, none⟩, 2, ([106, (UInt8.ofNat bs.length)] : List UInt8)), (A, c, bs)] : List SB)).length ≤ 1099511627776 := by rw [hX33]; simp; try omega
  refine GL.call (j := 9) (Concat_calls p28 ([(some ⟨p24, 0, none⟩, 2, ([106, (UInt8.ofNat bs.length)] : List UInt8)), (A, c, bs)] : List SB) w29 (H31.blkAt 2 rfl) hr32 hX33n (by simp)) (by kernel_rfl) rfl (fun e_ w34 hR => ?_)
  rw [hX33] at hR
  obtain ⟨A35, c36, rfl, H38⟩ := hR
  have H37 : Hp w [] [.blk p3 [.int .i64 2, .int .u8 (a0.toNat : Int), .int .u8 (a1.toNat : Int), .int .u8 (a2.toNat : Int), .int .u8 (a3.toNat : Int), .int .u8 (a4.toNat : Int), .int .u8 (a5.toNat : Int), .int .u8 (a6.toNat : Int), .int .u8 (a7.toNat : Int), .int .u8 (a8.toNat : Int), .int .u8 (a9.toNat : Int), .int .u8 (a10.toNat : Int), .int .u8 (a11.toNat : Int), .int .u8 (a12.toNat : Int), .int .u8 (a13.toNat : Int), .int .u8 (a14.toNat : Int), .int .u8 (a15.toNat : Int), .int .u8 (a16.toNat : Int), .int .u8 (a17.toNat : Int), .int .u8 (a18.toNat : Int), .int .u8 (a19.toNat : Int), .slice A bs.length c] 43, .blk p24 [.int .u8 106, .int .u8 ((UInt8.ofNat bs.length).toNat : Int)] 5, .blk p28 [.slice (some ⟨p24, 0, none⟩) 2 2, .slice A bs.length c] 38, .row A35 (((106 :: UInt8.ofNat bs.length :: bs)).length) c36 5 1 (by8 (106 :: UInt8.ofNat bs.length :: bs))] w34 := H31.callNew H38
  refine ⟨_, rfl, [34], [(34, .slice A35 (((106 :: UInt8.ofNat bs.length :: bs)).length) c36)], by kernel_rfl, ?_⟩
  refine GL.run (j := 11) 2 [2, 3] [(2, .slice A35 (((106 :: UInt8.ofNat bs.length :: bs)).length) c36), (3, .int .i64 0)] (by kernel_rfl) rfl ?_
  refine GL.k rfl hK22 (fun _ _ h => h) ?_
  refine G.ret ?_
  intro F_ hF_ hM_
  refine hRet _ _ (bodyPost_2 rfl (RV.tmp rfl) (RV.tmp rfl) ?_ F_ hF_ hM_)
  exact ⟨_, _, rfl, H37.sub (by simp)⟩
theorem Bytes_long (a0 a1 a2 a3 a4 a5 a6 a7 a8 a9 a10 a11 a12 a13 a14 a15 a16 a17 a18 a19 : UInt8) (A : Option Addr) (n c : Nat) (w : World) (hn : n = 0 ∨ 40 < n) : Calls Try.prog 25 #[.agg #[.int .i64 2, .int .u8 (a0.toNat : Int), .int .u8 (a1.toNat : Int), .int .u8 (a2.toNat : Int), .int .u8 (a3.toNat : Int), .int .u8 (a4.toNat : Int), .int .u8 (a5.toNat : Int), .int .u8 (a6.toNat : Int), .int .u8 (a7.toNat : Int), .int .u8 (a8.toNat : Int), .int .u8 (a9.toNat : Int), .int .u8 (a10.toNat : Int), .int .u8 (a11.toNat : Int), .int .u8 (a12.toNat : Int), .int .u8 (a13.toNat : Int), .int .u8 (a14.toNat : Int), .int .u8 (a15.toNat : Int), .int .u8 (a16.toNat : Int), .int .u8 (a17.toNat : Int), .int .u8 (a18.toNat : Int), .int .u8 (a19.toNat : Int), .slice A n c]] w fun e w' => e = .returned (.tuple #[.slice none 0 0, .int .i64 3]) ∧ Hp w [] [] w' := by
  refine calls_G (args := [.agg #[.int .i64 2, .int .u8 (a0.toNat : Int), .int .u8 (a1.toNat : Int), .int .u8 (a2.toNat : Int), .int .u8 (a3.toNat : Int), .int .u8 (a4.toNat : Int), .int .u8 (a5.toNat : Int), .int .u8 (a6.toNat : Int), .int .u8 (a7.toNat : Int), .int .u8 (a8.toNat : Int), .int .u8 (a9.toNat : Int), .int .u8 (a10.toNat : Int), .int .u8 (a11.toNat : Int), .int .u8 (a12.toNat : Int), .int .u8 (a13.toNat : Int), .int .u8 (a14.toNat : Int), .int .u8 (a15.toNat : Int), .int .u8 (a16.toNat : Int), .int .u8 (a17.toNat : Int), .int .u8 (a18.toNat : Int), .int .u8 (a19.toNat : Int), .slice A n c]]) Try.func25 rfl Try.ntmps25 rfl ?_
  intro Q0 hRet hNor hPan
  have H := Hp.start w
  have H : Hp w [] [] w := H
  refine G.seqK fun K1 hK2 => ?_
  refine G.region ?_
  obtain ⟨p3, w4, r5, H6⟩ := H.box (P := Try.prog) 43 [.int .i64 2, .int .u8 (a0.toNat : Int), .int .u8 (a1.toNat : Int), .int .u8 (a2.toNat : Int), .int .u8 (a3.toNat : Int), .int .u8 (a4.toNat : Int), .int .u8 (a5.toNat : Int), .int .u8 (a6.toNat : Int), .int .u8 (a7.toNat : Int), .int .u8 (a8.toNat : Int), .int .u8 (a9.toNat : Int), .int .u8 (a10.toNat : Int), .int .u8 (a11.toNat : Int), .int .u8 (a12.toNat : Int), .int .u8 (a13.toNat : Int), .int .u8 (a14.toNat : Int), .int .u8 (a15.toNat : Int), .int .u8 (a16.toNat : Int), .int .u8 (a17.toNat : Int), .int .u8 (a18.toNat : Int), .int .u8 (a19.toNat : Int), .slice A n c] (.agg #[.int .i64 2, .int .u8 (a0.toNat : Int), .int .u8 (a1.toNat : Int), .int .u8 (a2.toNat : Int), .int .u8 (a3.toNat : Int), .int .u8 (a4.toNat : Int), .int .u8 (a5.toNat : Int), .int .u8 (a6.toNat : Int), .int .u8 (a7.toNat : Int), .int .u8 (a8.toNat : Int), .int .u8 (a9.toNat : Int), .int .u8 (a10.toNat : Int), .int .u8 (a11.toNat : Int), .int .u8 (a12.toNat : Int), .int .u8 (a13.toNat : Int), .int .u8 (a14.toNat : Int), .int .u8 (a15.toNat : Int), .int .u8 (a16.toNat : Int), .int .u8 (a17.toNat : Int), .int .u8 (a18.toNat : Int), .int .u8 (a19.toNat : Int), .slice A n c]) rfl
  have H6 : Hp w [] [.blk p3 [.int .i64 2, .int .u8 (a0.toNat : Int), .int .u8 (a1.toNat : Int), .int .u8 (a2.toNat : Int), .int .u8 (a3.toNat : Int), .int .u8 (a4.toNat : Int), .int .u8 (a5.toNat : Int), .int .u8 (a6.toNat : Int), .int .u8 (a7.toNat : Int), .int .u8 (a8.toNat : Int), .int .u8 (a9.toNat : Int), .int .u8 (a10.toNat : Int), .int .u8 (a11.toNat : Int), .int .u8 (a12.toNat : Int), .int .u8 (a13.toNat : Int), .int .u8 (a14.toNat : Int), .int .u8 (a15.toNat : Int), .int .u8 (a16.toNat : Int), .int .u8 (a17.toNat : Int), .int .u8 (a18.toNat : Int), .int .u8 (a19.toNat : Int), .slice A n c] 43] w4 := H6
  refine GL.sem (j := 1) (r5) [1] [(1, pt p3 0)] (by kernel_rfl) (by kernel_rfl) rfl ?_
  refine GL.run (j := 3) 2 [1] [(1, pt p3 0)] (by kernel_rfl) rfl ?_
  refine GL.k rfl hK2 (fun _ _ h => h) ?_
  refine G.seqK fun K7 hK8 => ?_
  refine G.seqK fun K9 hK10 => ?_
  refine G.region ?_
  refine GL.run (j := 1) 1 [1, 4] [(1, pt p3 0), (4, pt p3 0)] (by kernel_rfl) rfl ?_
  refine GL.sem (j := 2) (H6.ld (o := 0) (ty := 41) (v := .int .i64 2) 0 rfl (by kernel_rfl) rfl) [1, 5] [(1, pt p3 0), (5, .int .i64 2)] (by kernel_rfl) (by kernel_rfl) rfl ?_
  refine GL.k rfl hK10 (fun _ _ h => h) ?_
  refine G.block ?_
  refine G.seqK fun K11 hK12 => ?_
  refine G.region ?_
  refine GL.run (j := 2) 2 [1, 5, 6] [(1, pt p3 0), (5, .int .i64 2), (6, .bool false)] (by kernel_rfl) rfl ?_
  refine GL.k rfl hK12 (fun _ _ h => h) ?_
  refine G.no rfl ?_
  refine G.seqK fun K13 hK14 => ?_
  refine G.region ?_
  refine GL.run (j := 2) 2 [1, 14] [(1, pt p3 0), (14, .bool true)] (by kernel_rfl) rfl ?_
  refine GL.k rfl hK14 (fun _ _ h => h) ?_
  refine G.yes rfl ?_
  refine G.seqK fun K15 hK16 => ?_
  refine G.seqK fun K17 hK18 => ?_
  refine G.region ?_
  refine GL.run (j := 1) 1 [1, 16] [(1, pt p3 0), (16, pt p3 21)] (by kernel_rfl) rfl ?_
  refine GL.sem (j := 2) (H6.ld (o := 21) (ty := 38) (v := .slice A n c) 0 rfl (by kernel_rfl) rfl) [1, 17] [(1, pt p3 0), (17, .slice A n c)] (by kernel_rfl) (by kernel_rfl) rfl ?_
  refine GL.run (j := 5) 3 [1, 20] [(1, pt p3 0), (20, .bool ((n : Int) == 0))] (by kernel_rfl) rfl ?_
  cases hb19 : ((n : Int) == 0)
  · skip
    have hb19f := ne_of_beq_false hb19
    refine GL.run (j := 6) 1 [1, 20, 21] [(1, pt p3 0), (20, .bool false), (21, pt p3 21)] (by kernel_rfl) rfl ?_
    refine GL.sem (j := 7) (H6.ld (o := 21) (ty := 38) (v := .slice A n c) 0 rfl (by kernel_rfl) rfl) [1, 20, 22] [(1, pt p3 0), (20, .bool false), (22, .slice A n c)] (by kernel_rfl) (by kernel_rfl) rfl ?_
    refine GL.run (j := 10) 3 [1, 25] [(1, pt p3 0), (25, .bool (decide (40 < (n : Int))))] (by kernel_rfl) rfl ?_
    refine GL.k rfl hK18 (fun _ _ h => h) ?_
    have hb20 : (decide (40 < (n : Int))) = true := decide_eq_true (by omega)
    rw [hb20]
    refine G.yes rfl ?_
    refine G.seqK fun K21 hK22 => ?_
    refine G.region ?_
    refine GL.run (j := 2) 2 [2, 3] [(2, .slice none 0 0), (3, .int .i64 3)] (by kernel_rfl) rfl ?_
    refine GL.k rfl hK22 (fun _ _ h => h) ?_
    refine G.ret ?_
    intro F_ hF_ hM_
    refine hRet _ _ (bodyPost_2 rfl (RV.tmp rfl) (RV.tmp rfl) ?_ F_ hF_ hM_)
    exact ⟨rfl, H6.sub (List.nil_sublist _)⟩
  · skip
    have hb19f := eq_of_beq hb19
    refine GL.run (j := 10) 5 [1, 25] [(1, pt p3 0), (25, .bool true)] (by kernel_rfl) rfl ?_
    refine GL.k rfl hK18 (fun _ _ h => h) ?_
    refine G.yes rfl ?_
    refine G.seqK fun K23 hK24 => ?_
    refine G.region ?_
    refine GL.run (j := 2) 2 [2, 3] [(2, .slice none 0 0), (3, .int .i64 3)] (by kernel_rfl) rfl ?_
    refine GL.k rfl hK24 (fun _ _ h => h) ?_
    refine G.ret ?_
    intro F_ hF_ hM_
    refine hRet _ _ (bodyPost_2 rfl (RV.tmp rfl) (RV.tmp rfl) ?_ F_ hF_ hM_)
    exact ⟨rfl, H6.sub (List.nil_sublist _)⟩
end Go.Proofs.Ytcedmbdahbdmaaa
set_option maxRecDepth 100000
namespace Go.Proofs.Ytcedmbdahbdmaaa
open Go.RowKit
theorem Opener_key (x0 x1 x2 x3 x4 x5 x6 x7 x8 x9 x10 x11 x12 x13 x14 x15 x16 x17 x18 x19 : UInt8) (A : Option Addr) (c : Nat) (w : World) (hr : RdS w A (by8 ([20, x0, x1, x2, x3, x4, x5, x6, x7, x8, x9, x10, x11, x12, x13, x14, x15, x16, x17, x18, x19] : List UInt8))) (hc : 21 ≤ c) : Calls Try.prog 15 #[.slice A 21 c] w fun e w' => e = .returned (.tuple #[.agg #[.int .u8 (x0.toNat : Int), .int .u8 (x1.toNat : Int), .int .u8 (x2.toNat : Int), .int .u8 (x3.toNat : Int), .int .u8 (x4.toNat : Int), .int .u8 (x5.toNat : Int), .int .u8 (x6.toNat : Int), .int .u8 (x7.toNat : Int), .int .u8 (x8.toNat : Int), .int .u8 (x9.toNat : Int), .int .u8 (x10.toNat : Int), .int .u8 (x11.toNat : Int), .int .u8 (x12.toNat : Int), .int .u8 (x13.toNat : Int), .int .u8 (x14.toNat : Int), .int .u8 (x15.toNat : Int), .int .u8 (x16.toNat : Int), .int .u8 (x17.toNat : Int), .int .u8 (x18.toNat : Int), .int .u8 (x19.toNat : Int)], .bool true]) ∧ Hp w [] [] w' := by
  refine calls_G (args := [.slice A 21 c]) Try.func15 rfl Try.ntmps15 rfl ?_
  intro Q0 hRet hNor hPan
  have H := Hp.start w
  have H : Hp w [] [] w := H
  refine G.seqK fun K1 hK2 => ?_
  refine G.region ?_
  obtain ⟨p3, w4, r5, H6⟩ := H.alloc (P := Try.prog) 28 [.int .u8 0, .int .u8 0, .int .u8 0, .int .u8 0, .int .u8 0, .int .u8 0, .int .u8 0, .int .u8 0, .int .u8 0, .int .u8 0, .int .u8 0, .int .u8 0, .int .u8 0, .int .u8 0, .int .u8 0, .int .u8 0, .int .u8 0, .int .u8 0, .int .u8 0, .int .u8 0] (by kernel_rfl)
  have H6 : Hp w [] [.blk p3 [.int .u8 0, .int .u8 0, .int .u8 0, .int .u8 0, .int .u8 0, .int .u8 0, .int .u8 0, .int .u8 0, .int .u8 0, .int .u8 0, .int .u8 0, .int .u8 0, .int .u8 0, .int .u8 0, .int .u8 0, .int .u8 0, .int .u8 0, .int .u8 0, .int .u8 0, .int .u8 0] 28] w4 := H6
  refine GL.sem (j := 1) (r5) [0, 2] [(0, .slice A 21 c), (2, pt p3 0)] (by kernel_rfl) (by kernel_rfl) rfl ?_
  refine GL.run (j := 2) 1 [0, 2] [(0, .slice A 21 c), (2, pt p3 0)] (by kernel_rfl) rfl ?_
  refine GL.k rfl hK2 (fun _ _ h => h) ?_
  refine G.seqK fun K7 hK8 => ?_
  refine G.seqK fun K9 hK10 => ?_
  refine G.region ?_
  refine GL.run (j := 5) 5 [0, 2, 7, 8] [(0, .slice A 21 c), (2, pt p3 0), (7, .bool false), (8, .slice A 21 c)] (by kernel_rfl) rfl ?_
  refine GL.sem (j := 6) (run_idxRd (P := Try.prog) (k := .i64) (t := 38) (A := A) (len := 21) (cap := c) (j := 0) (by kernel_rfl) rfl (hr.hp H6) (by rw [by8_length]; first | rfl | omega | (simp only [List.length_cons, List.length_nil, List.length_drop, List.length_take, List.length_append] <;> omega)) (by omega)) [0, 2, 7, 9] [(0, .slice A 21 c), (2, pt p3 0), (7, .bool false), (9, .pointer (Option.map (fun x => Addr.add x 0) A))] (by kernel_rfl) (by kernel_rfl) rfl ?_
  refine GL.sem (j := 7) (run_ldRd (P := Try.prog) (ty := 5) (A := A) (j := 0) (v := .int .u8 20) (by kernel_rfl) (hr.hp H6) (rfl)) [0, 2, 7, 10] [(0, .slice A 21 c), (2, pt p3 0), (7, .bool false), (10, .int .u8 20)] (by kernel_rfl) (by kernel_rfl) rfl ?_
  refine GL.run (j := 9) 2 [0, 2, 12] [(0, .slice A 21 c), (2, pt p3 0), (12, .bool false)] (by kernel_rfl) rfl ?_
  refine GL.k rfl hK10 (fun _ _ h => h) ?_
  refine G.no rfl ?_
  refine G.skipK hK8 (fun _ _ h => h) ?_
  refine G.seqK fun K11 hK12 => ?_
  refine G.region ?_
  refine GL.run (j := 1) 1 [2, 14] [(2, pt p3 0), (14, .slice A 21 c)] (by kernel_rfl) rfl ?_
  refine GL.sem (j := 2) (run_sliceSl (P := Try.prog) (lo := some (.int .i64 1)) (hi := none) (t := 38) (len := 21) (cap := c) (A := A) (l := 1) (h := 21) (by kernel_rfl) (Or.inr ⟨_, _, rfl, rfl⟩) (Or.inl ⟨rfl, rfl⟩) (by omega) (by omega)) [2, 15] [(2, pt p3 0), (15, .slice (if c = 1 then A else Option.map (fun x => Addr.add x 1) A) 20 (c - 1))] (by kernel_rfl) (by kernel_rfl) rfl ?_
  refine GL.sem (j := 3) (run_s2a (P := Try.prog) (t := 28) (len := 20) (cap := (c - 1)) (n := 20) (A := (if c = 1 then A else Option.map (fun x => Addr.add x 1) A)) (by kernel_rfl) (by omega)) [2, 16] [(2, pt p3 0), (16, .pointer (if c = 1 then A else Option.map (fun x => Addr.add x 1) A))] (by kernel_rfl) (by kernel_rfl) rfl ?_
  refine GL.sem (j := 4) (run_ldArr (P := Try.prog) (ty := 28) (m := 20) (A := (if c = 1 then A else Option.map (fun x => Addr.add x 1) A)) (xs := by8 ([x0, x1, x2, x3, x4, x5, x6, x7, x8, x9, x10, x11, x12, x13, x14, x15, x16, x17, x18, x19] : List UInt8)) (by kernel_rfl) (RdS.drop8 (cap := c) (hr.hp H6) 1 (cs := ([x0, x1, x2, x3, x4, x5, x6, x7, x8, x9, x10, x11, x12, x13, x14, x15, x16, x17, x18, x19] : List UInt8)) (by first | rfl | omega | (simp only [List.length_cons, List.length_nil, List.length_drop, List.length_take, List.length_append] <;> omega)) rfl) rfl (by decide)) [2, 17] [(2, pt p3 0), (17, .agg #[.int .u8 (x0.toNat : Int), .int .u8 (x1.toNat : Int), .int .u8 (x2.toNat : Int), .int .u8 (x3.toNat : Int), .int .u8 (x4.toNat : Int), .int .u8 (x5.toNat : Int), .int .u8 (x6.toNat : Int), .int .u8 (x7.toNat : Int), .int .u8 (x8.toNat : Int), .int .u8 (x9.toNat : Int), .int .u8 (x10.toNat : Int), .int .u8 (x11.toNat : Int), .int .u8 (x12.toNat : Int), .int .u8 (x13.toNat : Int), .int .u8 (x14.toNat : Int), .int .u8 (x15.toNat : Int), .int .u8 (x16.toNat : Int), .int .u8 (x17.toNat : Int), .int .u8 (x18.toNat : Int), .int .u8 (x19.toNat : Int)])] (by kernel_rfl) (by kernel_rfl) rfl ?_
  obtain ⟨w13, r14, H15⟩ := H6.stA (P := Try.prog) (o := 0) (vs := [.int .u8 (x0.toNat : Int), .int .u8 (x1.toNat : Int), .int .u8 (x2.toNat : Int), .int .u8 (x3.toNat : Int), .int .u8 (x4.toNat : Int), .int .u8 (x5.toNat : Int), .int .u8 (x6.toNat : Int), .int .u8 (x7.toNat : Int), .int .u8 (x8.toNat : Int), .int .u8 (x9.toNat : Int), .int .u8 (x10.toNat : Int), .int .u8 (x11.toNat : Int), .int .u8 (x12.toNat : Int), .int .u8 (x13.toNat : Int), .int .u8 (x14.toNat : Int), .int .u8 (x15.toNat : Int), .int .u8 (x16.toNat : Int), .int .u8 (x17.toNat : Int), .int .u8 (x18.toNat : Int), .int .u8 (x19.toNat : Int)]) (ty := 28) (m := 20) 0 rfl (by kernel_rfl) rfl (by simp) (by simp [Value.oneCell'])
  have H15 : Hp w [] [.blk p3 [.int .u8 (x0.toNat : Int), .int .u8 (x1.toNat : Int), .int .u8 (x2.toNat : Int), .int .u8 (x3.toNat : Int), .int .u8 (x4.toNat : Int), .int .u8 (x5.toNat : Int), .int .u8 (x6.toNat : Int), .int .u8 (x7.toNat : Int), .int .u8 (x8.toNat : Int), .int .u8 (x9.toNat : Int), .int .u8 (x10.toNat : Int), .int .u8 (x11.toNat : Int), .int .u8 (x12.toNat : Int), .int .u8 (x13.toNat : Int), .int .u8 (x14.toNat : Int), .int .u8 (x15.toNat : Int), .int .u8 (x16.toNat : Int), .int .u8 (x17.toNat : Int), .int .u8 (x18.toNat : Int), .int .u8 (x19.toNat : Int)] 28] w13 := H15
  refine GL.semU (j := 5) r14 [2] [(2, pt p3 0)] (by kernel_rfl) rfl rfl rfl ?_
  refine GL.run (j := 6) 1 [2, 3] [(2, pt p3 0), (3, .bool true)] (by kernel_rfl) rfl ?_
  refine GL.k rfl hK12 (fun _ _ h => h) ?_
  refine G.ret ?_
  intro F_ hF_ hM_
  refine hRet _ _ (bodyPost_2 rfl (RV.cell rfl (H15.ldA (o := 0) (ty := 28) (m := 20) (sub := [.int .u8 (x0.toNat : Int), .int .u8 (x1.toNat : Int), .int .u8 (x2.toNat : Int), .int .u8 (x3.toNat : Int), .int .u8 (x4.toNat : Int), .int .u8 (x5.toNat : Int), .int .u8 (x6.toNat : Int), .int .u8 (x7.toNat : Int), .int .u8 (x8.toNat : Int), .int .u8 (x9.toNat : Int), .int .u8 (x10.toNat : Int), .int .u8 (x11.toNat : Int), .int .u8 (x12.toNat : Int), .int .u8 (x13.toNat : Int), .int .u8 (x14.toNat : Int), .int .u8 (x15.toNat : Int), .int .u8 (x16.toNat : Int), .int .u8 (x17.toNat : Int), .int .u8 (x18.toNat : Int), .int .u8 (x19.toNat : Int)]) 0 rfl (by kernel_rfl) rfl rfl)) (RV.tmp rfl) ?_ F_ hF_ hM_)
  exact ⟨rfl, H15.sub (List.nil_sublist _)⟩
theorem toNat_ne {b c : UInt8} (h : b ≠ c) : ((b.toNat : Int) != (c.toNat : Int)) = true := by
  simp only [bne_iff_ne, ne_eq, Int.natCast_inj, UInt8.toNat_inj]
  exact h
theorem Opener_none (bs : List UInt8) (A : Option Addr) (c : Nat) (w : World) (hr : RdS w A (by8 bs)) (hn : ¬ (bs.length = 21 ∧ bs[0]? = some 20)) : Calls Try.prog 15 #[.slice A bs.length c] w fun e w' => e = .returned (.tuple #[.agg #[.int .u8 0, .int .u8 0, .int .u8 0, .int .u8 0, .int .u8 0, .int .u8 0, .int .u8 0, .int .u8 0, .int .u8 0, .int .u8 0, .int .u8 0, .int .u8 0, .int .u8 0, .int .u8 0, .int .u8 0, .int .u8 0, .int .u8 0, .int .u8 0, .int .u8 0, .int .u8 0], .bool false]) ∧ Hp w [] [] w' := by
  refine calls_G (args := [.slice A bs.length c]) Try.func15 rfl Try.ntmps15 rfl ?_
  intro Q0 hRet hNor hPan
  have H := Hp.start w
  have H : Hp w [] [] w := H
  refine G.seqK fun K1 hK2 => ?_
  refine G.region ?_
  obtain ⟨p3, w4, r5, H6⟩ := H.alloc (P := Try.prog) 28 [.int .u8 0, .int .u8 0, .int .u8 0, .int .u8 0, .int .u8 0, .int .u8 0, .int .u8 0, .int .u8 0, .int .u8 0, .int .u8 0, .int .u8 0, .int .u8 0, .int .u8 0, .int .u8 0, .int .u8 0, .int .u8 0, .int .u8 0, .int .u8 0, .int .u8 0, .int .u8 0] (by kernel_rfl)
  have H6 : Hp w [] [.blk p3 [.int .u8 0, .int .u8 0, .int .u8 0, .int .u8 0, .int .u8 0, .int .u8 0, .int .u8 0, .int .u8 0, .int .u8 0, .int .u8 0, .int .u8 0, .int .u8 0, .int .u8 0, .int .u8 0, .int .u8 0, .int .u8 0, .int .u8 0, .int .u8 0, .int .u8 0, .int .u8 0] 28] w4 := H6
  refine GL.sem (j := 1) (r5) [0, 2] [(0, .slice A bs.length c), (2, pt p3 0)] (by kernel_rfl) (by kernel_rfl) rfl ?_
  refine GL.run (j := 2) 1 [0, 2] [(0, .slice A bs.length c), (2, pt p3 0)] (by kernel_rfl) rfl ?_
  refine GL.k rfl hK2 (fun _ _ h => h) ?_
  refine G.seqK fun K7 hK8 => ?_
  refine G.seqK fun K9 hK10 => ?_
  refine G.region ?_
  refine GL.run (j := 4) 4 [0, 2, 7] [(0, .slice A bs.length c), (2, pt p3 0), (7, .bool ((bs.length : Int) != 21))] (by kernel_rfl) rfl ?_
  cases hb11 : ((bs.length : Int) != 21)
  · skip
    have hb11f : (bs.length : Int) = 21 := bne_eq_false_iff_eq.1 hb11
    have hlen : bs.length = 21 := by have := hb11; simp at this; omega
    refine GL.run (j := 5) 1 [0, 2, 7, 8] [(0, .slice A bs.length c), (2, pt p3 0), (7, .bool false), (8, .slice A bs.length c)] (by kernel_rfl) rfl ?_
    refine GL.sem (j := 6) (run_idxRd (P := Try.prog) (k := .i64) (t := 38) (A := A) (len := bs.length) (cap := c) (j := 0) (by kernel_rfl) rfl (hr.hp H6) (by rw [by8_length]) (by first | rfl | omega | (simp only [List.length_cons, List.length_nil, List.length_drop, List.length_take, List.length_append] <;> omega))) [0, 2, 7, 9] [(0, .slice A bs.length c), (2, pt p3 0), (7, .bool false), (9, .pointer (Option.map (fun x => Addr.add x 0) A))] (by kernel_rfl) (by kernel_rfl) rfl ?_
    obtain ⟨b12, hat13⟩ : ∃ b : UInt8, bs[0]? = some b := ⟨_, List.getElem?_eq_getElem (by first | rfl | omega | (simp only [List.length_cons, List.length_nil, List.length_drop, List.length_take, List.length_append] <;> omega))⟩
    refine GL.sem (j := 7) (run_ldRd (P := Try.prog) (ty := 5) (A := A) (j := 0) (v := .int .u8 (b12.toNat : Int)) (by kernel_rfl) (hr.hp H6) (by8_at hat13)) [0, 2, 7, 10] [(0, .slice A bs.length c), (2, pt p3 0), (7, .bool false), (10, .int .u8 (b12.toNat : Int))] (by kernel_rfl) (by kernel_rfl) rfl ?_
    refine GL.run (j := 9) 2 [0, 2, 12] [(0, .slice A bs.length c), (2, pt p3 0), (12, .bool ((b12.toNat : Int) != 20))] (by kernel_rfl) rfl ?_
    refine GL.k rfl hK10 (fun _ _ h => h) ?_
    have h0 : b12 ≠ (20 : UInt8) := fun h => hn ⟨hlen, by rw [hat13, h]⟩
    have hb14 : ((b12.toNat : Int) != 20) = true := toNat_ne h0
    rw [hb14]
    refine G.yes rfl ?_
    refine G.seqK fun K15 hK16 => ?_
    refine G.region ?_
    refine GL.run (j := 1) 1 [2, 13] [(2, pt p3 0), (13, .agg #[.int .u8 0, .int .u8 0, .int .u8 0, .int .u8 0, .int .u8 0, .int .u8 0, .int .u8 0, .int .u8 0, .int .u8 0, .int .u8 0, .int .u8 0, .int .u8 0, .int .u8 0, .int .u8 0, .int .u8 0, .int .u8 0, .int .u8 0, .int .u8 0, .int .u8 0, .int .u8 0])] (by kernel_rfl) rfl ?_
    obtain ⟨w17, r18, H19⟩ := H6.stA (P := Try.prog) (o := 0) (vs := [.int .u8 0, .int .u8 0, .int .u8 0, .int .u8 0, .int .u8 0, .int .u8 0, .int .u8 0, .int .u8 0, .int .u8 0, .int .u8 0, .int .u8 0, .int .u8 0, .int .u8 0, .int .u8 0, .int .u8 0, .int .u8 0, .int .u8 0, .int .u8 0, .int .u8 0, .int .u8 0]) (ty := 28) (m := 20) 0 rfl (by kernel_rfl) rfl (by simp) (by simp [Value.oneCell'])
    have H19 : Hp w [] [.blk p3 [.int .u8 0, .int .u8 0, .int .u8 0, .int .u8 0, .int .u8 0, .int .u8 0, .int .u8 0, .int .u8 0, .int .u8 0, .int .u8 0, .int .u8 0, .int .u8 0, .int .u8 0, .int .u8 0, .int .u8 0, .int .u8 0, .int .u8 0, .int .u8 0, .int .u8 0, .int .u8 0] 28] w17 := H19
    refine GL.semU (j := 2) r18 [2] [(2, pt p3 0)] (by kernel_rfl) rfl rfl rfl ?_
    refine GL.run (j := 3) 1 [2, 3] [(2, pt p3 0), (3, .bool false)] (by kernel_rfl) rfl ?_
    refine GL.k rfl hK16 (fun _ _ h => h) ?_
    refine G.ret ?_
    intro F_ hF_ hM_
    refine hRet _ _ (bodyPost_2 rfl (RV.cell rfl (H19.ldA (o := 0) (ty := 28) (m := 20) (sub := [.int .u8 0, .int .u8 0, .int .u8 0, .int .u8 0, .int .u8 0, .int .u8 0, .int .u8 0, .int .u8 0, .int .u8 0, .int .u8 0, .int .u8 0, .int .u8 0, .int .u8 0, .int .u8 0, .int .u8 0, .int .u8 0, .int .u8 0, .int .u8 0, .int .u8 0, .int .u8 0]) 0 rfl (by kernel_rfl) rfl rfl)) (RV.tmp rfl) ?_ F_ hF_ hM_)
    exact ⟨rfl, H19.sub (List.nil_sublist _)⟩
  · skip
    have hb11f : (bs.length : Int) ≠ 21 := bne_iff_ne.1 hb11
    refine GL.run (j := 9) 5 [0, 2, 12] [(0, .slice A bs.length c), (2, pt p3 0), (12, .bool true)] (by kernel_rfl) rfl ?_
    refine GL.k rfl hK10 (fun _ _ h => h) ?_
    refine G.yes rfl ?_
    refine G.seqK fun K20 hK21 => ?_
    refine G.region ?_
    refine GL.run (j := 1) 1 [2, 13] [(2, pt p3 0), (13, .agg #[.int .u8 0, .int .u8 0, .int .u8 0, .int .u8 0, .int .u8 0, .int .u8 0, .int .u8 0, .int .u8 0, .int .u8 0, .int .u8 0, .int .u8 0, .int .u8 0, .int .u8 0, .int .u8 0, .int .u8 0, .int .u8 0, .int .u8 0, .int .u8 0, .int .u8 0, .int .u8 0])] (by kernel_rfl) rfl ?_
    obtain ⟨w22, r23, H24⟩ := H6.stA (P := Try.prog) (o := 0) (vs := [.int .u8 0, .int .u8 0, .int .u8 0, .int .u8 0, .int .u8 0, .int .u8 0, .int .u8 0, .int .u8 0, .int .u8 0, .int .u8 0, .int .u8 0, .int .u8 0, .int .u8 0, .int .u8 0, .int .u8 0, .int .u8 0, .int .u8 0, .int .u8 0, .int .u8 0, .int .u8 0]) (ty := 28) (m := 20) 0 rfl (by kernel_rfl) rfl (by simp) (by simp [Value.oneCell'])
    have H24 : Hp w [] [.blk p3 [.int .u8 0, .int .u8 0, .int .u8 0, .int .u8 0, .int .u8 0, .int .u8 0, .int .u8 0, .int .u8 0, .int .u8 0, .int .u8 0, .int .u8 0, .int .u8 0, .int .u8 0, .int .u8 0, .int .u8 0, .int .u8 0, .int .u8 0, .int .u8 0, .int .u8 0, .int .u8 0] 28] w22 := H24
    refine GL.semU (j := 2) r23 [2] [(2, pt p3 0)] (by kernel_rfl) rfl rfl rfl ?_
    refine GL.run (j := 3) 1 [2, 3] [(2, pt p3 0), (3, .bool false)] (by kernel_rfl) rfl ?_
    refine GL.k rfl hK21 (fun _ _ h => h) ?_
    refine G.ret ?_
    intro F_ hF_ hM_
    refine hRet _ _ (bodyPost_2 rfl (RV.cell rfl (H24.ldA (o := 0) (ty := 28) (m := 20) (sub := [.int .u8 0, .int .u8 0, .int .u8 0, .int .u8 0, .int .u8 0, .int .u8 0, .int .u8 0, .int .u8 0, .int .u8 0, .int .u8 0, .int .u8 0, .int .u8 0, .int .u8 0, .int .u8 0, .int .u8 0, .int .u8 0, .int .u8 0, .int .u8 0, .int .u8 0, .int .u8 0]) 0 rfl (by kernel_rfl) rfl rfl)) (RV.tmp rfl) ?_ F_ hF_ hM_)
    exact ⟨rfl, H24.sub (List.nil_sublist _)⟩
theorem Parse_addr (x0 x1 x2 x3 x4 x5 x6 x7 x8 x9 x10 x11 x12 x13 x14 x15 x16 x17 x18 x19 : UInt8) (A : Option Addr) (c : Nat) (w : World) (hr : RdS w A (by8 ([118, 169, 20, x0, x1, x2, x3, x4, x5, x6, x7, x8, x9, x10, x11, x12, x13, x14, x15, x16, x17, x18, x19, 136, 172] : List UInt8))) (hc : 25 ≤ c) : Calls Try.prog 11 #[.slice A 25 c] w fun e w' => e = .returned (.agg #[.int .i64 1, .int .u8 (x0.toNat : Int), .int .u8 (x1.toNat : Int), .int .u8 (x2.toNat : Int), .int .u8 (x3.toNat : Int), .int .u8 (x4.toNat : Int), .int .u8 (x5.toNat : Int), .int .u8 (x6.toNat : Int), .int .u8 (x7.toNat : Int), .int .u8 (x8.toNat : Int), .int .u8 (x9.toNat : Int), .int .u8 (x10.toNat : Int), .int .u8 (x11.toNat : Int), .int .u8 (x12.toNat : Int), .int .u8 (x13.toNat : Int), .int .u8 (x14.toNat : Int), .int .u8 (x15.toNat : Int), .int .u8 (x16.toNat : Int), .int .u8 (x17.toNat : Int), .int .u8 (x18.toNat : Int), .int .u8 (x19.toNat : Int), .slice none 0 0]) ∧ Hp w [] [] w' := by
  refine calls_G (args := [.slice A 25 c]) Try.func11 rfl Try.ntmps11 rfl ?_
  intro Q0 hRet hNor hPan
  have H := Hp.start w
  have H : Hp w [] [] w := H
  refine G.seqK fun K1 hK2 => ?_
  refine G.region ?_
  obtain ⟨p3, w4, r5, H6⟩ := H.alloc (P := Try.prog) 43 [.int .i64 0, .int .u8 0, .int .u8 0, .int .u8 0, .int .u8 0, .int .u8 0, .int .u8 0, .int .u8 0, .int .u8 0, .int .u8 0, .int .u8 0, .int .u8 0, .int .u8 0, .int .u8 0, .int .u8 0, .int .u8 0, .int .u8 0, .int .u8 0, .int .u8 0, .int .u8 0, .int .u8 0, .slice none 0 0] (by kernel_rfl)
  have H6 : Hp w [] [.blk p3 [.int .i64 0, .int .u8 0, .int .u8 0, .int .u8 0, .int .u8 0, .int .u8 0, .int .u8 0, .int .u8 0, .int .u8 0, .int .u8 0, .int .u8 0, .int .u8 0, .int .u8 0, .int .u8 0, .int .u8 0, .int .u8 0, .int .u8 0, .int .u8 0, .int .u8 0, .int .u8 0, .int .u8 0, .slice none 0 0] 43] w4 := H6
  refine GL.sem (j := 1) (r5) [0, 2] [(0, .slice A 25 c), (2, pt p3 0)] (by kernel_rfl) (by kernel_rfl) rfl ?_
  refine GL.k rfl hK2 (fun _ _ h => h) ?_
  refine G.seqK fun K7 hK8 => ?_
  refine G.seqK fun K9 hK10 => ?_
  refine G.region ?_
  refine GL.run (j := 3) 3 [0, 2, 11] [(0, .slice A 25 c), (2, pt p3 0), (11, .bool true)] (by kernel_rfl) rfl ?_
  refine GL.k rfl hK10 (fun _ _ h => h) ?_
  refine G.yes rfl ?_
  refine G.seqK fun K11 hK12 => ?_
  refine G.region ?_
  refine GL.run (j := 1) 1 [0, 2, 12] [(0, .slice A 25 c), (2, pt p3 0), (12, .slice A 25 c)] (by kernel_rfl) rfl ?_
  refine GL.sem (j := 2) (run_sliceSl (P := Try.prog) (lo := some (.int .i64 3)) (hi := some (.int .i64 23)) (t := 38) (len := 25) (cap := c) (A := A) (l := 3) (h := 23) (by kernel_rfl) (Or.inr ⟨_, _, rfl, rfl⟩) (Or.inr ⟨_, _, rfl, rfl⟩) (by omega) (by omega)) [0, 2, 13] [(0, .slice A 25 c), (2, pt p3 0), (13, .slice (if c = 3 then A else Option.map (fun x => Addr.add x 3) A) 20 (c - 3))] (by kernel_rfl) (by kernel_rfl) rfl ?_
  refine GL.sem (j := 3) (run_s2a (P := Try.prog) (t := 28) (len := 20) (cap := (c - 3)) (n := 20) (A := (if c = 3 then A else Option.map (fun x => Addr.add x 3) A)) (by kernel_rfl) (by omega)) [0, 2, 14] [(0, .slice A 25 c), (2, pt p3 0), (14, .pointer (if c = 3 then A else Option.map (fun x => Addr.add x 3) A))] (by kernel_rfl) (by kernel_rfl) rfl ?_
  refine GL.sem (j := 4) (run_ldArr (P := Try.prog) (ty := 28) (m := 20) (A := (if c = 3 then A else Option.map (fun x => Addr.add x 3) A)) (xs := by8 ([x0, x1, x2, x3, x4, x5, x6, x7, x8, x9, x10, x11, x12, x13, x14, x15, x16, x17, x18, x19] : List UInt8)) (by kernel_rfl) (RdS.cut8 (cap := c) (hr.hp H6) 3 23 (cs := ([x0, x1, x2, x3, x4, x5, x6, x7, x8, x9, x10, x11, x12, x13, x14, x15, x16, x17, x18, x19] : List UInt8)) (by first | rfl | omega | (simp only [List.length_cons, List.length_nil, List.length_drop, List.length_take, List.length_append] <;> omega)) rfl) rfl (by decide)) [0, 2, 15] [(0, .slice A 25 c), (2, pt p3 0), (15, .agg #[.int .u8 (x0.toNat : Int), .int .u8 (x1.toNat : Int), .int .u8 (x2.toNat : Int), .int .u8 (x3.toNat : Int), .int .u8 (x4.toNat : Int), .int .u8 (x5.toNat : Int), .int .u8 (x6.toNat : Int), .int .u8 (x7.toNat : Int), .int .u8 (x8.toNat : Int), .int .u8 (x9.toNat : Int), .int .u8 (x10.toNat : Int), .int .u8 (x11.toNat : Int), .int .u8 (x12.toNat : Int), .int .u8 (x13.toNat : Int), .int .u8 (x14.toNat : Int), .int .u8 (x15.toNat : Int), .int .u8 (x16.toNat : Int), .int .u8 (x17.toNat : Int), .int .u8 (x18.toNat : Int), .int .u8 (x19.toNat : Int)])] (by kernel_rfl) (by kernel_rfl) rfl ?_
  refine GL.run (j := 5) 1 [0, 2, 16] [(0, .slice A 25 c), (2, pt p3 0), (16, .agg #[.int .i64 1, .int .u8 (x0.toNat : Int), .int .u8 (x1.toNat : Int), .int .u8 (x2.toNat : Int), .int .u8 (x3.toNat : Int), .int .u8 (x4.toNat : Int), .int .u8 (x5.toNat : Int), .int .u8 (x6.toNat : Int), .int .u8 (x7.toNat : Int), .int .u8 (x8.toNat : Int), .int .u8 (x9.toNat : Int), .int .u8 (x10.toNat : Int), .int .u8 (x11.toNat : Int), .int .u8 (x12.toNat : Int), .int .u8 (x13.toNat : Int), .int .u8 (x14.toNat : Int), .int .u8 (x15.toNat : Int), .int .u8 (x16.toNat : Int), .int .u8 (x17.toNat : Int), .int .u8 (x18.toNat : Int), .int .u8 (x19.toNat : Int), .slice none 0 0])] (by kernel_rfl) rfl ?_
  obtain ⟨p13, w14, r15, H16⟩ := H6.alloc (P := Try.prog) 43 [.int .i64 0, .int .u8 0, .int .u8 0, .int .u8 0, .int .u8 0, .int .u8 0, .int .u8 0, .int .u8 0, .int .u8 0, .int .u8 0, .int .u8 0, .int .u8 0, .int .u8 0, .int .u8 0, .int .u8 0, .int .u8 0, .int .u8 0, .int .u8 0, .int .u8 0, .int .u8 0, .int .u8 0, .slice none 0 0] (by kernel_rfl)
  have H16 : Hp w [] [.blk p3 [.int .i64 0, .int .u8 0, .int .u8 0, .int .u8 0, .int .u8 0, .int .u8 0, .int .u8 0, .int .u8 0, .int .u8 0, .int .u8 0, .int .u8 0, .int .u8 0, .int .u8 0, .int .u8 0, .int .u8 0, .int .u8 0, .int .u8 0, .int .u8 0, .int .u8 0, .int .u8 0, .int .u8 0, .slice none 0 0] 43, .blk p13 [.int .i64 0, .int .u8 0, .int .u8 0, .int .u8 0, .int .u8 0, .int .u8 0, .int .u8 0, .int .u8 0, .int .u8 0, .int .u8 0, .int .u8 0, .int .u8 0, .int .u8 0, .int .u8 0, .int .u8 0, .int .u8 0, .int .u8 0, .int .u8 0, .int .u8 0, .int .u8 0, .int .u8 0, .slice none 0 0] 43] w14 := H16
  refine GL.sem (j := 6) (r15) [0, 2, 3, 16] [(0, .slice A 25 c), (2, pt p3 0), (3, pt p13 0), (16, .agg #[.int .i64 1, .int .u8 (x0.toNat : Int), .int .u8 (x1.toNat : Int), .int .u8 (x2.toNat : Int), .int .u8 (x3.toNat : Int), .int .u8 (x4.toNat : Int), .int .u8 (x5.toNat : Int), .int .u8 (x6.toNat : Int), .int .u8 (x7.toNat : Int), .int .u8 (x8.toNat : Int), .int .u8 (x9.toNat : Int), .int .u8 (x10.toNat : Int), .int .u8 (x11.toNat : Int), .int .u8 (x12.toNat : Int), .int .u8 (x13.toNat : Int), .int .u8 (x14.toNat : Int), .int .u8 (x15.toNat : Int), .int .u8 (x16.toNat : Int), .int .u8 (x17.toNat : Int), .int .u8 (x18.toNat : Int), .int .u8 (x19.toNat : Int), .slice none 0 0])] (by kernel_rfl) (by kernel_rfl) rfl ?_
  obtain ⟨w17, r18, H19⟩ := H16.stA (P := Try.prog) (o := 0) (vs := [.int .i64 1, .int .u8 (x0.toNat : Int), .int .u8 (x1.toNat : Int), .int .u8 (x2.toNat : Int), .int .u8 (x3.toNat : Int), .int .u8 (x4.toNat : Int), .int .u8 (x5.toNat : Int), .int .u8 (x6.toNat : Int), .int .u8 (x7.toNat : Int), .int .u8 (x8.toNat : Int), .int .u8 (x9.toNat : Int), .int .u8 (x10.toNat : Int), .int .u8 (x11.toNat : Int), .int .u8 (x12.toNat : Int), .int .u8 (x13.toNat : Int), .int .u8 (x14.toNat : Int), .int .u8 (x15.toNat : Int), .int .u8 (x16.toNat : Int), .int .u8 (x17.toNat : Int), .int .u8 (x18.toNat : Int), .int .u8 (x19.toNat : Int), .slice none 0 0]) (ty := 43) (m := 22) 1 rfl (by kernel_rfl) rfl (by simp) (by simp [Value.oneCell'])
  have H19 : Hp w [] [.blk p3 [.int .i64 0, .int .u8 0, .int .u8 0, .int .u8 0, .int .u8 0, .int .u8 0, .int .u8 0, .int .u8 0, .int .u8 0, .int .u8 0, .int .u8 0, .int .u8 0, .int .u8 0, .int .u8 0, .int .u8 0, .int .u8 0, .int .u8 0, .int .u8 0, .int .u8 0, .int .u8 0, .int .u8 0, .slice none 0 0] 43, .blk p13 [.int .i64 1, .int .u8 (x0.toNat : Int), .int .u8 (x1.toNat : Int), .int .u8 (x2.toNat : Int), .int .u8 (x3.toNat : Int), .int .u8 (x4.toNat : Int), .int .u8 (x5.toNat : Int), .int .u8 (x6.toNat : Int), .int .u8 (x7.toNat : Int), .int .u8 (x8.toNat : Int), .int .u8 (x9.toNat : Int), .int .u8 (x10.toNat : Int), .int .u8 (x11.toNat : Int), .int .u8 (x12.toNat : Int), .int .u8 (x13.toNat : Int), .int .u8 (x14.toNat : Int), .int .u8 (x15.toNat : Int), .int .u8 (x16.toNat : Int), .int .u8 (x17.toNat : Int), .int .u8 (x18.toNat : Int), .int .u8 (x19.toNat : Int), .slice none 0 0] 43] w17 := H19
  refine GL.semU (j := 7) r18 [0, 2, 3] [(0, .slice A 25 c), (2, pt p3 0), (3, pt p13 0)] (by kernel_rfl) rfl rfl rfl ?_
  refine GL.k rfl hK12 (fun _ _ h => h) ?_
  refine G.seqK fun K20 hK21 => ?_
  refine G.region ?_
  refine GL.sem (j := 1) (H19.ldA (o := 0) (ty := 43) (m := 22) (sub := [.int .i64 1, .int .u8 (x0.toNat : Int), .int .u8 (x1.toNat : Int), .int .u8 (x2.toNat : Int), .int .u8 (x3.toNat : Int), .int .u8 (x4.toNat : Int), .int .u8 (x5.toNat : Int), .int .u8 (x6.toNat : Int), .int .u8 (x7.toNat : Int), .int .u8 (x8.toNat : Int), .int .u8 (x9.toNat : Int), .int .u8 (x10.toNat : Int), .int .u8 (x11.toNat : Int), .int .u8 (x12.toNat : Int), .int .u8 (x13.toNat : Int), .int .u8 (x14.toNat : Int), .int .u8 (x15.toNat : Int), .int .u8 (x16.toNat : Int), .int .u8 (x17.toNat : Int), .int .u8 (x18.toNat : Int), .int .u8 (x19.toNat : Int), .slice none 0 0]) 1 rfl (by kernel_rfl) rfl rfl) [0, 2, 3, 18] [(0, .slice A 25 c), (2, pt p3 0), (3, pt p13 0), (18, .agg #[.int .i64 1, .int .u8 (x0.toNat : Int), .int .u8 (x1.toNat : Int), .int .u8 (x2.toNat : Int), .int .u8 (x3.toNat : Int), .int .u8 (x4.toNat : Int), .int .u8 (x5.toNat : Int), .int .u8 (x6.toNat : Int), .int .u8 (x7.toNat : Int), .int .u8 (x8.toNat : Int), .int .u8 (x9.toNat : Int), .int .u8 (x10.toNat : Int), .int .u8 (x11.toNat : Int), .int .u8 (x12.toNat : Int), .int .u8 (x13.toNat : Int), .int .u8 (x14.toNat : Int), .int .u8 (x15.toNat : Int), .int .u8 (x16.toNat : Int), .int .u8 (x17.toNat : Int), .int .u8 (x18.toNat : Int), .int .u8 (x19.toNat : Int), .slice none 0 0])] (by kernel_rfl) (by kernel_rfl) rfl ?_
  refine GL.call (j := 2) (Bytes_addr x0 x1 x2 x3 x4 x5 x6 x7 x8 x9 x10 x11 x12 x13 x14 x15 x16 x17 x18 x19 none 0 0 w17) (by kernel_rfl) rfl (fun e_ w26 hR => ?_)
  obtain ⟨A22, c23, rfl, H25⟩ := hR
  have H24 : Hp w [] [.blk p3 [.int .i64 0, .int .u8 0, .int .u8 0, .int .u8 0, .int .u8 0, .int .u8 0, .int .u8 0, .int .u8 0, .int .u8 0, .int .u8 0, .int .u8 0, .int .u8 0, .int .u8 0, .int .u8 0, .int .u8 0, .int .u8 0, .int .u8 0, .int .u8 0, .int .u8 0, .int .u8 0, .int .u8 0, .slice none 0 0] 43, .blk p13 [.int .i64 1, .int .u8 (x0.toNat : Int), .int .u8 (x1.toNat : Int), .int .u8 (x2.toNat : Int), .int .u8 (x3.toNat : Int), .int .u8 (x4.toNat : Int), .int .u8 (x5.toNat : Int), .int .u8 (x6.toNat : Int), .int .u8 (x7.toNat : Int), .int .u8 (x8.toNat : Int), .int .u8 (x9.toNat : Int), .int .u8 (x10.toNat : Int), .int .u8 (x11.toNat : Int), .int .u8 (x12.toNat : Int), .int .u8 (x13.toNat : Int), .int .u8 (x14.toNat : Int), .int .u8 (x15.toNat : Int), .int .u8 (x16.toNat : Int), .int .u8 (x17.toNat : Int), .int .u8 (x18.toNat : Int), .int .u8 (x19.toNat : Int), .slice none 0 0] 43, .row A22 (([118, 169, 20, x0, x1, x2, x3, x4, x5, x6, x7, x8, x9, x10, x11, x12, x13, x14, x15, x16, x17, x18, x19, 136, 172] : List UInt8).length) c23 5 1 (by8 ([118, 169, 20, x0, x1, x2, x3, x4, x5, x6, x7, x8, x9, x10, x11, x12, x13, x14, x15, x16, x17, x18, x19, 136, 172] : List UInt8))] w26 := H19.callNew H25
  refine ⟨_, rfl, [0, 2, 3, 19], [(0, .slice A 25 c), (2, pt p3 0), (3, pt p13 0), (19, .tuple #[.slice A22 (([118, 169, 20, x0, x1, x2, x3, x4, x5, x6, x7, x8, x9, x10, x11, x12, x13, x14, x15, x16, x17, x18, x19, 136, 172] : List UInt8).length) c23, .int .i64 0])], by kernel_rfl, ?_⟩
  refine GL.run (j := 7) 5 [0, 2, 3, 4, 5] [(0, .slice A 25 c), (2, pt p3 0), (3, pt p13 0), (4, .slice A22 (([118, 169, 20, x0, x1, x2, x3, x4, x5, x6, x7, x8, x9, x10, x11, x12, x13, x14, x15, x16, x17, x18, x19, 136, 172] : List UInt8).length) c23), (5, .int .i64 0)] (by kernel_rfl) rfl ?_
  refine GL.k rfl hK21 (fun _ _ h => h) ?_
  refine G.seqK fun K27 hK28 => ?_
  refine G.region ?_
  refine GL.run (j := 5) 5 [0, 2, 3, 24, 25, 26] [(0, .slice A 25 c), (2, pt p3 0), (3, pt p13 0), (24, .bool true), (25, .slice A22 (([118, 169, 20, x0, x1, x2, x3, x4, x5, x6, x7, x8, x9, x10, x11, x12, x13, x14, x15, x16, x17, x18, x19, 136, 172] : List UInt8).length) c23), (26, .slice A 25 c)] (by kernel_rfl) rfl ?_
  refine GL.call (j := 6) (Equal_calls ([118, 169, 20, x0, x1, x2, x3, x4, x5, x6, x7, x8, x9, x10, x11, x12, x13, x14, x15, x16, x17, x18, x19, 136, 172] : List UInt8) ([118, 169, 20, x0, x1, x2, x3, x4, x5, x6, x7, x8, x9, x10, x11, x12, x13, x14, x15, x16, x17, x18, x19, 136, 172] : List UInt8) A22 A c23 c w26 (H24.rdRow 2 rfl) (hr.hp H24)) (by kernel_rfl) rfl (fun e_ w29 hR => ?_)
  obtain ⟨rfl, H31⟩ := hR
  have H30 : Hp w [] [.blk p3 [.int .i64 0, .int .u8 0, .int .u8 0, .int .u8 0, .int .u8 0, .int .u8 0, .int .u8 0, .int .u8 0, .int .u8 0, .int .u8 0, .int .u8 0, .int .u8 0, .int .u8 0, .int .u8 0, .int .u8 0, .int .u8 0, .int .u8 0, .int .u8 0, .int .u8 0, .int .u8 0, .int .u8 0, .slice none 0 0] 43, .blk p13 [.int .i64 1, .int .u8 (x0.toNat : Int), .int .u8 (x1.toNat : Int), .int .u8 (x2.toNat : Int), .int .u8 (x3.toNat : Int), .int .u8 (x4.toNat : Int), .int .u8 (x5.toNat : Int), .int .u8 (x6.toNat : Int), .int .u8 (x7.toNat : Int), .int .u8 (x8.toNat : Int), .int .u8 (x9.toNat : Int), .int .u8 (x10.toNat : Int), .int .u8 (x11.toNat : Int), .int .u8 (x12.toNat : Int), .int .u8 (x13.toNat : Int), .int .u8 (x14.toNat : Int), .int .u8 (x15.toNat : Int), .int .u8 (x16.toNat : Int), .int .u8 (x17.toNat : Int), .int .u8 (x18.toNat : Int), .int .u8 (x19.toNat : Int), .slice none 0 0] 43, .row A22 (([118, 169, 20, x0, x1, x2, x3, x4, x5, x6, x7, x8, x9, x10, x11, x12, x13, x14, x15, x16, x17, x18, x19, 136, 172] : List UInt8).length) c23 5 1 (by8 ([118, 169, 20, x0, x1, x2, x3, x4, x5, x6, x7, x8, x9, x10, x11, x12, x13, x14, x15, x16, x17, x18, x19, 136, 172] : List UInt8))] w29 := H24.callNil H31
  refine ⟨_, rfl, [0, 2, 3, 24, 27], [(0, .slice A 25 c), (2, pt p3 0), (3, pt p13 0), (24, .bool true), (27, .bool (([118, 169, 20, x0, x1, x2, x3, x4, x5, x6, x7, x8, x9, x10, x11, x12, x13, x14, x15, x16, x17, x18, x19, 136, 172] : List UInt8) == ([118, 169, 20, x0, x1, x2, x3, x4, x5, x6, x7, x8, x9, x10, x11, x12, x13, x14, x15, x16, x17, x18, x19, 136, 172] : List UInt8)))], by kernel_rfl, ?_⟩
  refine GL.run (j := 7) 1 [0, 2, 3, 28] [(0, .slice A 25 c), (2, pt p3 0), (3, pt p13 0), (28, .bool (([118, 169, 20, x0, x1, x2, x3, x4, x5, x6, x7, x8, x9, x10, x11, x12, x13, x14, x15, x16, x17, x18, x19, 136, 172] : List UInt8) == ([118, 169, 20, x0, x1, x2, x3, x4, x5, x6, x7, x8, x9, x10, x11, x12, x13, x14, x15, x16, x17, x18, x19, 136, 172] : List UInt8)))] (by kernel_rfl) rfl ?_
  refine GL.k rfl hK28 (fun _ _ h => h) ?_
  have hb32 : (([118, 169, 20, x0, x1, x2, x3, x4, x5, x6, x7, x8, x9, x10, x11, x12, x13, x14, x15, x16, x17, x18, x19, 136, 172] : List UInt8) == ([118, 169, 20, x0, x1, x2, x3, x4, x5, x6, x7, x8, x9, x10, x11, x12, x13, x14, x15, x16, x17, x18, x19, 136, 172] : List UInt8)) = true := beq_self_eq_true _
  rw [hb32]
  refine G.yes rfl ?_
  refine G.seqK fun K33 hK34 => ?_
  refine G.region ?_
  refine GL.sem (j := 1) (H30.ldA (o := 0) (ty := 43) (m := 22) (sub := [.int .i64 1, .int .u8 (x0.toNat : Int), .int .u8 (x1.toNat : Int), .int .u8 (x2.toNat : Int), .int .u8 (x3.toNat : Int), .int .u8 (x4.toNat : Int), .int .u8 (x5.toNat : Int), .int .u8 (x6.toNat : Int), .int .u8 (x7.toNat : Int), .int .u8 (x8.toNat : Int), .int .u8 (x9.toNat : Int), .int .u8 (x10.toNat : Int), .int .u8 (x11.toNat : Int), .int .u8 (x12.toNat : Int), .int .u8 (x13.toNat : Int), .int .u8 (x14.toNat : Int), .int .u8 (x15.toNat : Int), .int .u8 (x16.toNat : Int), .int .u8 (x17.toNat : Int), .int .u8 (x18.toNat : Int), .int .u8 (x19.toNat : Int), .slice none 0 0]) 1 rfl (by kernel_rfl) rfl rfl) [2, 29] [(2, pt p3 0), (29, .agg #[.int .i64 1, .int .u8 (x0.toNat : Int), .int .u8 (x1.toNat : Int), .int .u8 (x2.toNat : Int), .int .u8 (x3.toNat : Int), .int .u8 (x4.toNat : Int), .int .u8 (x5.toNat : Int), .int .u8 (x6.toNat : Int), .int .u8 (x7.toNat : Int), .int .u8 (x8.toNat : Int), .int .u8 (x9.toNat : Int), .int .u8 (x10.toNat : Int), .int .u8 (x11.toNat : Int), .int .u8 (x12.toNat : Int), .int .u8 (x13.toNat : Int), .int .u8 (x14.toNat : Int), .int .u8 (x15.toNat : Int), .int .u8 (x16.toNat : Int), .int .u8 (x17.toNat : Int), .int .u8 (x18.toNat : Int), .int .u8 (x19.toNat : Int), .slice none 0 0])] (by kernel_rfl) (by kernel_rfl) rfl ?_
  obtain ⟨w35, r36, H37⟩ := H30.stA (P := Try.prog) (o := 0) (vs := [.int .i64 1, .int .u8 (x0.toNat : Int), .int .u8 (x1.toNat : Int), .int .u8 (x2.toNat : Int), .int .u8 (x3.toNat : Int), .int .u8 (x4.toNat : Int), .int .u8 (x5.toNat : Int), .int .u8 (x6.toNat : Int), .int .u8 (x7.toNat : Int), .int .u8 (x8.toNat : Int), .int .u8 (x9.toNat : Int), .int .u8 (x10.toNat : Int), .int .u8 (x11.toNat : Int), .int .u8 (x12.toNat : Int), .int .u8 (x13.toNat : Int), .int .u8 (x14.toNat : Int), .int .u8 (x15.toNat : Int), .int .u8 (x16.toNat : Int), .int .u8 (x17.toNat : Int), .int .u8 (x18.toNat : Int), .int .u8 (x19.toNat : Int), .slice none 0 0]) (ty := 43) (m := 22) 0 rfl (by kernel_rfl) rfl (by simp) (by simp [Value.oneCell'])
  have H37 : Hp w [] [.blk p3 [.int .i64 1, .int .u8 (x0.toNat : Int), .int .u8 (x1.toNat : Int), .int .u8 (x2.toNat : Int), .int .u8 (x3.toNat : Int), .int .u8 (x4.toNat : Int), .int .u8 (x5.toNat : Int), .int .u8 (x6.toNat : Int), .int .u8 (x7.toNat : Int), .int .u8 (x8.toNat : Int), .int .u8 (x9.toNat : Int), .int .u8 (x10.toNat : Int), .int .u8 (x11.toNat : Int), .int .u8 (x12.toNat : Int), .int .u8 (x13.toNat : Int), .int .u8 (x14.toNat : Int), .int .u8 (x15.toNat : Int), .int .u8 (x16.toNat : Int), .int .u8 (x17.toNat : Int), .int .u8 (x18.toNat : Int), .int .u8 (x19.toNat : Int), .slice none 0 0] 43, .blk p13 [.int .i64 1, .int .u8 (x0.toNat : Int), .int .u8 (x1.toNat : Int), .int .u8 (x2.toNat : Int), .int .u8 (x3.toNat : Int), .int .u8 (x4.toNat : Int), .int .u8 (x5.toNat : Int), .int .u8 (x6.toNat : Int), .int .u8 (x7.toNat : Int), .int .u8 (x8.toNat : Int), .int .u8 (x9.toNat : Int), .int .u8 (x10.toNat : Int), .int .u8 (x11.toNat : Int), .int .u8 (x12.toNat : Int), .int .u8 (x13.toNat : Int), .int .u8 (x14.toNat : Int), .int .u8 (x15.toNat : Int), .int .u8 (x16.toNat : Int), .int .u8 (x17.toNat : Int), .int .u8 (x18.toNat : Int), .int .u8 (x19.toNat : Int), .slice none 0 0] 43, .row A22 (([118, 169, 20, x0, x1, x2, x3, x4, x5, x6, x7, x8, x9, x10, x11, x12, x13, x14, x15, x16, x17, x18, x19, 136, 172] : List UInt8).length) c23 5 1 (by8 ([118, 169, 20, x0, x1, x2, x3, x4, x5, x6, x7, x8, x9, x10, x11, x12, x13, x14, x15, x16, x17, x18, x19, 136, 172] : List UInt8))] w35 := H37
  refine GL.semU (j := 2) r36 [2] [(2, pt p3 0)] (by kernel_rfl) rfl rfl rfl ?_
  refine GL.k rfl hK34 (fun _ _ h => h) ?_
  refine G.ret ?_
  intro F_ hF_ hM_
  refine hRet _ _ (bodyPost_1 rfl (RV.cell rfl (H37.ldA (o := 0) (ty := 43) (m := 22) (sub := [.int .i64 1, .int .u8 (x0.toNat : Int), .int .u8 (x1.toNat : Int), .int .u8 (x2.toNat : Int), .int .u8 (x3.toNat : Int), .int .u8 (x4.toNat : Int), .int .u8 (x5.toNat : Int), .int .u8 (x6.toNat : Int), .int .u8 (x7.toNat : Int), .int .u8 (x8.toNat : Int), .int .u8 (x9.toNat : Int), .int .u8 (x10.toNat : Int), .int .u8 (x11.toNat : Int), .int .u8 (x12.toNat : Int), .int .u8 (x13.toNat : Int), .int .u8 (x14.toNat : Int), .int .u8 (x15.toNat : Int), .int .u8 (x16.toNat : Int), .int .u8 (x17.toNat : Int), .int .u8 (x18.toNat : Int), .int .u8 (x19.toNat : Int), .slice none 0 0]) 0 rfl (by kernel_rfl) rfl rfl)) ?_ F_ hF_ hM_)
  exact ⟨rfl, H37.sub (List.nil_sublist _)⟩
theorem isNone_drop {w : World} {A : Option Addr} {bs : List UInt8} {c l : Nat} (hr : RdS w A (by8 bs)) (hl : l < bs.length) (hc : l < c) : (if c = l then A else A.map fun x => Addr.add x l).isNone = false := by
  obtain ⟨a, rfl, _⟩ := hr.cell (j := l) (List.getElem?_eq_getElem (by rw [by8_length]; exact hl))
  rw [if_neg (by omega)]
  rfl
theorem Parse_tagN (t : List UInt8) (A : Option Addr) (c : Nat) (w : World) (hr : RdS w A (by8 (106 :: UInt8.ofNat t.length :: t))) (h1 : 1 ≤ t.length) (h40 : t.length ≤ 40) (h23 : t.length ≠ 23) (hc : t.length + 2 ≤ c) : Calls Try.prog 11 #[.slice A ((106 :: UInt8.ofNat t.length :: t).length) c] w fun e w' => ∃ A c, e = .returned (.agg #[.int .i64 2, .int .u8 0, .int .u8 0, .int .u8 0, .int .u8 0, .int .u8 0, .int .u8 0, .int .u8 0, .int .u8 0, .int .u8 0, .int .u8 0, .int .u8 0, .int .u8 0, .int .u8 0, .int .u8 0, .int .u8 0, .int .u8 0, .int .u8 0, .int .u8 0, .int .u8 0, .int .u8 0, .slice A t.length c]) ∧ Hp w [] [.row A t.length c 5 1 (by8 t)] w' := by
  refine calls_G (args := [.slice A ((106 :: UInt8.ofNat t.length :: t).length) c]) Try.func11 rfl Try.ntmps11 rfl ?_
  intro Q0 hRet hNor hPan
  have H := Hp.start w
  have H : Hp w [] [] w := H
  refine G.seqK fun K1 hK2 => ?_
  refine G.region ?_
  obtain ⟨p3, w4, r5, H6⟩ := H.alloc (P := Try.prog) 43 [.int .i64 0, .int .u8 0, .int .u8 0, .int .u8 0, .int .u8 0, .int .u8 0, .int .u8 0, .int .u8 0, .int .u8 0, .int .u8 0, .int .u8 0, .int .u8 0, .int .u8 0, .int .u8 0, .int .u8 0, .int .u8 0, .int .u8 0, .int .u8 0, .int .u8 0, .int .u8 0, .int .u8 0, .slice none 0 0] (by kernel_rfl)
  have H6 : Hp w [] [.blk p3 [.int .i64 0, .int .u8 0, .int .u8 0, .int .u8 0, .int .u8 0, .int .u8 0, .int .u8 0, .int .u8 0, .int .u8 0, .int .u8 0, .int .u8 0, .int .u8 0, .int .u8 0, .int .u8 0, .int .u8 0, .int .u8 0, .int .u8 0, .int .u8 0, .int .u8 0, .int .u8 0, .int .u8 0, .slice none 0 0] 43] w4 := H6
  refine GL.sem (j := 1) (r5) [0, 2] [(0, .slice A ((106 :: UInt8.ofNat t.length :: t).length) c), (2, pt p3 0)] (by kernel_rfl) (by kernel_rfl) rfl ?_
  refine GL.k rfl hK2 (fun _ _ h => h) ?_
  refine G.seqK fun K7 hK8 => ?_
  refine G.seqK fun K9 hK10 => ?_
  refine G.region ?_
  refine GL.run (j := 3) 3 [0, 2, 11] [(0, .slice A ((106 :: UInt8.ofNat t.length :: t).length) c), (2, pt p3 0), (11, .bool ((((106 :: UInt8.ofNat t.length :: t).length : Nat) : Int) == 25))] (by kernel_rfl) rfl ?_
  refine GL.k rfl hK10 (fun _ _ h => h) ?_
  have hb11 : ((((106 :: UInt8.ofNat t.length :: t).length : Nat) : Int) == 25) = false := beq_eq_false_iff_ne.2 (by simp; omega)
  rw [hb11]
  refine G.no rfl ?_
  refine G.skipK hK8 (fun _ _ h => h) ?_
  refine G.seqK fun K12 hK13 => ?_
  refine G.seqK fun K14 hK15 => ?_
  refine G.region ?_
  refine GL.run (j := 3) 3 [0, 2, 32] [(0, .slice A ((106 :: UInt8.ofNat t.length :: t).length) c), (2, pt p3 0), (32, .bool (decide (2 < (((106 :: UInt8.ofNat t.length :: t).length : Nat) : Int))))] (by kernel_rfl) rfl ?_
  refine GL.k rfl hK15 (fun _ _ h => h) ?_
  have hb16 : (decide (2 < (((106 :: UInt8.ofNat t.length :: t).length : Nat) : Int))) = true := decide_eq_true (by simp; omega)
  rw [hb16]
  refine G.yes rfl ?_
  refine G.seqK fun K17 hK18 => ?_
  refine G.region ?_
  refine GL.run (j := 1) 1 [0, 2, 33] [(0, .slice A ((106 :: UInt8.ofNat t.length :: t).length) c), (2, pt p3 0), (33, .slice A ((106 :: UInt8.ofNat t.length :: t).length) c)] (by kernel_rfl) rfl ?_
  refine GL.sem (j := 2) (run_sliceSl (P := Try.prog) (lo := some (.int .i64 2)) (hi := none) (t := 38) (len := (106 :: UInt8.ofNat t.length :: t).length) (cap := c) (A := A) (l := 2) (h := (106 :: UInt8.ofNat t.length :: t).length) (by kernel_rfl) (Or.inr ⟨_, _, rfl, rfl⟩) (Or.inl ⟨rfl, rfl⟩) (by first | rfl | omega | (simp only [List.length_cons, List.length_nil, List.length_drop, List.length_take, List.length_append] <;> omega)) (by first | rfl | omega | (simp only [List.length_cons, List.length_nil, List.length_drop, List.length_take, List.length_append] <;> omega))) [0, 2, 34] [(0, .slice A ((106 :: UInt8.ofNat t.length :: t).length) c), (2, pt p3 0), (34, .slice (if c = 2 then A else Option.map (fun x => Addr.add x 2) A) t.length (c - 2))] (by kernel_rfl) (by kernel_rfl) rfl ?_
  refine GL.call (j := 3) (SClone_calls t (if c = 2 then A else Option.map (fun x => Addr.add x 2) A) (c - 2) w4 (RdS.drop8 (cap := c) (hr.hp H6) 2 (cs := t) (by first | rfl | omega | (simp only [List.length_cons, List.length_nil, List.length_drop, List.length_take, List.length_append] <;> omega)) rfl) (isNone_drop hr (by first | rfl | omega | (simp only [List.length_cons, List.length_nil, List.length_drop, List.length_take, List.length_append] <;> omega)) (by first | rfl | omega | (simp only [List.length_cons, List.length_nil, List.length_drop, List.length_take, List.length_append] <;> omega))) (by first | rfl | omega | (simp only [List.length_cons, List.length_nil, List.length_drop, List.length_take, List.length_append] <;> omega))) (by kernel_rfl) rfl (fun e_ w23 hR => ?_)
  obtain ⟨A19, c20, rfl, H22⟩ := hR
  have H21 : Hp w [] [.blk p3 [.int .i64 0, .int .u8 0, .int .u8 0, .int .u8 0, .int .u8 0, .int .u8 0, .int .u8 0, .int .u8 0, .int .u8 0, .int .u8 0, .int .u8 0, .int .u8 0, .int .u8 0, .int .u8 0, .int .u8 0, .int .u8 0, .int .u8 0, .int .u8 0, .int .u8 0, .int .u8 0, .int .u8 0, .slice none 0 0] 43, .row A19 t.length c20 5 1 (by8 t)] w23 := H6.callNew H22
  refine ⟨_, rfl, [0, 2, 35], [(0, .slice A ((106 :: UInt8.ofNat t.length :: t).length) c), (2, pt p3 0), (35, .slice A19 t.length c20)], by kernel_rfl, ?_⟩
  refine GL.run (j := 4) 1 [0, 2, 36] [(0, .slice A ((106 :: UInt8.ofNat t.length :: t).length) c), (2, pt p3 0), (36, .agg #[.int .i64 2, .int .u8 0, .int .u8 0, .int .u8 0, .int .u8 0, .int .u8 0, .int .u8 0, .int .u8 0, .int .u8 0, .int .u8 0, .int .u8 0, .int .u8 0, .int .u8 0, .int .u8 0, .int .u8 0, .int .u8 0, .int .u8 0, .int .u8 0, .int .u8 0, .int .u8 0, .int .u8 0, .slice A19 t.length c20])] (by kernel_rfl) rfl ?_
  obtain ⟨p24, w25, r26, H27⟩ := H21.alloc (P := Try.prog) 43 [.int .i64 0, .int .u8 0, .int .u8 0, .int .u8 0, .int .u8 0, .int .u8 0, .int .u8 0, .int .u8 0, .int .u8 0, .int .u8 0, .int .u8 0, .int .u8 0, .int .u8 0, .int .u8 0, .int .u8 0, .int .u8 0, .int .u8 0, .int .u8 0, .int .u8 0, .int .u8 0, .int .u8 0, .slice none 0 0] (by kernel_rfl)
  have H27 : Hp w [] [.blk p3 [.int .i64 0, .int .u8 0, .int .u8 0, .int .u8 0, .int .u8 0, .int .u8 0, .int .u8 0, .int .u8 0, .int .u8 0, .int .u8 0, .int .u8 0, .int .u8 0, .int .u8 0, .int .u8 0, .int .u8 0, .int .u8 0, .int .u8 0, .int .u8 0, .int .u8 0, .int .u8 0, .int .u8 0, .slice none 0 0] 43, .row A19 t.length c20 5 1 (by8 t), .blk p24 [.int .i64 0, .int .u8 0, .int .u8 0, .int .u8 0, .int .u8 0, .int .u8 0, .int .u8 0, .int .u8 0, .int .u8 0, .int .u8 0, .int .u8 0, .int .u8 0, .int .u8 0, .int .u8 0, .int .u8 0, .int .u8 0, .int .u8 0, .int .u8 0, .int .u8 0, .int .u8 0, .int .u8 0, .slice none 0 0] 43] w25 := H27
  refine GL.sem (j := 5) (r26) [0, 2, 6, 36] [(0, .slice A ((106 :: UInt8.ofNat t.length :: t).length) c), (2, pt p3 0), (6, pt p24 0), (36, .agg #[.int .i64 2, .int .u8 0, .int .u8 0, .int .u8 0, .int .u8 0, .int .u8 0, .int .u8 0, .int .u8 0, .int .u8 0, .int .u8 0, .int .u8 0, .int .u8 0, .int .u8 0, .int .u8 0, .int .u8 0, .int .u8 0, .int .u8 0, .int .u8 0, .int .u8 0, .int .u8 0, .int .u8 0, .slice A19 t.length c20])] (by kernel_rfl) (by kernel_rfl) rfl ?_
  obtain ⟨w28, r29, H30⟩ := H27.stA (P := Try.prog) (o := 0) (vs := [.int .i64 2, .int .u8 0, .int .u8 0, .int .u8 0, .int .u8 0, .int .u8 0, .int .u8 0, .int .u8 0, .int .u8 0, .int .u8 0, .int .u8 0, .int .u8 0, .int .u8 0, .int .u8 0, .int .u8 0, .int .u8 0, .int .u8 0, .int .u8 0, .int .u8 0, .int .u8 0, .int .u8 0, .slice A19 t.length c20]) (ty := 43) (m := 22) 2 rfl (by kernel_rfl) rfl (by simp) (by simp [Value.oneCell'])
  have H30 : Hp w [] [.blk p3 [.int .i64 0, .int .u8 0, .int .u8 0, .int .u8 0, .int .u8 0, .int .u8 0, .int .u8 0, .int .u8 0, .int .u8 0, .int .u8 0, .int .u8 0, .int .u8 0, .int .u8 0, .int .u8 0, .int .u8 0, .int .u8 0, .int .u8 0, .int .u8 0, .int .u8 0, .int .u8 0, .int .u8 0, .slice none 0 0] 43, .row A19 t.length c20 5 1 (by8 t), .blk p24 [.int .i64 2, .int .u8 0, .int .u8 0, .int .u8 0, .int .u8 0, .int .u8 0, .int .u8 0, .int .u8 0, .int .u8 0, .int .u8 0, .int .u8 0, .int .u8 0, .int .u8 0, .int .u8 0, .int .u8 0, .int .u8 0, .int .u8 0, .int .u8 0, .int .u8 0, .int .u8 0, .int .u8 0, .slice A19 t.length c20] 43] w28 := H30
  refine GL.semU (j := 6) r29 [0, 2, 6] [(0, .slice A ((106 :: UInt8.ofNat t.length :: t).length) c), (2, pt p3 0), (6, pt p24 0)] (by kernel_rfl) rfl rfl rfl ?_
  refine GL.k rfl hK18 (fun _ _ h => h) ?_
  refine G.seqK fun K31 hK32 => ?_
  refine G.region ?_
  refine GL.sem (j := 1) (H30.ldA (o := 0) (ty := 43) (m := 22) (sub := [.int .i64 2, .int .u8 0, .int .u8 0, .int .u8 0, .int .u8 0, .int .u8 0, .int .u8 0, .int .u8 0, .int .u8 0, .int .u8 0, .int .u8 0, .int .u8 0, .int .u8 0, .int .u8 0, .int .u8 0, .int .u8 0, .int .u8 0, .int .u8 0, .int .u8 0, .int .u8 0, .int .u8 0, .slice A19 t.length c20]) 2 rfl (by kernel_rfl) rfl rfl) [0, 2, 6, 38] [(0, .slice A ((106 :: UInt8.ofNat t.length :: t).length) c), (2, pt p3 0), (6, pt p24 0), (38, .agg #[.int .i64 2, .int .u8 0, .int .u8 0, .int .u8 0, .int .u8 0, .int .u8 0, .int .u8 0, .int .u8 0, .int .u8 0, .int .u8 0, .int .u8 0, .int .u8 0, .int .u8 0, .int .u8 0, .int .u8 0, .int .u8 0, .int .u8 0, .int .u8 0, .int .u8 0, .int .u8 0, .int .u8 0, .slice A19 t.length c20])] (by kernel_rfl) (by kernel_rfl) rfl ?_
  refine GL.call (j := 2) (Bytes_tag (0 : UInt8) (0 : UInt8) (0 : UInt8) (0 : UInt8) (0 : UInt8) (0 : UInt8) (0 : UInt8) (0 : UInt8) (0 : UInt8) (0 : UInt8) (0 : UInt8) (0 : UInt8) (0 : UInt8) (0 : UInt8) (0 : UInt8) (0 : UInt8) (0 : UInt8) (0 : UInt8) (0 : UInt8) (0 : UInt8) t A19 c20 w28 (H30.rdRow 1 rfl) (by omega) (by omega)) (by kernel_rfl) rfl (fun e_ w37 hR => ?_)
  obtain ⟨A33, c34, rfl, H36⟩ := hR
  have H35 : Hp w [] [.blk p3 [.int .i64 0, .int .u8 0, .int .u8 0, .int .u8 0, .int .u8 0, .int .u8 0, .int .u8 0, .int .u8 0, .int .u8 0, .int .u8 0, .int .u8 0, .int .u8 0, .int .u8 0, .int .u8 0, .int .u8 0, .int .u8 0, .int .u8 0, .int .u8 0, .int .u8 0, .int .u8 0, .int .u8 0, .slice none 0 0] 43, .row A19 t.length c20 5 1 (by8 t), .blk p24 [.int .i64 2, .int .u8 0, .int .u8 0, .int .u8 0, .int .u8 0, .int .u8 0, .int .u8 0, .int .u8 0, .int .u8 0, .int .u8 0, .int .u8 0, .int .u8 0, .int .u8 0, .int .u8 0, .int .u8 0, .int .u8 0, .int .u8 0, .int .u8 0, .int .u8 0, .int .u8 0, .int .u8 0, .slice A19 t.length c20] 43, .row A33 ((106 :: UInt8.ofNat t.length :: t).length) c34 5 1 (by8 (106 :: UInt8.ofNat t.length :: t))] w37 := H30.callNew H36
  refine ⟨_, rfl, [0, 2, 6, 39], [(0, .slice A ((106 :: UInt8.ofNat t.length :: t).length) c), (2, pt p3 0), (6, pt p24 0), (39, .tuple #[.slice A33 ((106 :: UInt8.ofNat t.length :: t).length) c34, .int .i64 0])], by kernel_rfl, ?_⟩
  refine GL.run (j := 7) 5 [0, 2, 6, 7, 8] [(0, .slice A ((106 :: UInt8.ofNat t.length :: t).length) c), (2, pt p3 0), (6, pt p24 0), (7, .slice A33 ((106 :: UInt8.ofNat t.length :: t).length) c34), (8, .int .i64 0)] (by kernel_rfl) rfl ?_
  refine GL.k rfl hK32 (fun _ _ h => h) ?_
  refine G.seqK fun K38 hK39 => ?_
  refine G.region ?_
  refine GL.run (j := 5) 5 [2, 6, 44, 45, 46] [(2, pt p3 0), (6, pt p24 0), (44, .bool true), (45, .slice A33 ((106 :: UInt8.ofNat t.length :: t).length) c34), (46, .slice A ((106 :: UInt8.ofNat t.length :: t).length) c)] (by kernel_rfl) rfl ?_
  refine GL.call (j := 6) (Equal_calls (106 :: UInt8.ofNat t.length :: t) (106 :: UInt8.ofNat t.length :: t) A33 A c34 c w37 (H35.rdRow 3 rfl) (hr.hp H35)) (by kernel_rfl) rfl (fun e_ w40 hR => ?_)
  obtain ⟨rfl, H42⟩ := hR
  have H41 : Hp w [] [.blk p3 [.int .i64 0, .int .u8 0, .int .u8 0, .int .u8 0, .int .u8 0, .int .u8 0, .int .u8 0, .int .u8 0, .int .u8 0, .int .u8 0, .int .u8 0, .int .u8 0, .int .u8 0, .int .u8 0, .int .u8 0, .int .u8 0, .int .u8 0, .int .u8 0, .int .u8 0, .int .u8 0, .int .u8 0, .slice none 0 0] 43, .row A19 t.length c20 5 1 (by8 t), .blk p24 [.int .i64 2, .int .u8 0, .int .u8 0, .int .u8 0, .int .u8 0, .int .u8 0, .int .u8 0, .int .u8 0, .int .u8 0, .int .u8 0, .int .u8 0, .int .u8 0, .int .u8 0, .int .u8 0, .int .u8 0, .int .u8 0, .int .u8 0, .int .u8 0, .int .u8 0, .int .u8 0, .int .u8 0, .slice A19 t.length c20] 43, .row A33 ((106 :: UInt8.ofNat t.length :: t).length) c34 5 1 (by8 (106 :: UInt8.ofNat t.length :: t))] w40 := H35.callNil H42
  refine ⟨_, rfl, [2, 6, 44, 47], [(2, pt p3 0), (6, pt p24 0), (44, .bool true), (47, .bool ((106 :: UInt8.ofNat t.length :: t) == (106 :: UInt8.ofNat t.length :: t)))], by kernel_rfl, ?_⟩
  refine GL.run (j := 7) 1 [2, 6, 48] [(2, pt p3 0), (6, pt p24 0), (48, .bool ((106 :: UInt8.ofNat t.length :: t) == (106 :: UInt8.ofNat t.length :: t)))] (by kernel_rfl) rfl ?_
  refine GL.k rfl hK39 (fun _ _ h => h) ?_
  have hb43 : ((106 :: UInt8.ofNat t.length :: t) == (106 :: UInt8.ofNat t.length :: t)) = true := beq_self_eq_true _
  rw [hb43]
  refine G.yes rfl ?_
  refine G.seqK fun K44 hK45 => ?_
  refine G.region ?_
  refine GL.sem (j := 1) (H41.ldA (o := 0) (ty := 43) (m := 22) (sub := [.int .i64 2, .int .u8 0, .int .u8 0, .int .u8 0, .int .u8 0, .int .u8 0, .int .u8 0, .int .u8 0, .int .u8 0, .int .u8 0, .int .u8 0, .int .u8 0, .int .u8 0, .int .u8 0, .int .u8 0, .int .u8 0, .int .u8 0, .int .u8 0, .int .u8 0, .int .u8 0, .int .u8 0, .slice A19 t.length c20]) 2 rfl (by kernel_rfl) rfl rfl) [2, 49] [(2, pt p3 0), (49, .agg #[.int .i64 2, .int .u8 0, .int .u8 0, .int .u8 0, .int .u8 0, .int .u8 0, .int .u8 0, .int .u8 0, .int .u8 0, .int .u8 0, .int .u8 0, .int .u8 0, .int .u8 0, .int .u8 0, .int .u8 0, .int .u8 0, .int .u8 0, .int .u8 0, .int .u8 0, .int .u8 0, .int .u8 0, .slice A19 t.length c20])] (by kernel_rfl) (by kernel_rfl) rfl ?_
  obtain ⟨w46, r47, H48⟩ := H41.stA (P := Try.prog) (o := 0) (vs := [.int .i64 2, .int .u8 0, .int .u8 0, .int .u8 0, .int .u8 0, .int .u8 0, .int .u8 0, .int .u8 0, .int .u8 0, .int .u8 0, .int .u8 0, .int .u8 0, .int .u8 0, .int .u8 0, .int .u8 0, .int .u8 0, .int .u8 0, .int .u8 0, .int .u8 0, .int .u8 0, .int .u8 0, .slice A19 t.length c20]) (ty := 43) (m := 22) 0 rfl (by kernel_rfl) rfl (by simp) (by simp [Value.oneCell'])
  have H48 : Hp w [] [.blk p3 [.int .i64 2, .int .u8 0, .int .u8 0, .int .u8 0, .int .u8 0, .int .u8 0, .int .u8 0, .int .u8 0, .int .u8 0, .int .u8 0, .int .u8 0, .int .u8 0, .int .u8 0, .int .u8 0, .int .u8 0, .int .u8 0, .int .u8 0, .int .u8 0, .int .u8 0, .int .u8 0, .int .u8 0, .slice A19 t.length c20] 43, .row A19 t.length c20 5 1 (by8 t), .blk p24 [.int .i64 2, .int .u8 0, .int .u8 0, .int .u8 0, .int .u8 0, .int .u8 0, .int .u8 0, .int .u8 0, .int .u8 0, .int .u8 0, .int .u8 0, .int .u8 0, .int .u8 0, .int .u8 0, .int .u8 0, .int .u8 0, .int .u8 0, .int .u8 0, .int .u8 0, .int .u8 0, .int .u8 0, .slice A19 t.length c20] 43, .row A33 ((106 :: UInt8.ofNat t.length :: t).length) c34 5 1 (by8 (106 :: UInt8.ofNat t.length :: t))] w46 := H48
  refine GL.semU (j := 2) r47 [2] [(2, pt p3 0)] (by kernel_rfl) rfl rfl rfl ?_
  refine GL.k rfl hK45 (fun _ _ h => h) ?_
  refine G.ret ?_
  intro F_ hF_ hM_
  refine hRet _ _ (bodyPost_1 rfl (RV.cell rfl (H48.ldA (o := 0) (ty := 43) (m := 22) (sub := [.int .i64 2, .int .u8 0, .int .u8 0, .int .u8 0, .int .u8 0, .int .u8 0, .int .u8 0, .int .u8 0, .int .u8 0, .int .u8 0, .int .u8 0, .int .u8 0, .int .u8 0, .int .u8 0, .int .u8 0, .int .u8 0, .int .u8 0, .int .u8 0, .int .u8 0, .int .u8 0, .int .u8 0, .slice A19 t.length c20]) 0 rfl (by kernel_rfl) rfl rfl)) ?_ F_ hF_ hM_)
  exact ⟨_, _, rfl, H48.sub (by simp)⟩
theorem Parse_tag23 (x0 x1 x2 x3 x4 x5 x6 x7 x8 x9 x10 x11 x12 x13 x14 x15 x16 x17 x18 x19 x20 x21 x22 : UInt8) (A : Option Addr) (c : Nat) (w : World) (hr : RdS w A (by8 ([106, 23, x0, x1, x2, x3, x4, x5, x6, x7, x8, x9, x10, x11, x12, x13, x14, x15, x16, x17, x18, x19, x20, x21, x22] : List UInt8))) (hc : 25 ≤ c) : Calls Try.prog 11 #[.slice A 25 c] w fun e w' => ∃ A c, e = .returned (.agg #[.int .i64 2, .int .u8 0, .int .u8 0, .int .u8 0, .int .u8 0, .int .u8 0, .int .u8 0, .int .u8 0, .int .u8 0, .int .u8 0, .int .u8 0, .int .u8 0, .int .u8 0, .int .u8 0, .int .u8 0, .int .u8 0, .int .u8 0, .int .u8 0, .int .u8 0, .int .u8 0, .int .u8 0, .slice A 23 c]) ∧ Hp w [] [.row A 23 c 5 1 (by8 ([x0, x1, x2, x3, x4, x5, x6, x7, x8, x9, x10, x11, x12, x13, x14, x15, x16, x17, x18, x19, x20, x21, x22] : List UInt8))] w' := by
  refine calls_G (args := [.slice A 25 c]) Try.func11 rfl Try.ntmps11 rfl ?_
  intro Q0 hRet hNor hPan
  have H := Hp.start w
  have H : Hp w [] [] w := H
  refine G.seqK fun K1 hK2 => ?_
  refine G.region ?_
  obtain ⟨p3, w4, r5, H6⟩ := H.alloc (P := Try.prog) 43 [.int .i64 0, .int .u8 0, .int .u8 0, .int .u8 0, .int .u8 0, .int .u8 0, .int .u8 0, .int .u8 0, .int .u8 0, .int .u8 0, .int .u8 0, .int .u8 0, .int .u8 0, .int .u8 0, .int .u8 0, .int .u8 0, .int .u8 0, .int .u8 0, .int .u8 0, .int .u8 0, .int .u8 0, .slice none 0 0] (by kernel_rfl)
  have H6 : Hp w [] [.blk p3 [.int .i64 0, .int .u8 0, .int .u8 0, .int .u8 0, .int .u8 0, .int .u8 0, .int .u8 0, .int .u8 0, .int .u8 0, .int .u8 0, .int .u8 0, .int .u8 0, .int .u8 0, .int .u8 0, .int .u8 0, .int .u8 0, .int .u8 0, .int .u8 0, .int .u8 0, .int .u8 0, .int .u8 0, .slice none 0 0] 43] w4 := H6
  refine GL.sem (j := 1) (r5) [0, 2] [(0, .slice A 25 c), (2, pt p3 0)] (by kernel_rfl) (by kernel_rfl) rfl ?_
  refine GL.k rfl hK2 (fun _ _ h => h) ?_
  refine G.seqK fun K7 hK8 => ?_
  refine G.seqK fun K9 hK10 => ?_
  refine G.region ?_
  refine GL.run (j := 3) 3 [0, 2, 11] [(0, .slice A 25 c), (2, pt p3 0), (11, .bool true)] (by kernel_rfl) rfl ?_
  refine GL.k rfl hK10 (fun _ _ h => h) ?_
  refine G.yes rfl ?_
  refine G.seqK fun K11 hK12 => ?_
  refine G.region ?_
  refine GL.run (j := 1) 1 [0, 2, 12] [(0, .slice A 25 c), (2, pt p3 0), (12, .slice A 25 c)] (by kernel_rfl) rfl ?_
  refine GL.sem (j := 2) (run_sliceSl (P := Try.prog) (lo := some (.int .i64 3)) (hi := some (.int .i64 23)) (t := 38) (len := 25) (cap := c) (A := A) (l := 3) (h := 23) (by kernel_rfl) (Or.inr ⟨_, _, rfl, rfl⟩) (Or.inr ⟨_, _, rfl, rfl⟩) (by omega) (by omega)) [0, 2, 13] [(0, .slice A 25 c), (2, pt p3 0), (13, .slice (if c = 3 then A else Option.map (fun x => Addr.add x 3) A) 20 (c - 3))] (by kernel_rfl) (by kernel_rfl) rfl ?_
  refine GL.sem (j := 3) (run_s2a (P := Try.prog) (t := 28) (len := 20) (cap := (c - 3)) (n := 20) (A := (if c = 3 then A else Option.map (fun x => Addr.add x 3) A)) (by kernel_rfl) (by omega)) [0, 2, 14] [(0, .slice A 25 c), (2, pt p3 0), (14, .pointer (if c = 3 then A else Option.map (fun x => Addr.add x 3) A))] (by kernel_rfl) (by kernel_rfl) rfl ?_
  refine GL.sem (j := 4) (run_ldArr (P := Try.prog) (ty := 28) (m := 20) (A := (if c = 3 then A else Option.map (fun x => Addr.add x 3) A)) (xs := by8 ([x1, x2, x3, x4, x5, x6, x7, x8, x9, x10, x11, x12, x13, x14, x15, x16, x17, x18, x19, x20] : List UInt8)) (by kernel_rfl) (RdS.cut8 (cap := c) (hr.hp H6) 3 23 (cs := ([x1, x2, x3, x4, x5, x6, x7, x8, x9, x10, x11, x12, x13, x14, x15, x16, x17, x18, x19, x20] : List UInt8)) (by first | rfl | omega | (simp only [List.length_cons, List.length_nil, List.length_drop, List.length_take, List.length_append] <;> omega)) rfl) rfl (by decide)) [0, 2, 15] [(0, .slice A 25 c), (2, pt p3 0), (15, .agg #[.int .u8 (x1.toNat : Int), .int .u8 (x2.toNat : Int), .int .u8 (x3.toNat : Int), .int .u8 (x4.toNat : Int), .int .u8 (x5.toNat : Int), .int .u8 (x6.toNat : Int), .int .u8 (x7.toNat : Int), .int .u8 (x8.toNat : Int), .int .u8 (x9.toNat : Int), .int .u8 (x10.toNat : Int), .int .u8 (x11.toNat : Int), .int .u8 (x12.toNat : Int), .int .u8 (x13.toNat : Int), .int .u8 (x14.toNat : Int), .int .u8 (x15.toNat : Int), .int .u8 (x16.toNat : Int), .int .u8 (x17.toNat : Int), .int .u8 (x18.toNat : Int), .int .u8 (x19.toNat : Int), .int .u8 (x20.toNat : Int)])] (by kernel_rfl) (by kernel_rfl) rfl ?_
  refine GL.run (j := 5) 1 [0, 2, 16] [(0, .slice A 25 c), (2, pt p3 0), (16, .agg #[.int .i64 1, .int .u8 (x1.toNat : Int), .int .u8 (x2.toNat : Int), .int .u8 (x3.toNat : Int), .int .u8 (x4.toNat : Int), .int .u8 (x5.toNat : Int), .int .u8 (x6.toNat : Int), .int .u8 (x7.toNat : Int), .int .u8 (x8.toNat : Int), .int .u8 (x9.toNat : Int), .int .u8 (x10.toNat : Int), .int .u8 (x11.toNat : Int), .int .u8 (x12.toNat : Int), .int .u8 (x13.toNat : Int), .int .u8 (x14.toNat : Int), .int .u8 (x15.toNat : Int), .int .u8 (x16.toNat : Int), .int .u8 (x17.toNat : Int), .int .u8 (x18.toNat : Int), .int .u8 (x19.toNat : Int), .int .u8 (x20.toNat : Int), .slice none 0 0])] (by kernel_rfl) rfl ?_
  obtain ⟨p13, w14, r15, H16⟩ := H6.alloc (P := Try.prog) 43 [.int .i64 0, .int .u8 0, .int .u8 0, .int .u8 0, .int .u8 0, .int .u8 0, .int .u8 0, .int .u8 0, .int .u8 0, .int .u8 0, .int .u8 0, .int .u8 0, .int .u8 0, .int .u8 0, .int .u8 0, .int .u8 0, .int .u8 0, .int .u8 0, .int .u8 0, .int .u8 0, .int .u8 0, .slice none 0 0] (by kernel_rfl)
  have H16 : Hp w [] [.blk p3 [.int .i64 0, .int .u8 0, .int .u8 0, .int .u8 0, .int .u8 0, .int .u8 0, .int .u8 0, .int .u8 0, .int .u8 0, .int .u8 0, .int .u8 0, .int .u8 0, .int .u8 0, .int .u8 0, .int .u8 0, .int .u8 0, .int .u8 0, .int .u8 0, .int .u8 0, .int .u8 0, .int .u8 0, .slice none 0 0] 43, .blk p13 [.int .i64 0, .int .u8 0, .int .u8 0, .int .u8 0, .int .u8 0, .int .u8 0, .int .u8 0, .int .u8 0, .int .u8 0, .int .u8 0, .int .u8 0, .int .u8 0, .int .u8 0, .int .u8 0, .int .u8 0, .int .u8 0, .int .u8 0, .int .u8 0, .int .u8 0, .int .u8 0, .int .u8 0, .slice none 0 0] 43] w14 := H16
  refine GL.sem (j := 6) (r15) [0, 2, 3, 16] [(0, .slice A 25 c), (2, pt p3 0), (3, pt p13 0), (16, .agg #[.int .i64 1, .int .u8 (x1.toNat : Int), .int .u8 (x2.toNat : Int), .int .u8 (x3.toNat : Int), .int .u8 (x4.toNat : Int), .int .u8 (x5.toNat : Int), .int .u8 (x6.toNat : Int), .int .u8 (x7.toNat : Int), .int .u8 (x8.toNat : Int), .int .u8 (x9.toNat : Int), .int .u8 (x10.toNat : Int), .int .u8 (x11.toNat : Int), .int .u8 (x12.toNat : Int), .int .u8 (x13.toNat : Int), .int .u8 (x14.toNat : Int), .int .u8 (x15.toNat : Int), .int .u8 (x16.toNat : Int), .int .u8 (x17.toNat : Int), .int .u8 (x18.toNat : Int), .int .u8 (x19.toNat : Int), .int .u8 (x20.toNat : Int), .slice none 0 0])] (by kernel_rfl) (by kernel_rfl) rfl ?_
  obtain ⟨w17, r18, H19⟩ := H16.stA (P := Try.prog) (o := 0) (vs := [.int .i64 1, .int .u8 (x1.toNat : Int), .int .u8 (x2.toNat : Int), .int .u8 (x3.toNat : Int), .int .u8 (x4.toNat : Int), .int .u8 (x5.toNat : Int), .int .u8 (x6.toNat : Int), .int .u8 (x7.toNat : Int), .int .u8 (x8.toNat : Int), .int .u8 (x9.toNat : Int), .int .u8 (x10.toNat : Int), .int .u8 (x11.toNat : Int), .int .u8 (x12.toNat : Int), .int .u8 (x13.toNat : Int), .int .u8 (x14.toNat : Int), .int .u8 (x15.toNat : Int), .int .u8 (x16.toNat : Int), .int .u8 (x17.toNat : Int), .int .u8 (x18.toNat : Int), .int .u8 (x19.toNat : Int), .int .u8 (x20.toNat : Int), .slice none 0 0]) (ty := 43) (m := 22) 1 rfl (by kernel_rfl) rfl (by simp) (by simp [Value.oneCell'])
  have H19 : Hp w [] [.blk p3 [.int .i64 0, .int .u8 0, .int .u8 0, .int .u8 0, .int .u8 0, .int .u8 0, .int .u8 0, .int .u8 0, .int .u8 0, .int .u8 0, .int .u8 0, .int .u8 0, .int .u8 0, .int .u8 0, .int .u8 0, .int .u8 0, .int .u8 0, .int .u8 0, .int .u8 0, .int .u8 0, .int .u8 0, .slice none 0 0] 43, .blk p13 [.int .i64 1, .int .u8 (x1.toNat : Int), .int .u8 (x2.toNat : Int), .int .u8 (x3.toNat : Int), .int .u8 (x4.toNat : Int), .int .u8 (x5.toNat : Int), .int .u8 (x6.toNat : Int), .int .u8 (x7.toNat : Int), .int .u8 (x8.toNat : Int), .int .u8 (x9.toNat : Int), .int .u8 (x10.toNat : Int), .int .u8 (x11.toNat : Int), .int .u8 (x12.toNat : Int), .int .u8 (x13.toNat : Int), .int .u8 (x14.toNat : Int), .int .u8 (x15.toNat : Int), .int .u8 (x16.toNat : Int), .int .u8 (x17.toNat : Int), .int .u8 (x18.toNat : Int), .int .u8 (x19.toNat : Int), .int .u8 (x20.toNat : Int), .slice none 0 0] 43] w17 := H19
  refine GL.semU (j := 7) r18 [0, 2, 3] [(0, .slice A 25 c), (2, pt p3 0), (3, pt p13 0)] (by kernel_rfl) rfl rfl rfl ?_
  refine GL.k rfl hK12 (fun _ _ h => h) ?_
  refine G.seqK fun K20 hK21 => ?_
  refine G.region ?_
  refine GL.sem (j := 1) (H19.ldA (o := 0) (ty := 43) (m := 22) (sub := [.int .i64 1, .int .u8 (x1.toNat : Int), .int .u8 (x2.toNat : Int), .int .u8 (x3.toNat : Int), .int .u8 (x4.toNat : Int), .int .u8 (x5.toNat : Int), .int .u8 (x6.toNat : Int), .int .u8 (x7.toNat : Int), .int .u8 (x8.toNat : Int), .int .u8 (x9.toNat : Int), .int .u8 (x10.toNat : Int), .int .u8 (x11.toNat : Int), .int .u8 (x12.toNat : Int), .int .u8 (x13.toNat : Int), .int .u8 (x14.toNat : Int), .int .u8 (x15.toNat : Int), .int .u8 (x16.toNat : Int), .int .u8 (x17.toNat : Int), .int .u8 (x18.toNat : Int), .int .u8 (x19.toNat : Int), .int .u8 (x20.toNat : Int), .slice none 0 0]) 1 rfl (by kernel_rfl) rfl rfl) [0, 2, 3, 18] [(0, .slice A 25 c), (2, pt p3 0), (3, pt p13 0), (18, .agg #[.int .i64 1, .int .u8 (x1.toNat : Int), .int .u8 (x2.toNat : Int), .int .u8 (x3.toNat : Int), .int .u8 (x4.toNat : Int), .int .u8 (x5.toNat : Int), .int .u8 (x6.toNat : Int), .int .u8 (x7.toNat : Int), .int .u8 (x8.toNat : Int), .int .u8 (x9.toNat : Int), .int .u8 (x10.toNat : Int), .int .u8 (x11.toNat : Int), .int .u8 (x12.toNat : Int), .int .u8 (x13.toNat : Int), .int .u8 (x14.toNat : Int), .int .u8 (x15.toNat : Int), .int .u8 (x16.toNat : Int), .int .u8 (x17.toNat : Int), .int .u8 (x18.toNat : Int), .int .u8 (x19.toNat : Int), .int .u8 (x20.toNat : Int), .slice none 0 0])] (by kernel_rfl) (by kernel_rfl) rfl ?_
  refine GL.call (j := 2) (Bytes_addr x1 x2 x3 x4 x5 x6 x7 x8 x9 x10 x11 x12 x13 x14 x15 x16 x17 x18 x19 x20 none 0 0 w17) (by kernel_rfl) rfl (fun e_ w26 hR => ?_)
  obtain ⟨A22, c23, rfl, H25⟩ := hR
  have H24 : Hp w [] [.blk p3 [.int .i64 0, .int .u8 0, .int .u8 0, .int .u8 0, .int .u8 0, .int .u8 0, .int .u8 0, .int .u8 0, .int .u8 0, .int .u8 0, .int .u8 0, .int .u8 0, .int .u8 0, .int .u8 0, .int .u8 0, .int .u8 0, .int .u8 0, .int .u8 0, .int .u8 0, .int .u8 0, .int .u8 0, .slice none 0 0] 43, .blk p13 [.int .i64 1, .int .u8 (x1.toNat : Int), .int .u8 (x2.toNat : Int), .int .u8 (x3.toNat : Int), .int .u8 (x4.toNat : Int), .int .u8 (x5.toNat : Int), .int .u8 (x6.toNat : Int), .int .u8 (x7.toNat : Int), .int .u8 (x8.toNat : Int), .int .u8 (x9.toNat : Int), .int .u8 (x10.toNat : Int), .int .u8 (x11.toNat : Int), .int .u8 (x12.toNat : Int), .int .u8 (x13.toNat : Int), .int .u8 (x14.toNat : Int), .int .u8 (x15.toNat : Int), .int .u8 (x16.toNat : Int), .int .u8 (x17.toNat : Int), .int .u8 (x18.toNat : Int), .int .u8 (x19.toNat : Int), .int .u8 (x20.toNat : Int), .slice none 0 0] 43, .row A22 (([118, 169, 20, x1, x2, x3, x4, x5, x6, x7, x8, x9, x10, x11, x12, x13, x14, x15, x16, x17, x18, x19, x20, 136, 172] : List UInt8).length) c23 5 1 (by8 ([118, 169, 20, x1, x2, x3, x4, x5, x6, x7, x8, x9, x10, x11, x12, x13, x14, x15, x16, x17, x18, x19, x20, 136, 172] : List UInt8))] w26 := H19.callNew H25
  refine ⟨_, rfl, [0, 2, 3, 19], [(0, .slice A 25 c), (2, pt p3 0), (3, pt p13 0), (19, .tuple #[.slice A22 (([118, 169, 20, x1, x2, x3, x4, x5, x6, x7, x8, x9, x10, x11, x12, x13, x14, x15, x16, x17, x18, x19, x20, 136, 172] : List UInt8).length) c23, .int .i64 0])], by kernel_rfl, ?_⟩
  refine GL.run (j := 7) 5 [0, 2, 3, 4, 5] [(0, .slice A 25 c), (2, pt p3 0), (3, pt p13 0), (4, .slice A22 (([118, 169, 20, x1, x2, x3, x4, x5, x6, x7, x8, x9, x10, x11, x12, x13, x14, x15, x16, x17, x18, x19, x20, 136, 172] : List UInt8).length) c23), (5, .int .i64 0)] (by kernel_rfl) rfl ?_
  refine GL.k rfl hK21 (fun _ _ h => h) ?_
  refine G.seqK fun K27 hK28 => ?_
  refine G.region ?_
  refine GL.run (j := 5) 5 [0, 2, 3, 24, 25, 26] [(0, .slice A 25 c), (2, pt p3 0), (3, pt p13 0), (24, .bool true), (25, .slice A22 (([118, 169, 20, x1, x2, x3, x4, x5, x6, x7, x8, x9, x10, x11, x12, x13, x14, x15, x16, x17, x18, x19, x20, 136, 172] : List UInt8).length) c23), (26, .slice A 25 c)] (by kernel_rfl) rfl ?_
  refine GL.call (j := 6) (Equal_calls ([118, 169, 20, x1, x2, x3, x4, x5, x6, x7, x8, x9, x10, x11, x12, x13, x14, x15, x16, x17, x18, x19, x20, 136, 172] : List UInt8) ([106, 23, x0, x1, x2, x3, x4, x5, x6, x7, x8, x9, x10, x11, x12, x13, x14, x15, x16, x17, x18, x19, x20, x21, x22] : List UInt8) A22 A c23 c w26 (H24.rdRow 2 rfl) (hr.hp H24)) (by kernel_rfl) rfl (fun e_ w29 hR => ?_)
  obtain ⟨rfl, H31⟩ := hR
  have H30 : Hp w [] [.blk p3 [.int .i64 0, .int .u8 0, .int .u8 0, .int .u8 0, .int .u8 0, .int .u8 0, .int .u8 0, .int .u8 0, .int .u8 0, .int .u8 0, .int .u8 0, .int .u8 0, .int .u8 0, .int .u8 0, .int .u8 0, .int .u8 0, .int .u8 0, .int .u8 0, .int .u8 0, .int .u8 0, .int .u8 0, .slice none 0 0] 43, .blk p13 [.int .i64 1, .int .u8 (x1.toNat : Int), .int .u8 (x2.toNat : Int), .int .u8 (x3.toNat : Int), .int .u8 (x4.toNat : Int), .int .u8 (x5.toNat : Int), .int .u8 (x6.toNat : Int), .int .u8 (x7.toNat : Int), .int .u8 (x8.toNat : Int), .int .u8 (x9.toNat : Int), .int .u8 (x10.toNat : Int), .int .u8 (x11.toNat : Int), .int .u8 (x12.toNat : Int), .int .u8 (x13.toNat : Int), .int .u8 (x14.toNat : Int), .int .u8 (x15.toNat : Int), .int .u8 (x16.toNat : Int), .int .u8 (x17.toNat : Int), .int .u8 (x18.toNat : Int), .int .u8 (x19.toNat : Int), .int .u8 (x20.toNat : Int), .slice none 0 0] 43, .row A22 (([118, 169, 20, x1, x2, x3, x4, x5, x6, x7, x8, x9, x10, x11, x12, x13, x14, x15, x16, x17, x18, x19, x20, 136, 172] : List UInt8).length) c23 5 1 (by8 ([118, 169, 20, x1, x2, x3, x4, x5, x6, x7, x8, x9, x10, x11, x12, x13, x14, x15, x16, x17, x18, x19, x20, 136, 172] : List UInt8))] w29 := H24.callNil H31
  refine ⟨_, rfl, [0, 2, 3, 24, 27], [(0, .slice A 25 c), (2, pt p3 0), (3, pt p13 0), (24, .bool true), (27, .bool (([118, 169, 20, x1, x2, x3, x4, x5, x6, x7, x8, x9, x10, x11, x12, x13, x14, x15, x16, x17, x18, x19, x20, 136, 172] : List UInt8) == ([106, 23, x0, x1, x2, x3, x4, x5, x6, x7, x8, x9, x10, x11, x12, x13, x14, x15, x16, x17, x18, x19, x20, x21, x22] : List UInt8)))], by kernel_rfl, ?_⟩
  refine GL.run (j := 7) 1 [0, 2, 3, 28] [(0, .slice A 25 c), (2, pt p3 0), (3, pt p13 0), (28, .bool (([118, 169, 20, x1, x2, x3, x4, x5, x6, x7, x8, x9, x10, x11, x12, x13, x14, x15, x16, x17, x18, x19, x20, 136, 172] : List UInt8) == ([106, 23, x0, x1, x2, x3, x4, x5, x6, x7, x8, x9, x10, x11, x12, x13, x14, x15, x16, x17, x18, x19, x20, x21, x22] : List UInt8)))] (by kernel_rfl) rfl ?_
  refine GL.k rfl hK28 (fun _ _ h => h) ?_
  have hb32 : (([118, 169, 20, x1, x2, x3, x4, x5, x6, x7, x8, x9, x10, x11, x12, x13, x14, x15, x16, x17, x18, x19, x20, 136, 172] : List UInt8) == ([106, 23, x0, x1, x2, x3, x4, x5, x6, x7, x8, x9, x10, x11, x12, x13, x14, x15, x16, x17, x18, x19, x20, x21, x22] : List UInt8)) = false := by simp
  rw [hb32]
  refine G.no rfl ?_
  refine G.skipK hK8 (fun _ _ h => h) ?_
  refine G.seqK fun K33 hK34 => ?_
  refine G.seqK fun K35 hK36 => ?_
  refine G.region ?_
  refine GL.run (j := 3) 3 [0, 2, 32] [(0, .slice A 25 c), (2, pt p3 0), (32, .bool true)] (by kernel_rfl) rfl ?_
  refine GL.k rfl hK36 (fun _ _ h => h) ?_
  refine G.yes rfl ?_
  refine G.seqK fun K37 hK38 => ?_
  refine G.region ?_
  refine GL.run (j := 1) 1 [0, 2, 33] [(0, .slice A 25 c), (2, pt p3 0), (33, .slice A 25 c)] (by kernel_rfl) rfl ?_
  refine GL.sem (j := 2) (run_sliceSl (P := Try.prog) (lo := some (.int .i64 2)) (hi := none) (t := 38) (len := 25) (cap := c) (A := A) (l := 2) (h := 25) (by kernel_rfl) (Or.inr ⟨_, _, rfl, rfl⟩) (Or.inl ⟨rfl, rfl⟩) (by omega) (by omega)) [0, 2, 34] [(0, .slice A 25 c), (2, pt p3 0), (34, .slice (if c = 2 then A else Option.map (fun x => Addr.add x 2) A) 23 (c - 2))] (by kernel_rfl) (by kernel_rfl) rfl ?_
  refine GL.call (j := 3) (SClone_calls ([x0, x1, x2, x3, x4, x5, x6, x7, x8, x9, x10, x11, x12, x13, x14, x15, x16, x17, x18, x19, x20, x21, x22] : List UInt8) (if c = 2 then A else Option.map (fun x => Addr.add x 2) A) (c - 2) w29 (RdS.drop8 (cap := c) (hr.hp H30) 2 (cs := ([x0, x1, x2, x3, x4, x5, x6, x7, x8, x9, x10, x11, x12, x13, x14, x15, x16, x17, x18, x19, x20, x21, x22] : List UInt8)) (by first | rfl | omega | (simp only [List.length_cons, List.length_nil, List.length_drop, List.length_take, List.length_append] <;> omega)) rfl) (isNone_drop hr (by first | rfl | omega | (simp only [List.length_cons, List.length_nil, List.length_drop, List.length_take, List.length_append] <;> omega)) (by first | rfl | omega | (simp only [List.length_cons, List.length_nil, List.length_drop, List.length_take, List.length_append] <;> omega))) (by first | rfl | omega | (simp only [List.length_cons, List.length_nil, List.length_drop, List.length_take, List.length_append] <;> omega))) (by kernel_rfl) rfl (fun e_ w43 hR => ?_)
  obtain ⟨A39, c40, rfl, H42⟩ := hR
  have H41 : Hp w [] [.blk p3 [.int .i64 0, .int .u8 0, .int .u8 0, .int .u8 0, .int .u8 0, .int .u8 0, .int .u8 0, .int .u8 0, .int .u8 0, .int .u8 0, .int .u8 0, .int .u8 0, .int .u8 0, .int .u8 0, .int .u8 0, .int .u8 0, .int .u8 0, .int .u8 0, .int .u8 0, .int .u8 0, .int .u8 0, .slice none 0 0] 43, .blk p13 [.int .i64 1, .int .u8 (x1.toNat : Int), .int .u8 (x2.toNat : Int), .int .u8 (x3.toNat : Int), .int .u8 (x4.toNat : Int), .int .u8 (x5.toNat : Int), .int .u8 (x6.toNat : Int), .int .u8 (x7.toNat : Int), .int .u8 (x8.toNat : Int), .int .u8 (x9.toNat : Int), .int .u8 (x10.toNat : Int), .int .u8 (x11.toNat : Int), .int .u8 (x12.toNat : Int), .int .u8 (x13.toNat : Int), .int .u8 (x14.toNat : Int), .int .u8 (x15.toNat : Int), .int .u8 (x16.toNat : Int), .int .u8 (x17.toNat : Int), .int .u8 (x18.toNat : Int), .int .u8 (x19.toNat : Int), .int .u8 (x20.toNat : Int), .slice none 0 0] 43, .row A22 (([118, 169, 20, x1, x2, x3, x4, x5, x6, x7, x8, x9, x10, x11, x12, x13, x14, x15, x16, x17, x18, x19, x20, 136, 172] : List UInt8).length) c23 5 1 (by8 ([118, 169, 20, x1, x2, x3, x4, x5, x6, x7, x8, x9, x10, x11, x12, x13, x14, x15, x16, x17, x18, x19, x20, 136, 172] : List UInt8)), .row A39 23 c40 5 1 (by8 ([x0, x1, x2, x3, x4, x5, x6, x7, x8, x9, x10, x11, x12, x13, x14, x15, x16, x17, x18, x19, x20, x21, x22] : List UInt8))] w43 := H30.callNew H42
  refine ⟨_, rfl, [0, 2, 35], [(0, .slice A 25 c), (2, pt p3 0), (35, .slice A39 23 c40)], by kernel_rfl, ?_⟩
  refine GL.run (j := 4) 1 [0, 2, 36] [(0, .slice A 25 c), (2, pt p3 0), (36, .agg #[.int .i64 2, .int .u8 0, .int .u8 0, .int .u8 0, .int .u8 0, .int .u8 0, .int .u8 0, .int .u8 0, .int .u8 0, .int .u8 0, .int .u8 0, .int .u8 0, .int .u8 0, .int .u8 0, .int .u8 0, .int .u8 0, .int .u8 0, .int .u8 0, .int .u8 0, .int .u8 0, .int .u8 0, .slice A39 23 c40])] (by kernel_rfl) rfl ?_
  obtain ⟨p44, w45, r46, H47⟩ := H41.alloc (P := Try.prog) 43 [.int .i64 0, .int .u8 0, .int .u8 0, .int .u8 0, .int .u8 0, .int .u8 0, .int .u8 0, .int .u8 0, .int .u8 0, .int .u8 0, .int .u8 0, .int .u8 0, .int .u8 0, .int .u8 0, .int .u8 0, .int .u8 0, .int .u8 0, .int .u8 0, .int .u8 0, .int .u8 0, .int .u8 0, .slice none 0 0] (by kernel_rfl)
  have H47 : Hp w [] [.blk p3 [.int .i64 0, .int .u8 0, .int .u8 0, .int .u8 0, .int .u8 0, .int .u8 0, .int .u8 0, .int .u8 0, .int .u8 0, .int .u8 0, .int .u8 0, .int .u8 0, .int .u8 0, .int .u8 0, .int .u8 0, .int .u8 0, .int .u8 0, .int .u8 0, .int .u8 0, .int .u8 0, .int .u8 0, .slice none 0 0] 43, .blk p13 [.int .i64 1, .int .u8 (x1.toNat : Int), .int .u8 (x2.toNat : Int), .int .u8 (x3.toNat : Int), .int .u8 (x4.toNat : Int), .int .u8 (x5.toNat : Int), .int .u8 (x6.toNat : Int), .int .u8 (x7.toNat : Int), .int .u8 (x8.toNat : Int), .int .u8 (x9.toNat : Int), .int .u8 (x10.toNat : Int), .int .u8 (x11.toNat : Int), .int .u8 (x12.toNat : Int), .int .u8 (x13.toNat : Int), .int .u8 (x14.toNat : Int), .int .u8 (x15.toNat : Int), .int .u8 (x16.toNat : Int), .int .u8 (x17.toNat : Int), .int .u8 (x18.toNat : Int), .int .u8 (x19.toNat : Int), .int .u8 (x20.toNat : Int), .slice none 0 0] 43, .row A22 (([118, 169, 20, x1, x2, x3, x4, x5, x6, x7, x8, x9, x10, x11, x12, x13, x14, x15, x16, x17, x18, x19, x20, 136, 172] : List UInt8).length) c23 5 1 (by8 ([118, 169, 20, x1, x2, x3, x4, x5, x6, x7, x8, x9, x10, x11, x12, x13, x14, x15, x16, x17, x18, x19, x20, 136, 172] : List UInt8)), .row A39 23 c40 5 1 (by8 ([x0, x1, x2, x3, x4, x5, x6, x7, x8, x9, x10, x11, x12, x13, x14, x15, x16, x17, x18, x19, x20, x21, x22] : List UInt8)), .blk p44 [.int .i64 0, .int .u8 0, .int .u8 0, .int .u8 0, .int .u8 0, .int .u8 0, .int .u8 0, .int .u8 0, .int .u8 0, .int .u8 0, .int .u8 0, .int .u8 0, .int .u8 0, .int .u8 0, .int .u8 0, .int .u8 0, .int .u8 0, .int .u8 0, .int .u8 0, .int .u8 0, .int .u8 0, .slice none 0 0] 43] w45 := H47
  refine GL.sem (j := 5) (r46) [0, 2, 6, 36] [(0, .slice A 25 c), (2, pt p3 0), (6, pt p44 0), (36, .agg #[.int .i64 2, .int .u8 0, .int .u8 0, .int .u8 0, .int .u8 0, .int .u8 0, .int .u8 0, .int .u8 0, .int .u8 0, .int .u8 0, .int .u8 0, .int .u8 0, .int .u8 0, .int .u8 0, .int .u8 0, .int .u8 0, .int .u8 0, .int .u8 0, .int .u8 0, .int .u8 0, .int .u8 0, .slice A39 23 c40])] (by kernel_rfl) (by kernel_rfl) rfl ?_
  obtain ⟨w48, r49, H50⟩ := H47.stA (P := Try.prog) (o := 0) (vs := [.int .i64 2, .int .u8 0, .int .u8 0, .int .u8 0, .int .u8 0, .int .u8 0, .int .u8 0, .int .u8 0, .int .u8 0, .int .u8 0, .int .u8 0, .int .u8 0, .int .u8 0, .int .u8 0, .int .u8 0, .int .u8 0, .int .u8 0, .int .u8 0, .int .u8 0, .int .u8 0, .int .u8 0, .slice A39 23 c40]) (ty := 43) (m := 22) 4 rfl (by kernel_rfl) rfl (by simp) (by simp [Value.oneCell'])
  have H50 : Hp w [] [.blk p3 [.int .i64 0, .int .u8 0, .int .u8 0, .int .u8 0, .int .u8 0, .int .u8 0, .int .u8 0, .int .u8 0, .int .u8 0, .int .u8 0, .int .u8 0, .int .u8 0, .int .u8 0, .int .u8 0, .int .u8 0, .int .u8 0, .int .u8 0, .int .u8 0, .int .u8 0, .int .u8 0, .int .u8 0, .slice none 0 0] 43, .blk p13 [.int .i64 1, .int .u8 (x1.toNat : Int), .int .u8 (x2.toNat : Int), .int .u8 (x3.toNat : Int), .int .u8 (x4.toNat : Int), .int .u8 (x5.toNat : Int), .int .u8 (x6.toNat : Int), .int .u8 (x7.toNat : Int), .int .u8 (x8.toNat : Int), .int .u8 (x9.toNat : Int), .int .u8 (x10.toNat : Int), .int .u8 (x11.toNat : Int), .int .u8 (x12.toNat : Int), .int .u8 (x13.toNat : Int), .int .u8 (x14.toNat : Int), .int .u8 (x15.toNat : Int), .int .u8 (x16.toNat : Int), .int .u8 (x17.toNat : Int), .int .u8 (x18.toNat : Int), .int .u8 (x19.toNat : Int), .int .u8 (x20.toNat : Int), .slice none 0 0] 43, .row A22 (([118, 169, 20, x1, x2, x3, x4, x5, x6, x7, x8, x9, x10, x11, x12, x13, x14, x15, x16, x17, x18, x19, x20, 136, 172] : List UInt8).length) c23 5 1 (by8 ([118, 169, 20, x1, x2, x3, x4, x5, x6, x7, x8, x9, x10, x11, x12, x13, x14, x15, x16, x17, x18, x19, x20, 136, 172] : List UInt8)), .row A39 23 c40 5 1 (by8 ([x0, x1, x2, x3, x4, x5, x6, x7, x8, x9, x10, x11, x12, x13, x14, x15, x16, x17, x18, x19, x20, x21, x22] : List UInt8)), .blk p44 [.int .i64 2, .int .u8 0, .int .u8 0, .int .u8 0, .int .u8 0, .int .u8 0, .int .u8 0, .int .u8 0, .int .u8 0, .int .u8 0, .int .u8 0, .int .u8 0, .int .u8 0, .int .u8 0, .int .u8 0, .int .u8 0, .int .u8 0, .int .u8 0, .int .u8 0, .int .u8 0, .int .u8 0, .slice A39 23 c40] 43] w48 := H50
  refine GL.semU (j := 6) r49 [0, 2, 6] [(0, .slice A 25 c), (2, pt p3 0), (6, pt p44 0)] (by kernel_rfl) rfl rfl rfl ?_
  refine GL.k rfl hK38 (fun _ _ h => h) ?_
  refine G.seqK fun K51 hK52 => ?_
  refine G.region ?_
  refine GL.sem (j := 1) (H50.ldA (o := 0) (ty := 43) (m := 22) (sub := [.int .i64 2, .int .u8 0, .int .u8 0, .int .u8 0, .int .u8 0, .int .u8 0, .int .u8 0, .int .u8 0, .int .u8 0, .int .u8 0, .int .u8 0, .int .u8 0, .int .u8 0, .int .u8 0, .int .u8 0, .int .u8 0, .int .u8 0, .int .u8 0, .int .u8 0, .int .u8 0, .int .u8 0, .slice A39 23 c40]) 4 rfl (by kernel_rfl) rfl rfl) [0, 2, 6, 38] [(0, .slice A 25 c), (2, pt p3 0), (6, pt p44 0), (38, .agg #[.int .i64 2, .int .u8 0, .int .u8 0, .int .u8 0, .int .u8 0, .int .u8 0, .int .u8 0, .int .u8 0, .int .u8 0, .int .u8 0, .int .u8 0, .int .u8 0, .int .u8 0, .int .u8 0, .int .u8 0, .int .u8 0, .int .u8 0, .int .u8 0, .int .u8 0, .int .u8 0, .int .u8 0, .slice A39 23 c40])] (by kernel_rfl) (by kernel_rfl) rfl ?_
  refine GL.call (j := 2) (Bytes_tag (0 : UInt8) (0 : UInt8) (0 : UInt8) (0 : UInt8) (0 : UInt8) (0 : UInt8) (0 : UInt8) (0 : UInt8) (0 : UInt8) (0 : UInt8) (0 : UInt8) (0 : UInt8) (0 : UInt8) (0 : UInt8) (0 : UInt8) (0 : UInt8) (0 : UInt8) (0 : UInt8) (0 : UInt8) (0 : UInt8) ([x0, x1, x2, x3, x4, x5, x6, x7, x8, x9, x10, x11, x12, x13, x14, x15, x16, x17, x18, x19, x20, x21, x22] : List UInt8) A39 c40 w48 (H50.rdRow 3 rfl) (by simp) (by simp)) (by kernel_rfl) rfl (fun e_ w57 hR => ?_)
  obtain ⟨A53, c54, rfl, H56⟩ := hR
  have H55 : Hp w [] [.blk p3 [.int .i64 0, .int .u8 0, .int .u8 0, .int .u8 0, .int .u8 0, .int .u8 0, .int .u8 0, .int .u8 0, .int .u8 0, .int .u8 0, .int .u8 0, .int .u8 0, .int .u8 0, .int .u8 0, .int .u8 0, .int .u8 0, .int .u8 0, .int .u8 0, .int .u8 0, .int .u8 0, .int .u8 0, .slice none 0 0] 43, .blk p13 [.int .i64 1, .int .u8 (x1.toNat : Int), .int .u8 (x2.toNat : Int), .int .u8 (x3.toNat : Int), .int .u8 (x4.toNat : Int), .int .u8 (x5.toNat : Int), .int .u8 (x6.toNat : Int), .int .u8 (x7.toNat : Int), .int .u8 (x8.toNat : Int), .int .u8 (x9.toNat : Int), .int .u8 (x10.toNat : Int), .int .u8 (x11.toNat : Int), .int .u8 (x12.toNat : Int), .int .u8 (x13.toNat : Int), .int .u8 (x14.toNat : Int), .int .u8 (x15.toNat : Int), .int .u8 (x16.toNat : Int), .int .u8 (x17.toNat : Int), .int .u8 (x18.toNat : Int), .int .u8 (x19.toNat : Int), .int .u8 (x20.toNat : Int), .slice none 0 0] 43, .row A22 (([118, 169, 20, x1, x2, x3, x4, x5, x6, x7, x8, x9, x10, x11, x12, x13, x14, x15, x16, x17, x18, x19, x20, 136, 172] : List UInt8).length) c23 5 1 (by8 ([118, 169, 20, x1, x2, x3, x4, x5, x6, x7, x8, x9, x10, x11, x12, x13, x14, x15, x16, x17, x18, x19, x20, 136, 172] : List UInt8)), .row A39 23 c40 5 1 (by8 ([x0, x1, x2, x3, x4, x5, x6, x7, x8, x9, x10, x11, x12, x13, x14, x15, x16, x17, x18, x19, x20, x21, x22] : List UInt8)), .blk p44 [.int .i64 2, .int .u8 0, .int .u8 0, .int .u8 0, .int .u8 0, .int .u8 0, .int .u8 0, .int .u8 0, .int .u8 0, .int .u8 0, .int .u8 0, .int .u8 0, .int .u8 0, .int .u8 0, .int .u8 0, .int .u8 0, .int .u8 0, .int .u8 0, .int .u8 0, .int .u8 0, .int .u8 0, .slice A39 23 c40] 43, .row A53 ((106 :: UInt8.ofNat ([x0, x1, x2, x3, x4, x5, x6, x7, x8, x9, x10, x11, x12, x13, x14, x15, x16, x17, x18, x19, x20, x21, x22] : List UInt8).length :: ([x0, x1, x2, x3, x4, x5, x6, x7, x8, x9, x10, x11, x12, x13, x14, x15, x16, x17, x18, x19, x20, x21, x22] : List UInt8)).length) c54 5 1 (by8 (106 :: UInt8.ofNat ([x0, x1, x2, x3, x4, x5, x6, x7, x8, x9, x10, x11, x12, x13, x14, x15, x16, x17, x18, x19, x20, x21, x22] : List UInt8).length :: ([x0, x1, x2, x3, x4, x5, x6, x7, x8, x9, x10, x11, x12, x13, x14, x15, x16, x17, x18, x19, x20, x21, x22] : List UInt8)))] w57 := H50.callNew H56
  refine ⟨_, rfl, [0, 2, 6, 39], [(0, .slice A 25 c), (2, pt p3 0), (6, pt p44 0), (39, .tuple #[.slice A53 ((106 :: UInt8.ofNat ([x0, x1, x2, x3, x4, x5, x6, x7, x8, x9, x10, x11, x12, x13, x14, x15, x16, x17, x18, x19, x20, x21, x22] : List UInt8).length :: ([x0, x1, x2, x3, x4, x5, x6, x7, x8, x9, x10, x11, x12, x13, x14, x15, x16, x17, x18, x19, x20, x21, x22] : List UInt8)).length) c54, .int .i64 0])], by kernel_rfl, ?_⟩
  refine GL.run (j := 7) 5 [0, 2, 6, 7, 8] [(0, .slice A 25 c), (2, pt p3 0), (6, pt p44 0), (7, .slice A53 ((106 :: UInt8.ofNat ([x0, x1, x2, x3, x4, x5, x6, x7, x8, x9, x10, x11, x12, x13, x14, x15, x16, x17, x18, x19, x20, x21, x22] : List UInt8).length :: ([x0, x1, x2, x3, x4, x5, x6, x7, x8, x9, x10, x11, x12, x13, x14, x15, x16, x17, x18, x19, x20, x21, x22] : List UInt8)).length) c54), (8, .int .i64 0)] (by kernel_rfl) rfl ?_
  refine GL.k rfl hK52 (fun _ _ h => h) ?_
  refine G.seqK fun K58 hK59 => ?_
  refine G.region ?_
  refine GL.run (j := 5) 5 [2, 6, 44, 45, 46] [(2, pt p3 0), (6, pt p44 0), (44, .bool true), (45, .slice A53 ((106 :: UInt8.ofNat ([x0, x1, x2, x3, x4, x5, x6, x7, x8, x9, x10, x11, x12, x13, x14, x15, x16, x17, x18, x19, x20, x21, x22] : List UInt8).length :: ([x0, x1, x2, x3, x4, x5, x6, x7, x8, x9, x10, x11, x12, x13, x14, x15, x16, x17, x18, x19, x20, x21, x22] : List UInt8)).length) c54), (46, .slice A 25 c)] (by kernel_rfl) rfl ?_
  refine GL.call (j := 6) (Equal_calls (106 :: UInt8.ofNat ([x0, x1, x2, x3, x4, x5, x6, x7, x8, x9, x10, x11, x12, x13, x14, x15, x16, x17, x18, x19, x20, x21, x22] : List UInt8).length :: ([x0, x1, x2, x3, x4, x5, x6, x7, x8, x9, x10, x11, x12, x13, x14, x15, x16, x17, x18, x19, x20, x21, x22] : List UInt8)) ([106, 23, x0, x1, x2, x3, x4, x5, x6, x7, x8, x9, x10, x11, x12, x13, x14, x15, x16, x17, x18, x19, x20, x21, x22] : List UInt8) A53 A c54 c w57 (H55.rdRow 5 rfl) (hr.hp H55)) (by kernel_rfl) rfl (fun e_ w60 hR => ?_)
  obtain ⟨rfl, H62⟩ := hR
  have H61 : Hp w [] [.blk p3 [.int .i64 0, .int .u8 0, .int .u8 0, .int .u8 0, .int .u8 0, .int .u8 0, .int .u8 0, .int .u8 0, .int .u8 0, .int .u8 0, .int .u8 0, .int .u8 0, .int .u8 0, .int .u8 0, .int .u8 0, .int .u8 0, .int .u8 0, .int .u8 0, .int .u8 0, .int .u8 0, .int .u8 0, .slice none 0 0] 43, .blk p13 [.int .i64 1, .int .u8 (x1.toNat : Int), .int .u8 (x2.toNat : Int), .int .u8 (x3.toNat : Int), .int .u8 (x4.toNat : Int), .int .u8 (x5.toNat : Int), .int .u8 (x6.toNat : Int), .int .u8 (x7.toNat : Int), .int .u8 (x8.toNat : Int), .int .u8 (x9.toNat : Int), .int .u8 (x10.toNat : Int), .int .u8 (x11.toNat : Int), .int .u8 (x12.toNat : Int), .int .u8 (x13.toNat : Int), .int .u8 (x14.toNat : Int), .int .u8 (x15.toNat : Int), .int .u8 (x16.toNat : Int), .int .u8 (x17.toNat : Int), .int .u8 (x18.toNat : Int), .int .u8 (x19.toNat : Int), .int .u8 (x20.toNat : Int), .slice none 0 0] 43, .row A22 (([118, 169, 20, x1, x2, x3, x4, x5, x6, x7, x8, x9, x10, x11, x12, x13, x14, x15, x16, x17, x18, x19, x20, 136, 172] : List UInt8).length) c23 5 1 (by8 ([118, 169, 20, x1, x2, x3, x4, x5, x6, x7, x8, x9, x10, x11, x12, x13, x14, x15, x16, x17, x18, x19, x20, 136, 172] : List UInt8)), .row A39 23 c40 5 1 (by8 ([x0, x1, x2, x3, x4, x5, x6, x7, x8, x9, x10, x11, x12, x13, x14, x15, x16, x17, x18, x19, x20, x21, x22] : List UInt8)), .blk p44 [.int .i64 2, .int .u8 0, .int .u8 0, .int .u8 0, .int .u8 0, .int .u8 0, .int .u8 0, .int .u8 0, .int .u8 0, .int .u8 0, .int .u8 0, .int .u8 0, .int .u8 0, .int .u8 0, .int .u8 0, .int .u8 0, .int .u8 0, .int .u8 0, .int .u8 0, .int .u8 0, .int .u8 0, .slice A39 23 c40] 43, .row A53 ((106 :: UInt8.ofNat ([x0, x1, x2, x3, x4, x5, x6, x7, x8, x9, x10, x11, x12, x13, x14, x15, x16, x17, x18, x19, x20, x21, x22] : List UInt8).length :: ([x0, x1, x2, x3, x4, x5, x6, x7, x8, x9, x10, x11, x12, x13, x14, x15, x16, x17, x18, x19, x20, x21, x22] : List UInt8)).length) c54 5 1 (by8 (106 :: UInt8.ofNat ([x0, x1, x2, x3, x4, x5, x6, x7, x8, x9, x10, x11, x12, x13, x14, x15, x16, x17, x18, x19, x20, x21, x22] : List UInt8).length :: ([x0, x1, x2, x3, x4, x5, x6, x7, x8, x9, x10, x11, x12, x13, x14, x15, x16, x17, x18, x19, x20, x21, x22] : List UInt8)))] w60 := H55.callNil H62
  refine ⟨_, rfl, [2, 6, 44, 47], [(2, pt p3 0), (6, pt p44 0), (44, .bool true), (47, .bool ((106 :: UInt8.ofNat ([x0, x1, x2, x3, x4, x5, x6, x7, x8, x9, x10, x11, x12, x13, x14, x15, x16, x17, x18, x19, x20, x21, x22] : List UInt8).length :: ([x0, x1, x2, x3, x4, x5, x6, x7, x8, x9, x10, x11, x12, x13, x14, x15, x16, x17, x18, x19, x20, x21, x22] : List UInt8)) == ([106, 23, x0, x1, x2, x3, x4, x5, x6, x7, x8, x9, x10, x11, x12, x13, x14, x15, x16, x17, x18, x19, x20, x21, x22] : List UInt8)))], by kernel_rfl, ?_⟩
  refine GL.run (j := 7) 1 [2, 6, 48] [(2, pt p3 0), (6, pt p44 0), (48, .bool ((106 :: UInt8.ofNat ([x0, x1, x2, x3, x4, x5, x6, x7, x8, x9, x10, x11, x12, x13, x14, x15, x16, x17, x18, x19, x20, x21, x22] : List UInt8).length :: ([x0, x1, x2, x3, x4, x5, x6, x7, x8, x9, x10, x11, x12, x13, x14, x15, x16, x17, x18, x19, x20, x21, x22] : List UInt8)) == ([106, 23, x0, x1, x2, x3, x4, x5, x6, x7, x8, x9, x10, x11, x12, x13, x14, x15, x16, x17, x18, x19, x20, x21, x22] : List UInt8)))] (by kernel_rfl) rfl ?_
  refine GL.k rfl hK59 (fun _ _ h => h) ?_
  have hb63 : ((106 :: UInt8.ofNat ([x0, x1, x2, x3, x4, x5, x6, x7, x8, x9, x10, x11, x12, x13, x14, x15, x16, x17, x18, x19, x20, x21, x22] : List UInt8).length :: ([x0, x1, x2, x3, x4, x5, x6, x7, x8, x9, x10, x11, x12, x13, x14, x15, x16, x17, x18, x19, x20, x21, x22] : List UInt8)) == ([106, 23, x0, x1, x2, x3, x4, x5, x6, x7, x8, x9, x10, x11, x12, x13, x14, x15, x16, x17, x18, x19, x20, x21, x22] : List UInt8)) = true := by rw [beq_iff_eq]; rfl
  rw [hb63]
  refine G.yes rfl ?_
  refine G.seqK fun K64 hK65 => ?_
  refine G.region ?_
  refine GL.sem (j := 1) (H61.ldA (o := 0) (ty := 43) (m := 22) (sub := [.int .i64 2, .int .u8 0, .int .u8 0, .int .u8 0, .int .u8 0, .int .u8 0, .int .u8 0, .int .u8 0, .int .u8 0, .int .u8 0, .int .u8 0, .int .u8 0, .int .u8 0, .int .u8 0, .int .u8 0, .int .u8 0, .int .u8 0, .int .u8 0, .int .u8 0, .int .u8 0, .int .u8 0, .slice A39 23 c40]) 4 rfl (by kernel_rfl) rfl rfl) [2, 49] [(2, pt p3 0), (49, .agg #[.int .i64 2, .int .u8 0, .int .u8 0, .int .u8 0, .int .u8 0, .int .u8 0, .int .u8 0, .int .u8 0, .int .u8 0, .int .u8 0, .int .u8 0, .int .u8 0, .int .u8 0, .int .u8 0, .int .u8 0, .int .u8 0, .int .u8 0, .int .u8 0, .int .u8 0, .int .u8 0, .int .u8 0, .slice A39 23 c40])] (by kernel_rfl) (by kernel_rfl) rfl ?_
  obtain ⟨w66, r67, H68⟩ := H61.stA (P := Try.prog) (o := 0) (vs := [.int .i64 2, .int .u8 0, .int .u8 0, .int .u8 0, .int .u8 0, .int .u8 0, .int .u8 0, .int .u8 0, .int .u8 0, .int .u8 0, .int .u8 0, .int .u8 0, .int .u8 0, .int .u8 0, .int .u8 0, .int .u8 0, .int .u8 0, .int .u8 0, .int .u8 0, .int .u8 0, .int .u8 0, .slice A39 23 c40]) (ty := 43) (m := 22) 0 rfl (by kernel_rfl) rfl (by simp) (by simp [Value.oneCell'])
  have H68 : Hp w [] [.blk p3 [.int .i64 2, .int .u8 0, .int .u8 0, .int .u8 0, .int .u8 0, .int .u8 0, .int .u8 0, .int .u8 0, .int .u8 0, .int .u8 0, .int .u8 0, .int .u8 0, .int .u8 0, .int .u8 0, .int .u8 0, .int .u8 0, .int .u8 0, .int .u8 0, .int .u8 0, .int .u8 0, .int .u8 0, .slice A39 23 c40] 43, .blk p13 [.int .i64 1, .int .u8 (x1.toNat : Int), .int .u8 (x2.toNat : Int), .int .u8 (x3.toNat : Int), .int .u8 (x4.toNat : Int), .int .u8 (x5.toNat : Int), .int .u8 (x6.toNat : Int), .int .u8 (x7.toNat : Int), .int .u8 (x8.toNat : Int), .int .u8 (x9.toNat : Int), .int .u8 (x10.toNat : Int), .int .u8 (x11.toNat : Int), .int .u8 (x12.toNat : Int), .int .u8 (x13.toNat : Int), .int .u8 (x14.toNat : Int), .int .u8 (x15.toNat : Int), .int .u8 (x16.toNat : Int), .int .u8 (x17.toNat : Int), .int .u8 (x18.toNat : Int), .int .u8 (x19.toNat : Int), .int .u8 (x20.toNat : Int), .slice none 0 0] 43, .row A22 (([118, 169, 20, x1, x2, x3, x4, x5, x6, x7, x8, x9, x10, x11, x12, x13, x14, x15, x16, x17, x18, x19, x20, 136, 172] : List UInt8).length) c23 5 1 (by8 ([118, 169, 20, x1, x2, x3, x4, x5, x6, x7, x8, x9, x10, x11, x12, x13, x14, x15, x16, x17, x18, x19, x20, 136, 172] : List UInt8)), .row A39 23 c40 5 1 (by8 ([x0, x1, x2, x3, x4, x5, x6, x7, x8, x9, x10, x11, x12, x13, x14, x15, x16, x17, x18, x19, x20, x21, x22] : List UInt8)), .blk p44 [.int .i64 2, .int .u8 0, .int .u8 0, .int .u8 0, .int .u8 0, .int .u8 0, .int .u8 0, .int .u8 0, .int .u8 0, .int .u8 0, .int .u8 0, .int .u8 0, .int .u8 0, .int .u8 0, .int .u8 0, .int .u8 0, .int .u8 0, .int .u8 0, .int .u8 0, .int .u8 0, .int .u8 0, .slice A39 23 c40] 43, .row A53 ((106 :: UInt8.ofNat ([x0, x1, x2, x3, x4, x5, x6, x7, x8, x9, x10, x11, x12, x13, x14, x15, x16, x17, x18, x19, x20, x21, x22] : List UInt8).length :: ([x0, x1, x2, x3, x4, x5, x6, x7, x8, x9, x10, x11, x12, x13, x14, x15, x16, x17, x18, x19, x20, x21, x22] : List UInt8)).length) c54 5 1 (by8 (106 :: UInt8.ofNat ([x0, x1, x2, x3, x4, x5, x6, x7, x8, x9, x10, x11, x12, x13, x14, x15, x16, x17, x18, x19, x20, x21, x22] : List UInt8).length :: ([x0, x1, x2, x3, x4, x5, x6, x7, x8, x9, x10, x11, x12, x13, x14, x15, x16, x17, x18, x19, x20, x21, x22] : List UInt8)))] w66 := H68
  refine GL.semU (j := 2) r67 [2] [(2, pt p3 0)] (by kernel_rfl) rfl rfl rfl ?_
  refine GL.k rfl hK65 (fun _ _ h => h) ?_
  refine G.ret ?_
  intro F_ hF_ hM_
  refine hRet _ _ (bodyPost_1 rfl (RV.cell rfl (H68.ldA (o := 0) (ty := 43) (m := 22) (sub := [.int .i64 2, .int .u8 0, .int .u8 0, .int .u8 0, .int .u8 0, .int .u8 0, .int .u8 0, .int .u8 0, .int .u8 0, .int .u8 0, .int .u8 0, .int .u8 0, .int .u8 0, .int .u8 0, .int .u8 0, .int .u8 0, .int .u8 0, .int .u8 0, .int .u8 0, .int .u8 0, .int .u8 0, .slice A39 23 c40]) 0 rfl (by kernel_rfl) rfl rfl)) ?_ F_ hF_ hM_)
  exact ⟨_, _, rfl, H68.sub (by simp)⟩
theorem Parse_short (bs : List UInt8) (A : Option Addr) (c : Nat) (w : World) (hs : bs.length ≤ 2) : Calls Try.prog 11 #[.slice A bs.length c] w fun e w' => e = .returned (.agg #[.int .i64 0, .int .u8 0, .int .u8 0, .int .u8 0, .int .u8 0, .int .u8 0, .int .u8 0, .int .u8 0, .int .u8 0, .int .u8 0, .int .u8 0, .int .u8 0, .int .u8 0, .int .u8 0, .int .u8 0, .int .u8 0, .int .u8 0, .int .u8 0, .int .u8 0, .int .u8 0, .int .u8 0, .slice none 0 0]) ∧ Hp w [] [] w' := by
  refine calls_G (args := [.slice A bs.length c]) Try.func11 rfl Try.ntmps11 rfl ?_
  intro Q0 hRet hNor hPan
  have H := Hp.start w
  have H : Hp w [] [] w := H
  refine G.seqK fun K1 hK2 => ?_
  refine G.region ?_
  obtain ⟨p3, w4, r5, H6⟩ := H.alloc (P := Try.prog) 43 [.int .i64 0, .int .u8 0, .int .u8 0, .int .u8 0, .int .u8 0, .int .u8 0, .int .u8 0, .int .u8 0, .int .u8 0, .int .u8 0, .int .u8 0, .int .u8 0, .int .u8 0, .int .u8 0, .int .u8 0, .int .u8 0, .int .u8 0, .int .u8 0, .int .u8 0, .int .u8 0, .int .u8 0, .slice none 0 0] (by kernel_rfl)
  have H6 : Hp w [] [.blk p3 [.int .i64 0, .int .u8 0, .int .u8 0, .int .u8 0, .int .u8 0, .int .u8 0, .int .u8 0, .int .u8 0, .int .u8 0, .int .u8 0, .int .u8 0, .int .u8 0, .int .u8 0, .int .u8 0, .int .u8 0, .int .u8 0, .int .u8 0, .int .u8 0, .int .u8 0, .int .u8 0, .int .u8 0, .slice none 0 0] 43] w4 := H6
  refine GL.sem (j := 1) (r5) [0, 2] [(0, .slice A bs.length c), (2, pt p3 0)] (by kernel_rfl) (by kernel_rfl) rfl ?_
  refine GL.k rfl hK2 (fun _ _ h => h) ?_
  refine G.seqK fun K7 hK8 => ?_
  refine G.seqK fun K9 hK10 => ?_
  refine G.region ?_
  refine GL.run (j := 3) 3 [0, 2, 11] [(0, .slice A bs.length c), (2, pt p3 0), (11, .bool ((bs.length : Int) == 25))] (by kernel_rfl) rfl ?_
  refine GL.k rfl hK10 (fun _ _ h => h) ?_
  have hb11 : ((bs.length : Int) == 25) = false := beq_eq_false_iff_ne.2 (by omega)
  rw [hb11]
  refine G.no rfl ?_
  refine G.skipK hK8 (fun _ _ h => h) ?_
  refine G.seqK fun K12 hK13 => ?_
  refine G.seqK fun K14 hK15 => ?_
  refine G.region ?_
  refine GL.run (j := 3) 3 [0, 2, 32] [(0, .slice A bs.length c), (2, pt p3 0), (32, .bool (decide (2 < (bs.length : Int))))] (by kernel_rfl) rfl ?_
  refine GL.k rfl hK15 (fun _ _ h => h) ?_
  have hb16 : (decide (2 < (bs.length : Int))) = false := decide_eq_false (by omega)
  rw [hb16]
  refine G.no rfl ?_
  refine G.skipK hK13 (fun _ _ h => h) ?_
  refine G.seqK fun K17 hK18 => ?_
  refine G.region ?_
  refine GL.run (j := 1) 1 [2, 50] [(2, pt p3 0), (50, .agg #[.int .i64 0, .int .u8 0, .int .u8 0, .int .u8 0, .int .u8 0, .int .u8 0, .int .u8 0, .int .u8 0, .int .u8 0, .int .u8 0, .int .u8 0, .int .u8 0, .int .u8 0, .int .u8 0, .int .u8 0, .int .u8 0, .int .u8 0, .int .u8 0, .int .u8 0, .int .u8 0, .int .u8 0, .slice none 0 0])] (by kernel_rfl) rfl ?_
  obtain ⟨w19, r20, H21⟩ := H6.stA (P := Try.prog) (o := 0) (vs := [.int .i64 0, .int .u8 0, .int .u8 0, .int .u8 0, .int .u8 0, .int .u8 0, .int .u8 0, .int .u8 0, .int .u8 0, .int .u8 0, .int .u8 0, .int .u8 0, .int .u8 0, .int .u8 0, .int .u8 0, .int .u8 0, .int .u8 0, .int .u8 0, .int .u8 0, .int .u8 0, .int .u8 0, .slice none 0 0]) (ty := 43) (m := 22) 0 rfl (by kernel_rfl) rfl (by simp) (by simp [Value.oneCell'])
  have H21 : Hp w [] [.blk p3 [.int .i64 0, .int .u8 0, .int .u8 0, .int .u8 0, .int .u8 0, .int .u8 0, .int .u8 0, .int .u8 0, .int .u8 0, .int .u8 0, .int .u8 0, .int .u8 0, .int .u8 0, .int .u8 0, .int .u8 0, .int .u8 0, .int .u8 0, .int .u8 0, .int .u8 0, .int .u8 0, .int .u8 0, .slice none 0 0] 43] w19 := H21
  refine GL.semU (j := 2) r20 [2] [(2, pt p3 0)] (by kernel_rfl) rfl rfl rfl ?_
  refine GL.k rfl hK18 (fun _ _ h => h) ?_
  refine G.ret ?_
  intro F_ hF_ hM_
  refine hRet _ _ (bodyPost_1 rfl (RV.cell rfl (H21.ldA (o := 0) (ty := 43) (m := 22) (sub := [.int .i64 0, .int .u8 0, .int .u8 0, .int .u8 0, .int .u8 0, .int .u8 0, .int .u8 0, .int .u8 0, .int .u8 0, .int .u8 0, .int .u8 0, .int .u8 0, .int .u8 0, .int .u8 0, .int .u8 0, .int .u8 0, .int .u8 0, .int .u8 0, .int .u8 0, .int .u8 0, .int .u8 0, .slice none 0 0]) 0 rfl (by kernel_rfl) rfl rfl)) ?_ F_ hF_ hM_)
  exact ⟨rfl, H21.sub (List.nil_sublist _)⟩
theorem Parse_no3 (y0 y1 : UInt8) (t : List UInt8) (A : Option Addr) (c : Nat) (w : World) (hr : RdS w A (by8 (y0 :: y1 :: t))) (h1 : 1 ≤ t.length) (h40 : t.length ≤ 40) (h23 : t.length ≠ 23) (hc : t.length + 2 ≤ c) (hne : (106 :: UInt8.ofNat t.length :: t) ≠ (y0 :: y1 :: t)) : Calls Try.prog 11 #[.slice A ((y0 :: y1 :: t).length) c] w fun e w' => e = .returned (.agg #[.int .i64 0, .int .u8 0, .int .u8 0, .int .u8 0, .int .u8 0, .int .u8 0, .int .u8 0, .int .u8 0, .int .u8 0, .int .u8 0, .int .u8 0, .int .u8 0, .int .u8 0, .int .u8 0, .int .u8 0, .int .u8 0, .int .u8 0, .int .u8 0, .int .u8 0, .int .u8 0, .int .u8 0, .slice none 0 0]) ∧ Hp w [] [] w' := by
  refine calls_G (args := [.slice A ((y0 :: y1 :: t).length) c]) Try.func11 rfl Try.ntmps11 rfl ?_
  intro Q0 hRet hNor hPan
  have H := Hp.start w
  have H : Hp w [] [] w := H
  refine G.seqK fun K1 hK2 => ?_
  refine G.region ?_
  obtain ⟨p3, w4, r5, H6⟩ := H.alloc (P := Try.prog) 43 [.int .i64 0, .int .u8 0, .int .u8 0, .int .u8 0, .int .u8 0, .int .u8 0, .int .u8 0, .int .u8 0, .int .u8 0, .int .u8 0, .int .u8 0, .int .u8 0, .int .u8 0, .int .u8 0, .int .u8 0, .int .u8 0, .int .u8 0, .int .u8 0, .int .u8 0, .int .u8 0, .int .u8 0, .slice none 0 0] (by kernel_rfl)
  have H6 : Hp w [] [.blk p3 [.int .i64 0, .int .u8 0, .int .u8 0, .int .u8 0, .int .u8 0, .int .u8 0, .int .u8 0, .int .u8 0, .int .u8 0, .int .u8 0, .int .u8 0, .int .u8 0, .int .u8 0, .int .u8 0, .int .u8 0, .int .u8 0, .int .u8 0, .int .u8 0, .int .u8 0, .int .u8 0, .int .u8 0, .slice none 0 0] 43] w4 := H6
  refine GL.sem (j := 1) (r5) [0, 2] [(0, .slice A ((y0 :: y1 :: t).length) c), (2, pt p3 0)] (by kernel_rfl) (by kernel_rfl) rfl ?_
  refine GL.k rfl hK2 (fun _ _ h => h) ?_
  refine G.seqK fun K7 hK8 => ?_
  refine G.seqK fun K9 hK10 => ?_
  refine G.region ?_
  refine GL.run (j := 3) 3 [0, 2, 11] [(0, .slice A ((y0 :: y1 :: t).length) c), (2, pt p3 0), (11, .bool ((((y0 :: y1 :: t).length : Nat) : Int) == 25))] (by kernel_rfl) rfl ?_
  refine GL.k rfl hK10 (fun _ _ h => h) ?_
  have hb11 : ((((y0 :: y1 :: t).length : Nat) : Int) == 25) = false := beq_eq_false_iff_ne.2 (by simp; omega)
  rw [hb11]
  refine G.no rfl ?_
  refine G.skipK hK8 (fun _ _ h => h) ?_
  refine G.seqK fun K12 hK13 => ?_
  refine G.seqK fun K14 hK15 => ?_
  refine G.region ?_
  refine GL.run (j := 3) 3 [0, 2, 32] [(0, .slice A ((y0 :: y1 :: t).length) c), (2, pt p3 0), (32, .bool (decide (2 < (((y0 :: y1 :: t).length : Nat) : Int))))] (by kernel_rfl) rfl ?_
  refine GL.k rfl hK15 (fun _ _ h => h) ?_
  have hb16 : (decide (2 < (((y0 :: y1 :: t).length : Nat) : Int))) = true := decide_eq_true (by simp; omega)
  rw [hb16]
  refine G.yes rfl ?_
  refine G.seqK fun K17 hK18 => ?_
  refine G.region ?_
  refine GL.run (j := 1) 1 [0, 2, 33] [(0, .slice A ((y0 :: y1 :: t).length) c), (2, pt p3 0), (33, .slice A ((y0 :: y1 :: t).length) c)] (by kernel_rfl) rfl ?_
  refine GL.sem (j := 2) (run_sliceSl (P := Try.prog) (lo := some (.int .i64 2)) (hi := none) (t := 38) (len := (y0 :: y1 :: t).length) (cap := c) (A := A) (l := 2) (h := (y0 :: y1 :: t).length) (by kernel_rfl) (Or.inr ⟨_, _, rfl, rfl⟩) (Or.inl ⟨rfl, rfl⟩) (by first | rfl | omega | (simp only [List.length_cons, List.length_nil, List.length_drop, List.length_take, List.length_append] <;> omega)) (by first | rfl | omega | (simp only [List.length_cons, List.length_nil, List.length_drop, List.length_take, List.length_append] <;> omega))) [0, 2, 34] [(0, .slice A ((y0 :: y1 :: t).length) c), (2, pt p3 0), (34, .slice (if c = 2 then A else Option.map (fun x => Addr.add x 2) A) t.length (c - 2))] (by kernel_rfl) (by kernel_rfl) rfl ?_
  refine GL.call (j := 3) (SClone_calls t (if c = 2 then A else Option.map (fun x => Addr.add x 2) A) (c - 2) w4 (RdS.drop8 (cap := c) (hr.hp H6) 2 (cs := t) (by first | rfl | omega | (simp only [List.length_cons, List.length_nil, List.length_drop, List.length_take, List.length_append] <;> omega)) rfl) (isNone_drop hr (by first | rfl | omega | (simp only [List.length_cons, List.length_nil, List.length_drop, List.length_take, List.length_append] <;> omega)) (by first | rfl | omega | (simp only [List.length_cons, List.length_nil, List.length_drop, List.length_take, List.length_append] <;> omega))) (by first | rfl | omega | (simp only [List.length_cons, List.length_nil, List.length_drop, List.length_take, List.length_append] <;> omega))) (by kernel_rfl) rfl (fun e_ w23 hR => ?_)
  obtain ⟨A19, c20, rfl, H22⟩ := hR
  have H21 : Hp w [] [.blk p3 [.int .i64 0, .int .u8 0, .int .u8 0, .int .u8 0, .int .u8 0, .int .u8 0, .int .u8 0, .int .u8 0, .int .u8 0, .int .u8 0, .int .u8 0, .int .u8 0, .int .u8 0, .int .u8 0, .int .u8 0, .int .u8 0, .int .u8 0, .int .u8 0, .int .u8 0, .int .u8 0, .int .u8 0, .slice none 0 0] 43, .row A19 t.length c20 5 1 (by8 t)] w23 := H6.callNew H22
  refine ⟨_, rfl, [0, 2, 35], [(0, .slice A ((y0 :: y1 :: t).length) c), (2, pt p3 0), (35, .slice A19 t.length c20)], by kernel_rfl, ?_⟩
  refine GL.run (j := 4) 1 [0, 2, 36] [(0, .slice A ((y0 :: y1 :: t).length) c), (2, pt p3 0), (36, .agg #[.int .i64 2, .int .u8 0, .int .u8 0, .int .u8 0, .int .u8 0, .int .u8 0, .int .u8 0, .int .u8 0, .int .u8 0, .int .u8 0, .int .u8 0, .int .u8 0, .int .u8 0, .int .u8 0, .int .u8 0, .int .u8 0, .int .u8 0, .int .u8 0, .int .u8 0, .int .u8 0, .int .u8 0, .slice A19 t.length c20])] (by kernel_rfl) rfl ?_
  obtain ⟨p24, w25, r26, H27⟩ := H21.alloc (P := Try.prog) 43 [.int .i64 0, .int .u8 0, .int .u8 0, .int .u8 0, .int .u8 0, .int .u8 0, .int .u8 0, .int .u8 0, .int .u8 0, .int .u8 0, .int .u8 0, .int .u8 0, .int .u8 0, .int .u8 0, .int .u8 0, .int .u8 0, .int .u8 0, .int .u8 0, .int .u8 0, .int .u8 0, .int .u8 0, .slice none 0 0] (by kernel_rfl)
  have H27 : Hp w [] [.blk p3 [.int .i64 0, .int .u8 0, .int .u8 0, .int .u8 0, .int .u8 0, .int .u8 0, .int .u8 0, .int .u8 0, .int .u8 0, .int .u8 0, .int .u8 0, .int .u8 0, .int .u8 0, .int .u8 0, .int .u8 0, .int .u8 0, .int .u8 0, .int .u8 0, .int .u8 0, .int .u8 0, .int .u8 0, .slice none 0 0] 43, .row A19 t.length c20 5 1 (by8 t), .blk p24 [.int .i64 0, .int .u8 0, .int .u8 0, .int .u8 0, .int .u8 0, .int .u8 0, .int .u8 0, .int .u8 0, .int .u8 0, .int .u8 0, .int .u8 0, .int .u8 0, .int .u8 0, .int .u8 0, .int .u8 0, .int .u8 0, .int .u8 0, .int .u8 0, .int .u8 0, .int .u8 0, .int .u8 0, .slice none 0 0] 43] w25 := H27
  refine GL.sem (j := 5) (r26) [0, 2, 6, 36] [(0, .slice A ((y0 :: y1 :: t).length) c), (2, pt p3 0), (6, pt p24 0), (36, .agg #[.int .i64 2, .int .u8 0, .int .u8 0, .int .u8 0, .int .u8 0, .int .u8 0, .int .u8 0, .int .u8 0, .int .u8 0, .int .u8 0, .int .u8 0, .int .u8 0, .int .u8 0, .int .u8 0, .int .u8 0, .int .u8 0, .int .u8 0, .int .u8 0, .int .u8 0, .int .u8 0, .int .u8 0, .slice A19 t.length c20])] (by kernel_rfl) (by kernel_rfl) rfl ?_
  obtain ⟨w28, r29, H30⟩ := H27.stA (P := Try.prog) (o := 0) (vs := [.int .i64 2, .int .u8 0, .int .u8 0, .int .u8 0, .int .u8 0, .int .u8 0, .int .u8 0, .int .u8 0, .int .u8 0, .int .u8 0, .int .u8 0, .int .u8 0, .int .u8 0, .int .u8 0, .int .u8 0, .int .u8 0, .int .u8 0, .int .u8 0, .int .u8 0, .int .u8 0, .int .u8 0, .slice A19 t.length c20]) (ty := 43) (m := 22) 2 rfl (by kernel_rfl) rfl (by simp) (by simp [Value.oneCell'])
  have H30 : Hp w [] [.blk p3 [.int .i64 0, .int .u8 0, .int .u8 0, .int .u8 0, .int .u8 0, .int .u8 0, .int .u8 0, .int .u8 0, .int .u8 0, .int .u8 0, .int .u8 0, .int .u8 0, .int .u8 0, .int .u8 0, .int .u8 0, .int .u8 0, .int .u8 0, .int .u8 0, .int .u8 0, .int .u8 0, .int .u8 0, .slice none 0 0] 43, .row A19 t.length c20 5 1 (by8 t), .blk p24 [.int .i64 2, .int .u8 0, .int .u8 0, .int .u8 0, .int .u8 0, .int .u8 0, .int .u8 0, .int .u8 0, .int .u8 0, .int .u8 0, .int .u8 0, .int .u8 0, .int .u8 0, .int .u8 0, .int .u8 0, .int .u8 0, .int .u8 0, .int .u8 0, .int .u8 0, .int .u8 0, .int .u8 0, .slice A19 t.length c20] 43] w28 := H30
  refine GL.semU (j := 6) r29 [0, 2, 6] [(0, .slice A ((y0 :: y1 :: t).length) c), (2, pt p3 0), (6, pt p24 0)] (by kernel_rfl) rfl rfl rfl ?_
  refine GL.k rfl hK18 (fun _ _ h => h) ?_
  refine G.seqK fun K31 hK32 => ?_
  refine G.region ?_
  refine GL.sem (j := 1) (H30.ldA (o := 0) (ty := 43) (m := 22) (sub := [.int .i64 2, .int .u8 0, .int .u8 0, .int .u8 0, .int .u8 0, .int .u8 0, .int .u8 0, .int .u8 0, .int .u8 0, .int .u8 0, .int .u8 0, .int .u8 0, .int .u8 0, .int .u8 0, .int .u8 0, .int .u8 0, .int .u8 0, .int .u8 0, .int .u8 0, .int .u8 0, .int .u8 0, .slice A19 t.length c20]) 2 rfl (by kernel_rfl) rfl rfl) [0, 2, 6, 38] [(0, .slice A ((y0 :: y1 :: t).length) c), (2, pt p3 0), (6, pt p24 0), (38, .agg #[.int .i64 2, .int .u8 0, .int .u8 0, .int .u8 0, .int .u8 0, .int .u8 0, .int .u8 0, .int .u8 0, .int .u8 0, .int .u8 0, .int .u8 0, .int .u8 0, .int .u8 0, .int .u8 0, .int .u8 0, .int .u8 0, .int .u8 0, .int .u8 0, .int .u8 0, .int .u8 0, .int .u8 0, .slice A19 t.length c20])] (by kernel_rfl) (by kernel_rfl) rfl ?_
  refine GL.call (j := 2) (Bytes_tag (0 : UInt8) (0 : UInt8) (0 : UInt8) (0 : UInt8) (0 : UInt8) (0 : UInt8) (0 : UInt8) (0 : UInt8) (0 : UInt8) (0 : UInt8) (0 : UInt8) (0 : UInt8) (0 : UInt8) (0 : UInt8) (0 : UInt8) (0 : UInt8) (0 : UInt8) (0 : UInt8) (0 : UInt8) (0 : UInt8) t A19 c20 w28 (H30.rdRow 1 rfl) (by omega) (by omega)) (by kernel_rfl) rfl (fun e_ w37 hR => ?_)
  obtain ⟨A33, c34, rfl, H36⟩ := hR
  have H35 : Hp w [] [.blk p3 [.int .i64 0, .int .u8 0, .int .u8 0, .int .u8 0, .int .u8 0, .int .u8 0, .int .u8 0, .int .u8 0, .int .u8 0, .int .u8 0, .int .u8 0, .int .u8 0, .int .u8 0, .int .u8 0, .int .u8 0, .int .u8 0, .int .u8 0, .int .u8 0, .int .u8 0, .int .u8 0, .int .u8 0, .slice none 0 0] 43, .row A19 t.length c20 5 1 (by8 t), .blk p24 [.int .i64 2, .int .u8 0, .int .u8 0, .int .u8 0, .int .u8 0, .int .u8 0, .int .u8 0, .int .u8 0, .int .u8 0, .int .u8 0, .int .u8 0, .int .u8 0, .int .u8 0, .int .u8 0, .int .u8 0, .int .u8 0, .int .u8 0, .int .u8 0, .int .u8 0, .int .u8 0, .int .u8 0, .slice A19 t.length c20] 43, .row A33 ((106 :: UInt8.ofNat t.length :: t).length) c34 5 1 (by8 (106 :: UInt8.ofNat t.length :: t))] w37 := H30.callNew H36
  refine ⟨_, rfl, [0, 2, 6, 39], [(0, .slice A ((y0 :: y1 :: t).length) c), (2, pt p3 0), (6, pt p24 0), (39, .tuple #[.slice A33 ((106 :: UInt8.ofNat t.length :: t).length) c34, .int .i64 0])], by kernel_rfl, ?_⟩
  refine GL.run (j := 7) 5 [0, 2, 6, 7, 8] [(0, .slice A ((y0 :: y1 :: t).length) c), (2, pt p3 0), (6, pt p24 0), (7, .slice A33 ((106 :: UInt8.ofNat t.length :: t).length) c34), (8, .int .i64 0)] (by kernel_rfl) rfl ?_
  refine GL.k rfl hK32 (fun _ _ h => h) ?_
  refine G.seqK fun K38 hK39 => ?_
  refine G.region ?_
  refine GL.run (j := 5) 5 [2, 6, 44, 45, 46] [(2, pt p3 0), (6, pt p24 0), (44, .bool true), (45, .slice A33 ((106 :: UInt8.ofNat t.length :: t).length) c34), (46, .slice A ((y0 :: y1 :: t).length) c)] (by kernel_rfl) rfl ?_
  refine GL.call (j := 6) (Equal_calls (106 :: UInt8.ofNat t.length :: t) (y0 :: y1 :: t) A33 A c34 c w37 (H35.rdRow 3 rfl) (hr.hp H35)) (by kernel_rfl) rfl (fun e_ w40 hR => ?_)
  obtain ⟨rfl, H42⟩ := hR
  have H41 : Hp w [] [.blk p3 [.int .i64 0, .int .u8 0, .int .u8 0, .int .u8 0, .int .u8 0, .int .u8 0, .int .u8 0, .int .u8 0, .int .u8 0, .int .u8 0, .int .u8 0, .int .u8 0, .int .u8 0, .int .u8 0, .int .u8 0, .int .u8 0, .int .u8 0, .int .u8 0, .int .u8 0, .int .u8 0, .int .u8 0, .slice none 0 0] 43, .row A19 t.length c20 5 1 (by8 t), .blk p24 [.int .i64 2, .int .u8 0, .int .u8 0, .int .u8 0, .int .u8 0, .int .u8 0, .int .u8 0, .int .u8 0, .int .u8 0, .int .u8 0, .int .u8 0, .int .u8 0, .int .u8 0, .int .u8 0, .int .u8 0, .int .u8 0, .int .u8 0, .int .u8 0, .int .u8 0, .int .u8 0, .int .u8 0, .slice A19 t.length c20] 43, .row A33 ((106 :: UInt8.ofNat t.length :: t).length) c34 5 1 (by8 (106 :: UInt8.ofNat t.length :: t))] w40 := H35.callNil H42
  refine ⟨_, rfl, [2, 6, 44, 47], [(2, pt p3 0), (6, pt p24 0), (44, .bool true), (47, .bool ((106 :: UInt8.ofNat t.length :: t) == (y0 :: y1 :: t)))], by kernel_rfl, ?_⟩
  refine GL.run (j := 7) 1 [2, 6, 48] [(2, pt p3 0), (6, pt p24 0), (48, .bool ((106 :: UInt8.ofNat t.length :: t) == (y0 :: y1 :: t)))] (by kernel_rfl) rfl ?_
  refine GL.k rfl hK39 (fun _ _ h => h) ?_
  have hb43 : ((106 :: UInt8.ofNat t.length :: t) == (y0 :: y1 :: t)) = false := beq_eq_false_iff_ne.2 hne
  rw [hb43]
  refine G.no rfl ?_
  refine G.skipK hK13 (fun _ _ h => h) ?_
  refine G.seqK fun K44 hK45 => ?_
  refine G.region ?_
  refine GL.run (j := 1) 1 [2, 50] [(2, pt p3 0), (50, .agg #[.int .i64 0, .int .u8 0, .int .u8 0, .int .u8 0, .int .u8 0, .int .u8 0, .int .u8 0, .int .u8 0, .int .u8 0, .int .u8 0, .int .u8 0, .int .u8 0, .int .u8 0, .int .u8 0, .int .u8 0, .int .u8 0, .int .u8 0, .int .u8 0, .int .u8 0, .int .u8 0, .int .u8 0, .slice none 0 0])] (by kernel_rfl) rfl ?_
  obtain ⟨w46, r47, H48⟩ := H41.stA (P := Try.prog) (o := 0) (vs := [.int .i64 0, .int .u8 0, .int .u8 0, .int .u8 0, .int .u8 0, .int .u8 0, .int .u8 0, .int .u8 0, .int .u8 0, .int .u8 0, .int .u8 0, .int .u8 0, .int .u8 0, .int .u8 0, .int .u8 0, .int .u8 0, .int .u8 0, .int .u8 0, .int .u8 0, .int .u8 0, .int .u8 0, .slice none 0 0]) (ty := 43) (m := 22) 0 rfl (by kernel_rfl) rfl (by simp) (by simp [Value.oneCell'])
  have H48 : Hp w [] [.blk p3 [.int .i64 0, .int .u8 0, .int .u8 0, .int .u8 0, .int .u8 0, .int .u8 0, .int .u8 0, .int .u8 0, .int .u8 0, .int .u8 0, .int .u8 0, .int .u8 0, .int .u8 0, .int .u8 0, .int .u8 0, .int .u8 0, .int .u8 0, .int .u8 0, .int .u8 0, .int .u8 0, .int .u8 0, .slice none 0 0] 43, .row A19 t.length c20 5 1 (by8 t), .blk p24 [.int .i64 2, .int .u8 0, .int .u8 0, .int .u8 0, .int .u8 0, .int .u8 0, .int .u8 0, .int .u8 0, .int .u8 0, .int .u8 0, .int .u8 0, .int .u8 0, .int .u8 0, .int .u8 0, .int .u8 0, .int .u8 0, .int .u8 0, .int .u8 0, .int .u8 0, .int .u8 0, .int .u8 0, .slice A19 t.length c20] 43, .row A33 ((106 :: UInt8.ofNat t.length :: t).length) c34 5 1 (by8 (106 :: UInt8.ofNat t.length :: t))] w46 := H48
  refine GL.semU (j := 2) r47 [2] [(2, pt p3 0)] (by kernel_rfl) rfl rfl rfl ?_
  refine GL.k rfl hK45 (fun _ _ h => h) ?_
  refine G.ret ?_
  intro F_ hF_ hM_
  refine hRet _ _ (bodyPost_1 rfl (RV.cell rfl (H48.ldA (o := 0) (ty := 43) (m := 22) (sub := [.int .i64 0, .int .u8 0, .int .u8 0, .int .u8 0, .int .u8 0, .int .u8 0, .int .u8 0, .int .u8 0, .int .u8 0, .int .u8 0, .int .u8 0, .int .u8 0, .int .u8 0, .int .u8 0, .int .u8 0, .int .u8 0, .int .u8 0, .int .u8 0, .int .u8 0, .int .u8 0, .int .u8 0, .slice none 0 0]) 0 rfl (by kernel_rfl) rfl rfl)) ?_ F_ hF_ hM_)
  exact ⟨rfl, H48.sub (List.nil_sublist _)⟩
theorem Parse_no41 (y0 y1 : UInt8) (t : List UInt8) (A : Option Addr) (c : Nat) (w : World) (hr : RdS w A (by8 (y0 :: y1 :: t))) (h1 : 40 < t.length) (hl : t.length ≤ 1099511627776) (hc : t.length + 2 ≤ c) : Calls Try.prog 11 #[.slice A ((y0 :: y1 :: t).length) c] w fun e w' => e = .returned (.agg #[.int .i64 0, .int .u8 0, .int .u8 0, .int .u8 0, .int .u8 0, .int .u8 0, .int .u8 0, .int .u8 0, .int .u8 0, .int .u8 0, .int .u8 0, .int .u8 0, .int .u8 0, .int .u8 0, .int .u8 0, .int .u8 0, .int .u8 0, .int .u8 0, .int .u8 0, .int .u8 0, .int .u8 0, .slice none 0 0]) ∧ Hp w [] [] w' := by
  refine calls_G (args := [.slice A ((y0 :: y1 :: t).length) c]) Try.func11 rfl Try.ntmps11 rfl ?_
  intro Q0 hRet hNor hPan
  have H := Hp.start w
  have H : Hp w [] [] w := H
  refine G.seqK fun K1 hK2 => ?_
  refine G.region ?_
  obtain ⟨p3, w4, r5, H6⟩ := H.alloc (P := Try.prog) 43 [.int .i64 0, .int .u8 0, .int .u8 0, .int .u8 0, .int .u8 0, .int .u8 0, .int .u8 0, .int .u8 0, .int .u8 0, .int .u8 0, .int .u8 0, .int .u8 0, .int .u8 0, .int .u8 0, .int .u8 0, .int .u8 0, .int .u8 0, .int .u8 0, .int .u8 0, .int .u8 0, .int .u8 0, .slice none 0 0] (by kernel_rfl)
  have H6 : Hp w [] [.blk p3 [.int .i64 0, .int .u8 0, .int .u8 0, .int .u8 0, .int .u8 0, .int .u8 0, .int .u8 0, .int .u8 0, .int .u8 0, .int .u8 0, .int .u8 0, .int .u8 0, .int .u8 0, .int .u8 0, .int .u8 0, .int .u8 0, .int .u8 0, .int .u8 0, .int .u8 0, .int .u8 0, .int .u8 0, .slice none 0 0] 43] w4 := H6
  refine GL.sem (j := 1) (r5) [0, 2] [(0, .slice A ((y0 :: y1 :: t).length) c), (2, pt p3 0)] (by kernel_rfl) (by kernel_rfl) rfl ?_
  refine GL.k rfl hK2 (fun _ _ h => h) ?_
  refine G.seqK fun K7 hK8 => ?_
  refine G.seqK fun K9 hK10 => ?_
  refine G.region ?_
  refine GL.run (j := 3) 3 [0, 2, 11] [(0, .slice A ((y0 :: y1 :: t).length) c), (2, pt p3 0), (11, .bool ((((y0 :: y1 :: t).length : Nat) : Int) == 25))] (by kernel_rfl) rfl ?_
  refine GL.k rfl hK10 (fun _ _ h => h) ?_
  have hb11 : ((((y0 :: y1 :: t).length : Nat) : Int) == 25) = false := beq_eq_false_iff_ne.2 (by simp; omega)
  rw [hb11]
  refine G.no rfl ?_
  refine G.skipK hK8 (fun _ _ h => h) ?_
  refine G.seqK fun K12 hK13 => ?_
  refine G.seqK fun K14 hK15 => ?_
  refine G.region ?_
  refine GL.run (j := 3) 3 [0, 2, 32] [(0, .slice A ((y0 :: y1 :: t).length) c), (2, pt p3 0), (32, .bool (decide (2 < (((y0 :: y1 :: t).length : Nat) : Int))))] (by kernel_rfl) rfl ?_
  refine GL.k rfl hK15 (fun _ _ h => h) ?_
  have hb16 : (decide (2 < (((y0 :: y1 :: t).length : Nat) : Int))) = true := decide_eq_true (by simp; omega)
  rw [hb16]
  refine G.yes rfl ?_
  refine G.seqK fun K17 hK18 => ?_
  refine G.region ?_
  refine GL.run (j := 1) 1 [0, 2, 33] [(0, .slice A ((y0 :: y1 :: t).length) c), (2, pt p3 0), (33, .slice A ((y0 :: y1 :: t).length) c)] (by kernel_rfl) rfl ?_
  refine GL.sem (j := 2) (run_sliceSl (P := Try.prog) (lo := some (.int .i64 2)) (hi := none) (t := 38) (len := (y0 :: y1 :: t).length) (cap := c) (A := A) (l := 2) (h := (y0 :: y1 :: t).length) (by kernel_rfl) (Or.inr ⟨_, _, rfl, rfl⟩) (Or.inl ⟨rfl, rfl⟩) (by first | rfl | omega | (simp only [List.length_cons, List.length_nil, List.length_drop, List.length_take, List.length_append] <;> omega)) (by first | rfl | omega | (simp only [List.length_cons, List.length_nil, List.length_drop, List.length_take, List.length_append] <;> omega))) [0, 2, 34] [(0, .slice A ((y0 :: y1 :: t).length) c), (2, pt p3 0), (34, .slice (if c = 2 then A else Option.map (fun x => Addr.add x 2) A) t.length (c - 2))] (by kernel_rfl) (by kernel_rfl) rfl ?_
  refine GL.call (j := 3) (SClone_calls t (if c = 2 then A else Option.map (fun x => Addr.add x 2) A) (c - 2) w4 (RdS.drop8 (cap := c) (hr.hp H6) 2 (cs := t) (by first | rfl | omega | (simp only [List.length_cons, List.length_nil, List.length_drop, List.length_take, List.length_append] <;> omega)) rfl) (isNone_drop hr (by first | rfl | omega | (simp only [List.length_cons, List.length_nil, List.length_drop, List.length_take, List.length_append] <;> omega)) (by first | rfl | omega | (simp only [List.length_cons, List.length_nil, List.length_drop, List.length_take, List.length_append] <;> omega))) (by first | rfl | omega | (simp only [List.length_cons, List.length_nil, List.length_drop, List.length_take, List.length_append] <;> omega))) (by kernel_rfl) rfl (fun e_ w23 hR => ?_)
  obtain ⟨A19, c20, rfl, H22⟩ := hR
  have H21 : Hp w [] [.blk p3 [.int .i64 0, .int .u8 0, .int .u8 0, .int .u8 0, .int .u8 0, .int .u8 0, .int .u8 0, .int .u8 0, .int .u8 0, .int .u8 0, .int .u8 0, .int .u8 0, .int .u8 0, .int .u8 0, .int .u8 0, .int .u8 0, .int .u8 0, .int .u8 0, .int .u8 0, .int .u8 0, .int .u8 0, .slice none 0 0] 43, .row A19 t.length c20 5 1 (by8 t)] w23 := H6.callNew H22
  refine ⟨_, rfl, [0, 2, 35], [(0, .slice A ((y0 :: y1 :: t).length) c), (2, pt p3 0), (35, .slice A19 t.length c20)], by kernel_rfl, ?_⟩
  refine GL.run (j := 4) 1 [0, 2, 36] [(0, .slice A ((y0 :: y1 :: t).length) c), (2, pt p3 0), (36, .agg #[.int .i64 2, .int .u8 0, .int .u8 0, .int .u8 0, .int .u8 0, .int .u8 0, .int .u8 0, .int .u8 0, .int .u8 0, .int .u8 0, .int .u8 0, .int .u8 0, .int .u8 0, .int .u8 0, .int .u8 0, .int .u8 0, .int .u8 0, .int .u8 0, .int .u8 0, .int .u8 0, .int .u8 0, .slice A19 t.length c20])] (by kernel_rfl) rfl ?_
  obtain ⟨p24, w25, r26, H27⟩ := H21.alloc (P := Try.prog) 43 [.int .i64 0, .int .u8 0, .int .u8 0, .int .u8 0, .int .u8 0, .int .u8 0, .int .u8 0, .int .u8 0, .int .u8 0, .int .u8 0, .int .u8 0, .int .u8 0, .int .u8 0, .int .u8 0, .int .u8 0, .int .u8 0, .int .u8 0, .int .u8 0, .int .u8 0, .int .u8 0, .int .u8 0, .slice none 0 0] (by kernel_rfl)
  have H27 : Hp w [] [.blk p3 [.int .i64 0, .int .u8 0, .int .u8 0, .int .u8 0, .int .u8 0, .int .u8 0, .int .u8 0, .int .u8 0, .int .u8 0, .int .u8 0, .int .u8 0, .int .u8 0, .int .u8 0, .int .u8 0, .int .u8 0, .int .u8 0, .int .u8 0, .int .u8 0, .int .u8 0, .int .u8 0, .int .u8 0, .slice none 0 0] 43, .row A19 t.length c20 5 1 (by8 t), .blk p24 [.int .i64 0, .int .u8 0, .int .u8 0, .int .u8 0, .int .u8 0, .int .u8 0, .int .u8 0, .int .u8 0, .int .u8 0, .int .u8 0, .int .u8 0, .int .u8 0, .int .u8 0, .int .u8 0, .int .u8 0, .int .u8 0, .int .u8 0, .int .u8 0, .int .u8 0, .int .u8 0, .int .u8 0, .slice none 0 0] 43] w25 := H27
  refine GL.sem (j := 5) (r26) [0, 2, 6, 36] [(0, .slice A ((y0 :: y1 :: t).length) c), (2, pt p3 0), (6, pt p24 0), (36, .agg #[.int .i64 2, .int .u8 0, .int .u8 0, .int .u8 0, .int .u8 0, .int .u8 0, .int .u8 0, .int .u8 0, .int .u8 0, .int .u8 0, .int .u8 0, .int .u8 0, .int .u8 0, .int .u8 0, .int .u8 0, .int .u8 0, .int .u8 0, .int .u8 0, .int .u8 0, .int .u8 0, .int .u8 0, .slice A19 t.length c20])] (by kernel_rfl) (by kernel_rfl) rfl ?_
  obtain ⟨w28, r29, H30⟩ := H27.stA (P := Try.prog) (o := 0) (vs := [.int .i64 2, .int .u8 0, .int .u8 0, .int .u8 0, .int .u8 0, .int .u8 0, .int .u8 0, .int .u8 0, .int .u8 0, .int .u8 0, .int .u8 0, .int .u8 0, .int .u8 0, .int .u8 0, .int .u8 0, .int .u8 0, .int .u8 0, .int .u8 0, .int .u8 0, .int .u8 0, .int .u8 0, .slice A19 t.length c20]) (ty := 43) (m := 22) 2 rfl (by kernel_rfl) rfl (by simp) (by simp [Value.oneCell'])
  have H30 : Hp w [] [.blk p3 [.int .i64 0, .int .u8 0, .int .u8 0, .int .u8 0, .int .u8 0, .int .u8 0, .int .u8 0, .int .u8 0, .int .u8 0, .int .u8 0, .int .u8 0, .int .u8 0, .int .u8 0, .int .u8 0, .int .u8 0, .int .u8 0, .int .u8 0, .int .u8 0, .int .u8 0, .int .u8 0, .int .u8 0, .slice none 0 0] 43, .row A19 t.length c20 5 1 (by8 t), .blk p24 [.int .i64 2, .int .u8 0, .int .u8 0, .int .u8 0, .int .u8 0, .int .u8 0, .int .u8 0, .int .u8 0, .int .u8 0, .int .u8 0, .int .u8 0, .int .u8 0, .int .u8 0, .int .u8 0, .int .u8 0, .int .u8 0, .int .u8 0, .int .u8 0, .int .u8 0, .int .u8 0, .int .u8 0, .slice A19 t.length c20] 43] w28 := H30
  refine GL.semU (j := 6) r29 [0, 2, 6] [(0, .slice A ((y0 :: y1 :: t).length) c), (2, pt p3 0), (6, pt p24 0)] (by kernel_rfl) rfl rfl rfl ?_
  refine GL.k rfl hK18 (fun _ _ h => h) ?_
  refine G.seqK fun K31 hK32 => ?_
  refine G.region ?_
  refine GL.sem (j := 1) (H30.ldA (o := 0) (ty := 43) (m := 22) (sub := [.int .i64 2, .int .u8 0, .int .u8 0, .int .u8 0, .int .u8 0, .int .u8 0, .int .u8 0, .int .u8 0, .int .u8 0, .int .u8 0, .int .u8 0, .int .u8 0, .int .u8 0, .int .u8 0, .int .u8 0, .int .u8 0, .int .u8 0, .int .u8 0, .int .u8 0, .int .u8 0, .int .u8 0, .slice A19 t.length c20]) 2 rfl (by kernel_rfl) rfl rfl) [0, 2, 6, 38] [(0, .slice A ((y0 :: y1 :: t).length) c), (2, pt p3 0), (6, pt p24 0), (38, .agg #[.int .i64 2, .int .u8 0, .int .u8 0, .int .u8 0, .int .u8 0, .int .u8 0, .int .u8 0, .int .u8 0, .int .u8 0, .int .u8 0, .int .u8 0, .int .u8 0, .int .u8 0, .int .u8 0, .int .u8 0, .int .u8 0, .int .u8 0, .int .u8 0, .int .u8 0, .int .u8 0, .int .u8 0, .slice A19 t.length c20])] (by kernel_rfl) (by kernel_rfl) rfl ?_
  refine GL.call (j := 2) (Bytes_long (0 : UInt8) (0 : UInt8) (0 : UInt8) (0 : UInt8) (0 : UInt8) (0 : UInt8) (0 : UInt8) (0 : UInt8) (0 : UInt8) (0 : UInt8) (0 : UInt8) (0 : UInt8) (0 : UInt8) (0 : UInt8) (0 : UInt8) (0 : UInt8) (0 : UInt8) (0 : UInt8) (0 : UInt8) (0 : UInt8) A19 t.length c20 w28 (by omega)) (by kernel_rfl) rfl (fun e_ w37 hR => ?_)
  obtain ⟨rfl, H36⟩ := hR
  have H35 : Hp w [] [.blk p3 [.int .i64 0, .int .u8 0, .int .u8 0, .int .u8 0, .int .u8 0, .int .u8 0, .int .u8 0, .int .u8 0, .int .u8 0, .int .u8 0, .int .u8 0, .int .u8 0, .int .u8 0, .int .u8 0, .int .u8 0, .int .u8 0, .int .u8 0, .int .u8 0, .int .u8 0, .int .u8 0, .int .u8 0, .slice none 0 0] 43, .row A19 t.length c20 5 1 (by8 t), .blk p24 [.int .i64 2, .int .u8 0, .int .u8 0, .int .u8 0, .int .u8 0, .int .u8 0, .int .u8 0, .int .u8 0, .int .u8 0, .int .u8 0, .int .u8 0, .int .u8 0, .int .u8 0, .int .u8 0, .int .u8 0, .int .u8 0, .int .u8 0, .int .u8 0, .int .u8 0, .int .u8 0, .int .u8 0, .slice A19 t.length c20] 43] w37 := H30.callNil H36
  refine ⟨_, rfl, [0, 2, 6, 39], [(0, .slice A ((y0 :: y1 :: t).length) c), (2, pt p3 0), (6, pt p24 0), (39, .tuple #[.slice none 0 0, .int .i64 3])], by kernel_rfl, ?_⟩
  refine GL.run (j := 7) 5 [0, 2, 6, 7, 8] [(0, .slice A ((y0 :: y1 :: t).length) c), (2, pt p3 0), (6, pt p24 0), (7, .slice none 0 0), (8, .int .i64 3)] (by kernel_rfl) rfl ?_
  refine GL.k rfl hK32 (fun _ _ h => h) ?_
  refine G.seqK fun K38 hK39 => ?_
  refine G.region ?_
  refine GL.run (j := 7) 7 [2, 6, 48] [(2, pt p3 0), (6, pt p24 0), (48, .bool false)] (by kernel_rfl) rfl ?_
  refine GL.k rfl hK39 (fun _ _ h => h) ?_
  refine G.no rfl ?_
  refine G.skipK hK13 (fun _ _ h => h) ?_
  refine G.seqK fun K40 hK41 => ?_
  refine G.region ?_
  refine GL.run (j := 1) 1 [2, 50] [(2, pt p3 0), (50, .agg #[.int .i64 0, .int .u8 0, .int .u8 0, .int .u8 0, .int .u8 0, .int .u8 0, .int .u8 0, .int .u8 0, .int .u8 0, .int .u8 0, .int .u8 0, .int .u8 0, .int .u8 0, .int .u8 0, .int .u8 0, .int .u8 0, .int .u8 0, .int .u8 0, .int .u8 0, .int .u8 0, .int .u8 0, .slice none 0 0])] (by kernel_rfl) rfl ?_
  obtain ⟨w42, r43, H44⟩ := H35.stA (P := Try.prog) (o := 0) (vs := [.int .i64 0, .int .u8 0, .int .u8 0, .int .u8 0, .int .u8 0, .int .u8 0, .int .u8 0, .int .u8 0, .int .u8 0, .int .u8 0, .int .u8 0, .int .u8 0, .int .u8 0, .int .u8 0, .int .u8 0, .int .u8 0, .int .u8 0, .int .u8 0, .int .u8 0, .int .u8 0, .int .u8 0, .slice none 0 0]) (ty := 43) (m := 22) 0 rfl (by kernel_rfl) rfl (by simp) (by simp [Value.oneCell'])
  have H44 : Hp w [] [.blk p3 [.int .i64 0, .int .u8 0, .int .u8 0, .int .u8 0, .int .u8 0, .int .u8 0, .int .u8 0, .int .u8 0, .int .u8 0, .int .u8 0, .int .u8 0, .int .u8 0, .int .u8 0, .int .u8 0, .int .u8 0, .int .u8 0, .int .u8 0, .int .u8 0, .int .u8 0, .int .u8 0, .int .u8 0, .slice none 0 0] 43, .row A19 t.length c20 5 1 (by8 t), .blk p24 [.int .i64 2, .int .u8 0, .int .u8 0, .int .u8 0, .int .u8 0, .int .u8 0, .int .u8 0, .int .u8 0, .int .u8 0, .int .u8 0, .int .u8 0, .int .u8 0, .int .u8 0, .int .u8 0, .int .u8 0, .int .u8 0, .int .u8 0, .int .u8 0, .int .u8 0, .int .u8 0, .int .u8 0, .slice A19 t.length c20] 43] w42 := H44
  refine GL.semU (j := 2) r43 [2] [(2, pt p3 0)] (by kernel_rfl) rfl rfl rfl ?_
  refine GL.k rfl hK41 (fun _ _ h => h) ?_
  refine G.ret ?_
  intro F_ hF_ hM_
  refine hRet _ _ (bodyPost_1 rfl (RV.cell rfl (H44.ldA (o := 0) (ty := 43) (m := 22) (sub := [.int .i64 0, .int .u8 0, .int .u8 0, .int .u8 0, .int .u8 0, .int .u8 0, .int .u8 0, .int .u8 0, .int .u8 0, .int .u8 0, .int .u8 0, .int .u8 0, .int .u8 0, .int .u8 0, .int .u8 0, .int .u8 0, .int .u8 0, .int .u8 0, .int .u8 0, .int .u8 0, .int .u8 0, .slice none 0 0]) 0 rfl (by kernel_rfl) rfl rfl)) ?_ F_ hF_ hM_)
  exact ⟨rfl, H44.sub (List.nil_sublist _)⟩
theorem Parse_no25 (x0 x1 x2 x3 x4 x5 x6 x7 x8 x9 x10 x11 x12 x13 x14 x15 x16 x17 x18 x19 x20 x21 x22 x23 x24 : UInt8) (A : Option Addr) (c : Nat) (w : World) (hr : RdS w A (by8 ([x0, x1, x2, x3, x4, x5, x6, x7, x8, x9, x10, x11, x12, x13, x14, x15, x16, x17, x18, x19, x20, x21, x22, x23, x24] : List UInt8))) (hc : 25 ≤ c) (hna : ([118, 169, 20, x3, x4, x5, x6, x7, x8, x9, x10, x11, x12, x13, x14, x15, x16, x17, x18, x19, x20, x21, x22, 136, 172] : List UInt8) ≠ ([x0, x1, x2, x3, x4, x5, x6, x7, x8, x9, x10, x11, x12, x13, x14, x15, x16, x17, x18, x19, x20, x21, x22, x23, x24] : List UInt8)) (hnt : (106 :: UInt8.ofNat (([x2, x3, x4, x5, x6, x7, x8, x9, x10, x11, x12, x13, x14, x15, x16, x17, x18, x19, x20, x21, x22, x23, x24] : List UInt8)).length :: ([x2, x3, x4, x5, x6, x7, x8, x9, x10, x11, x12, x13, x14, x15, x16, x17, x18, x19, x20, x21, x22, x23, x24] : List UInt8)) ≠ ([x0, x1, x2, x3, x4, x5, x6, x7, x8, x9, x10, x11, x12, x13, x14, x15, x16, x17, x18, x19, x20, x21, x22, x23, x24] : List UInt8)) : Calls Try.prog 11 #[.slice A 25 c] w fun e w' => e = .returned (.agg #[.int .i64 0, .int .u8 0, .int .u8 0, .int .u8 0, .int .u8 0, .int .u8 0, .int .u8 0, .int .u8 0, .int .u8 0, .int .u8 0, .int .u8 0, .int .u8 0, .int .u8 0, .int .u8 0, .int .u8 0, .int .u8 0, .int .u8 0, .int .u8 0, .int .u8 0, .int .u8 0, .int .u8 0, .slice none 0 0]) ∧ Hp w [] [] w' := by
  refine calls_G (args := [.slice A 25 c]) Try.func11 rfl Try.ntmps11 rfl ?_
  intro Q0 hRet hNor hPan
  have H := Hp.start w
  have H : Hp w [] [] w := H
  refine G.seqK fun K1 hK2 => ?_
  refine G.region ?_
  obtain ⟨p3, w4, r5, H6⟩ := H.alloc (P := Try.prog) 43 [.int .i64 0, .int .u8 0, .int .u8 0, .int .u8 0, .int .u8 0, .int .u8 0, .int .u8 0, .int .u8 0, .int .u8 0, .int .u8 0, .int .u8 0, .int .u8 0, .int .u8 0, .int .u8 0, .int .u8 0, .int .u8 0, .int .u8 0, .int .u8 0, .int .u8 0, .int .u8 0, .int .u8 0, .slice none 0 0] (by kernel_rfl)
  have H6 : Hp w [] [.blk p3 [.int .i64 0, .int .u8 0, .int .u8 0, .int .u8 0, .int .u8 0, .int .u8 0, .int .u8 0, .int .u8 0, .int .u8 0, .int .u8 0, .int .u8 0, .int .u8 0, .int .u8 0, .int .u8 0, .int .u8 0, .int .u8 0, .int .u8 0, .int .u8 0, .int .u8 0, .int .u8 0, .int .u8 0, .slice none 0 0] 43] w4 := H6
  refine GL.sem (j := 1) (r5) [0, 2] [(0, .slice A 25 c), (2, pt p3 0)] (by kernel_rfl) (by kernel_rfl) rfl ?_
  refine GL.k rfl hK2 (fun _ _ h => h) ?_
  refine G.seqK fun K7 hK8 => ?_
  refine G.seqK fun K9 hK10 => ?_
  refine G.region ?_
  refine GL.run (j := 3) 3 [0, 2, 11] [(0, .slice A 25 c), (2, pt p3 0), (11, .bool true)] (by kernel_rfl) rfl ?_
  refine GL.k rfl hK10 (fun _ _ h => h) ?_
  refine G.yes rfl ?_
  refine G.seqK fun K11 hK12 => ?_
  refine G.region ?_
  refine GL.run (j := 1) 1 [0, 2, 12] [(0, .slice A 25 c), (2, pt p3 0), (12, .slice A 25 c)] (by kernel_rfl) rfl ?_
  refine GL.sem (j := 2) (run_sliceSl (P := Try.prog) (lo := some (.int .i64 3)) (hi := some (.int .i64 23)) (t := 38) (len := 25) (cap := c) (A := A) (l := 3) (h := 23) (by kernel_rfl) (Or.inr ⟨_, _, rfl, rfl⟩) (Or.inr ⟨_, _, rfl, rfl⟩) (by omega) (by omega)) [0, 2, 13] [(0, .slice A 25 c), (2, pt p3 0), (13, .slice (if c = 3 then A else Option.map (fun x => Addr.add x 3) A) 20 (c - 3))] (by kernel_rfl) (by kernel_rfl) rfl ?_
  refine GL.sem (j := 3) (run_s2a (P := Try.prog) (t := 28) (len := 20) (cap := (c - 3)) (n := 20) (A := (if c = 3 then A else Option.map (fun x => Addr.add x 3) A)) (by kernel_rfl) (by omega)) [0, 2, 14] [(0, .slice A 25 c), (2, pt p3 0), (14, .pointer (if c = 3 then A else Option.map (fun x => Addr.add x 3) A))] (by kernel_rfl) (by kernel_rfl) rfl ?_
  refine GL.sem (j := 4) (run_ldArr (P := Try.prog) (ty := 28) (m := 20) (A := (if c = 3 then A else Option.map (fun x => Addr.add x 3) A)) (xs := by8 ([x3, x4, x5, x6, x7, x8, x9, x10, x11, x12, x13, x14, x15, x16, x17, x18, x19, x20, x21, x22] : List UInt8)) (by kernel_rfl) (RdS.cut8 (cap := c) (hr.hp H6) 3 23 (cs := ([x3, x4, x5, x6, x7, x8, x9, x10, x11, x12, x13, x14, x15, x16, x17, x18, x19, x20, x21, x22] : List UInt8)) (by first | rfl | omega | (simp only [List.length_cons, List.length_nil, List.length_drop, List.length_take, List.length_append] <;> omega)) rfl) rfl (by decide)) [0, 2, 15] [(0, .slice A 25 c), (2, pt p3 0), (15, .agg #[.int .u8 (x3.toNat : Int), .int .u8 (x4.toNat : Int), .int .u8 (x5.toNat : Int), .int .u8 (x6.toNat : Int), .int .u8 (x7.toNat : Int), .int .u8 (x8.toNat : Int), .int .u8 (x9.toNat : Int), .int .u8 (x10.toNat : Int), .int .u8 (x11.toNat : Int), .int .u8 (x12.toNat : Int), .int .u8 (x13.toNat : Int), .int .u8 (x14.toNat : Int), .int .u8 (x15.toNat : Int), .int .u8 (x16.toNat : Int), .int .u8 (x17.toNat : Int), .int .u8 (x18.toNat : Int), .int .u8 (x19.toNat : Int), .int .u8 (x20.toNat : Int), .int .u8 (x21.toNat : Int), .int .u8 (x22.toNat : Int)])] (by kernel_rfl) (by kernel_rfl) rfl ?_
  refine GL.run (j := 5) 1 [0, 2, 16] [(0, .slice A 25 c), (2, pt p3 0), (16, .agg #[.int .i64 1, .int .u8 (x3.toNat : Int), .int .u8 (x4.toNat : Int), .int .u8 (x5.toNat : Int), .int .u8 (x6.toNat : Int), .int .u8 (x7.toNat : Int), .int .u8 (x8.toNat : Int), .int .u8 (x9.toNat : Int), .int .u8 (x10.toNat : Int), .int .u8 (x11.toNat : Int), .int .u8 (x12.toNat : Int), .int .u8 (x13.toNat : Int), .int .u8 (x14.toNat : Int), .int .u8 (x15.toNat : Int), .int .u8 (x16.toNat : Int), .int .u8 (x17.toNat : Int), .int .u8 (x18.toNat : Int), .int .u8 (x19.toNat : Int), .int .u8 (x20.toNat : Int), .int .u8 (x21.toNat : Int), .int .u8 (x22.toNat : Int), .slice none 0 0])] (by kernel_rfl) rfl ?_
  obtain ⟨p13, w14, r15, H16⟩ := H6.alloc (P := Try.prog) 43 [.int .i64 0, .int .u8 0, .int .u8 0, .int .u8 0, .int .u8 0, .int .u8 0, .int .u8 0, .int .u8 0, .int .u8 0, .int .u8 0, .int .u8 0, .int .u8 0, .int .u8 0, .int .u8 0, .int .u8 0, .int .u8 0, .int .u8 0, .int .u8 0, .int .u8 0, .int .u8 0, .int .u8 0, .slice none 0 0] (by kernel_rfl)
  have H16 : Hp w [] [.blk p3 [.int .i64 0, .int .u8 0, .int .u8 0, .int .u8 0, .int .u8 0, .int .u8 0, .int .u8 0, .int .u8 0, .int .u8 0, .int .u8 0, .int .u8 0, .int .u8 0, .int .u8 0, .int .u8 0, .int .u8 0, .int .u8 0, .int .u8 0, .int .u8 0, .int .u8 0, .int .u8 0, .int .u8 0, .slice none 0 0] 43, .blk p13 [.int .i64 0, .int .u8 0, .int .u8 0, .int .u8 0, .int .u8 0, .int .u8 0, .int .u8 0, .int .u8 0, .int .u8 0, .int .u8 0, .int .u8 0, .int .u8 0, .int .u8 0, .int .u8 0, .int .u8 0, .int .u8 0, .int .u8 0, .int .u8 0, .int .u8 0, .int .u8 0, .int .u8 0, .slice none 0 0] 43] w14 := H16
  refine GL.sem (j := 6) (r15) [0, 2, 3, 16] [(0, .slice A 25 c), (2, pt p3 0), (3, pt p13 0), (16, .agg #[.int .i64 1, .int .u8 (x3.toNat : Int), .int .u8 (x4.toNat : Int), .int .u8 (x5.toNat : Int), .int .u8 (x6.toNat : Int), .int .u8 (x7.toNat : Int), .int .u8 (x8.toNat : Int), .int .u8 (x9.toNat : Int), .int .u8 (x10.toNat : Int), .int .u8 (x11.toNat : Int), .int .u8 (x12.toNat : Int), .int .u8 (x13.toNat : Int), .int .u8 (x14.toNat : Int), .int .u8 (x15.toNat : Int), .int .u8 (x16.toNat : Int), .int .u8 (x17.toNat : Int), .int .u8 (x18.toNat : Int), .int .u8 (x19.toNat : Int), .int .u8 (x20.toNat : Int), .int .u8 (x21.toNat : Int), .int .u8 (x22.toNat : Int), .slice none 0 0])] (by kernel_rfl) (by kernel_rfl) rfl ?_
  obtain ⟨w17, r18, H19⟩ := H16.stA (P := Try.prog) (o := 0) (vs := [.int .i64 1, .int .u8 (x3.toNat : Int), .int .u8 (x4.toNat : Int), .int .u8 (x5.toNat : Int), .int .u8 (x6.toNat : Int), .int .u8 (x7.toNat : Int), .int .u8 (x8.toNat : Int), .int .u8 (x9.toNat : Int), .int .u8 (x10.toNat : Int), .int .u8 (x11.toNat : Int), .int .u8 (x12.toNat : Int), .int .u8 (x13.toNat : Int), .int .u8 (x14.toNat : Int), .int .u8 (x15.toNat : Int), .int .u8 (x16.toNat : Int), .int .u8 (x17.toNat : Int), .int .u8 (x18.toNat : Int), .int .u8 (x19.toNat : Int), .int .u8 (x20.toNat : Int), .int .u8 (x21.toNat : Int), .int .u8 (x22.toNat : Int), .slice none 0 0]) (ty := 43) (m := 22) 1 rfl (by kernel_rfl) rfl (by simp) (by simp [Value.oneCell'])
  have H19 : Hp w [] [.blk p3 [.int .i64 0, .int .u8 0, .int .u8 0, .int .u8 0, .int .u8 0, .int .u8 0, .int .u8 0, .int .u8 0, .int .u8 0, .int .u8 0, .int .u8 0, .int .u8 0, .int .u8 0, .int .u8 0, .int .u8 0, .int .u8 0, .int .u8 0, .int .u8 0, .int .u8 0, .int .u8 0, .int .u8 0, .slice none 0 0] 43, .blk p13 [.int .i64 1, .int .u8 (x3.toNat : Int), .int .u8 (x4.toNat : Int), .int .u8 (x5.toNat : Int), .int .u8 (x6.toNat : Int), .int .u8 (x7.toNat : Int), .int .u8 (x8.toNat : Int), .int .u8 (x9.toNat : Int), .int .u8 (x10.toNat : Int), .int .u8 (x11.toNat : Int), .int .u8 (x12.toNat : Int), .int .u8 (x13.toNat : Int), .int .u8 (x14.toNat : Int), .int .u8 (x15.toNat : Int), .int .u8 (x16.toNat : Int), .int .u8 (x17.toNat : Int), .int .u8 (x18.toNat : Int), .int .u8 (x19.toNat : Int), .int .u8 (x20.toNat : Int), .int .u8 (x21.toNat : Int), .int .u8 (x22.toNat : Int), .slice none 0 0] 43] w17 := H19
  refine GL.semU (j := 7) r18 [0, 2, 3] [(0, .slice A 25 c), (2, pt p3 0), (3, pt p13 0)] (by kernel_rfl) rfl rfl rfl ?_
  refine GL.k rfl hK12 (fun _ _ h => h) ?_
  refine G.seqK fun K20 hK21 => ?_
  refine G.region ?_
  refine GL.sem (j := 1) (H19.ldA (o := 0) (ty := 43) (m := 22) (sub := [.int .i64 1, .int .u8 (x3.toNat : Int), .int .u8 (x4.toNat : Int), .int .u8 (x5.toNat : Int), .int .u8 (x6.toNat : Int), .int .u8 (x7.toNat : Int), .int .u8 (x8.toNat : Int), .int .u8 (x9.toNat : Int), .int .u8 (x10.toNat : Int), .int .u8 (x11.toNat : Int), .int .u8 (x12.toNat : Int), .int .u8 (x13.toNat : Int), .int .u8 (x14.toNat : Int), .int .u8 (x15.toNat : Int), .int .u8 (x16.toNat : Int), .int .u8 (x17.toNat : Int), .int .u8 (x18.toNat : Int), .int .u8 (x19.toNat : Int), .int .u8 (x20.toNat : Int), .int .u8 (x21.toNat : Int), .int .u8 (x22.toNat : Int), .slice none 0 0]) 1 rfl (by kernel_rfl) rfl rfl) [0, 2, 3, 18] [(0, .slice A 25 c), (2, pt p3 0), (3, pt p13 0), (18, .agg #[.int .i64 1, .int .u8 (x3.toNat : Int), .int .u8 (x4.toNat : Int), .int .u8 (x5.toNat : Int), .int .u8 (x6.toNat : Int), .int .u8 (x7.toNat : Int), .int .u8 (x8.toNat : Int), .int .u8 (x9.toNat : Int), .int .u8 (x10.toNat : Int), .int .u8 (x11.toNat : Int), .int .u8 (x12.toNat : Int), .int .u8 (x13.toNat : Int), .int .u8 (x14.toNat : Int), .int .u8 (x15.toNat : Int), .int .u8 (x16.toNat : Int), .int .u8 (x17.toNat : Int), .int .u8 (x18.toNat : Int), .int .u8 (x19.toNat : Int), .int .u8 (x20.toNat : Int), .int .u8 (x21.toNat : Int), .int .u8 (x22.toNat : Int), .slice none 0 0])] (by kernel_rfl) (by kernel_rfl) rfl ?_
  refine GL.call (j := 2) (Bytes_addr x3 x4 x5 x6 x7 x8 x9 x10 x11 x12 x13 x14 x15 x16 x17 x18 x19 x20 x21 x22 none 0 0 w17) (by kernel_rfl) rfl (fun e_ w26 hR => ?_)
  obtain ⟨A22, c23, rfl, H25⟩ := hR
  have H24 : Hp w [] [.blk p3 [.int .i64 0, .int .u8 0, .int .u8 0, .int .u8 0, .int .u8 0, .int .u8 0, .int .u8 0, .int .u8 0, .int .u8 0, .int .u8 0, .int .u8 0, .int .u8 0, .int .u8 0, .int .u8 0, .int .u8 0, .int .u8 0, .int .u8 0, .int .u8 0, .int .u8 0, .int .u8 0, .int .u8 0, .slice none 0 0] 43, .blk p13 [.int .i64 1, .int .u8 (x3.toNat : Int), .int .u8 (x4.toNat : Int), .int .u8 (x5.toNat : Int), .int .u8 (x6.toNat : Int), .int .u8 (x7.toNat : Int), .int .u8 (x8.toNat : Int), .int .u8 (x9.toNat : Int), .int .u8 (x10.toNat : Int), .int .u8 (x11.toNat : Int), .int .u8 (x12.toNat : Int), .int .u8 (x13.toNat : Int), .int .u8 (x14.toNat : Int), .int .u8 (x15.toNat : Int), .int .u8 (x16.toNat : Int), .int .u8 (x17.toNat : Int), .int .u8 (x18.toNat : Int), .int .u8 (x19.toNat : Int), .int .u8 (x20.toNat : Int), .int .u8 (x21.toNat : Int), .int .u8 (x22.toNat : Int), .slice none 0 0] 43, .row A22 (([118, 169, 20, x3, x4, x5, x6, x7, x8, x9, x10, x11, x12, x13, x14, x15, x16, x17, x18, x19, x20, x21, x22, 136, 172] : List UInt8).length) c23 5 1 (by8 ([118, 169, 20, x3, x4, x5, x6, x7, x8, x9, x10, x11, x12, x13, x14, x15, x16, x17, x18, x19, x20, x21, x22, 136, 172] : List UInt8))] w26 := H19.callNew H25
  refine ⟨_, rfl, [0, 2, 3, 19], [(0, .slice A 25 c), (2, pt p3 0), (3, pt p13 0), (19, .tuple #[.slice A22 (([118, 169, 20, x3, x4, x5, x6, x7, x8, x9, x10, x11, x12, x13, x14, x15, x16, x17, x18, x19, x20, x21, x22, 136, 172] : List UInt8).length) c23, .int .i64 0])], by kernel_rfl, ?_⟩
  refine GL.run (j := 7) 5 [0, 2, 3, 4, 5] [(0, .slice A 25 c), (2, pt p3 0), (3, pt p13 0), (4, .slice A22 (([118, 169, 20, x3, x4, x5, x6, x7, x8, x9, x10, x11, x12, x13, x14, x15, x16, x17, x18, x19, x20, x21, x22, 136, 172] : List UInt8).length) c23), (5, .int .i64 0)] (by kernel_rfl) rfl ?_
  refine GL.k rfl hK21 (fun _ _ h => h) ?_
  refine G.seqK fun K27 hK28 => ?_
  refine G.region ?_
  refine GL.run (j := 5) 5 [0, 2, 3, 24, 25, 26] [(0, .slice A 25 c), (2, pt p3 0), (3, pt p13 0), (24, .bool true), (25, .slice A22 (([118, 169, 20, x3, x4, x5, x6, x7, x8, x9, x10, x11, x12, x13, x14, x15, x16, x17, x18, x19, x20, x21, x22, 136, 172] : List UInt8).length) c23), (26, .slice A 25 c)] (by kernel_rfl) rfl ?_
  refine GL.call (j := 6) (Equal_calls ([118, 169, 20, x3, x4, x5, x6, x7, x8, x9, x10, x11, x12, x13, x14, x15, x16, x17, x18, x19, x20, x21, x22, 136, 172] : List UInt8) ([x0, x1, x2, x3, x4, x5, x6, x7, x8, x9, x10, x11, x12, x13, x14, x15, x16, x17, x18, x19, x20, x21, x22, x23, x24] : List UInt8) A22 A c23 c w26 (H24.rdRow 2 rfl) (hr.hp H24)) (by kernel_rfl) rfl (fun e_ w29 hR => ?_)
  obtain ⟨rfl, H31⟩ := hR
  have H30 : Hp w [] [.blk p3 [.int .i64 0, .int .u8 0, .int .u8 0, .int .u8 0, .int .u8 0, .int .u8 0, .int .u8 0, .int .u8 0, .int .u8 0, .int .u8 0, .int .u8 0, .int .u8 0, .int .u8 0, .int .u8 0, .int .u8 0, .int .u8 0, .int .u8 0, .int .u8 0, .int .u8 0, .int .u8 0, .int .u8 0, .slice none 0 0] 43, .blk p13 [.int .i64 1, .int .u8 (x3.toNat : Int), .int .u8 (x4.toNat : Int), .int .u8 (x5.toNat : Int), .int .u8 (x6.toNat : Int), .int .u8 (x7.toNat : Int), .int .u8 (x8.toNat : Int), .int .u8 (x9.toNat : Int), .int .u8 (x10.toNat : Int), .int .u8 (x11.toNat : Int), .int .u8 (x12.toNat : Int), .int .u8 (x13.toNat : Int), .int .u8 (x14.toNat : Int), .int .u8 (x15.toNat : Int), .int .u8 (x16.toNat : Int), .int .u8 (x17.toNat : Int), .int .u8 (x18.toNat : Int), .int .u8 (x19.toNat : Int), .int .u8 (x20.toNat : Int), .int .u8 (x21.toNat : Int), .int .u8 (x22.toNat : Int), .slice none 0 0] 43, .row A22 (([118, 169, 20, x3, x4, x5, x6, x7, x8, x9, x10, x11, x12, x13, x14, x15, x16, x17, x18, x19, x20, x21, x22, 136, 172] : List UInt8).length) c23 5 1 (by8 ([118, 169, 20, x3, x4, x5, x6, x7, x8, x9, x10, x11, x12, x13, x14, x15, x16, x17, x18, x19, x20, x21, x22, 136, 172] : List UInt8))] w29 := H24.callNil H31
  refine ⟨_, rfl, [0, 2, 3, 24, 27], [(0, .slice A 25 c), (2, pt p3 0), (3, pt p13 0), (24, .bool true), (27, .bool (([118, 169, 20, x3, x4, x5, x6, x7, x8, x9, x10, x11, x12, x13, x14, x15, x16, x17, x18, x19, x20, x21, x22, 136, 172] : List UInt8) == ([x0, x1, x2, x3, x4, x5, x6, x7, x8, x9, x10, x11, x12, x13, x14, x15, x16, x17, x18, x19, x20, x21, x22, x23, x24] : List UInt8)))], by kernel_rfl, ?_⟩
  refine GL.run (j := 7) 1 [0, 2, 3, 28] [(0, .slice A 25 c), (2, pt p3 0), (3, pt p13 0), (28, .bool (([118, 169, 20, x3, x4, x5, x6, x7, x8, x9, x10, x11, x12, x13, x14, x15, x16, x17, x18, x19, x20, x21, x22, 136, 172] : List UInt8) == ([x0, x1, x2, x3, x4, x5, x6, x7, x8, x9, x10, x11, x12, x13, x14, x15, x16, x17, x18, x19, x20, x21, x22, x23, x24] : List UInt8)))] (by kernel_rfl) rfl ?_
  refine GL.k rfl hK28 (fun _ _ h => h) ?_
  have hb32 : (([118, 169, 20, x3, x4, x5, x6, x7, x8, x9, x10, x11, x12, x13, x14, x15, x16, x17, x18, x19, x20, x21, x22, 136, 172] : List UInt8) == ([x0, x1, x2, x3, x4, x5, x6, x7, x8, x9, x10, x11, x12, x13, x14, x15, x16, x17, x18, x19, x20, x21, x22, x23, x24] : List UInt8)) = false := beq_eq_false_iff_ne.2 hna
  rw [hb32]
  refine G.no rfl ?_
  refine G.skipK hK8 (fun _ _ h => h) ?_
  refine G.seqK fun K33 hK34 => ?_
  refine G.seqK fun K35 hK36 => ?_
  refine G.region ?_
  refine GL.run (j := 3) 3 [0, 2, 32] [(0, .slice A 25 c), (2, pt p3 0), (32, .bool true)] (by kernel_rfl) rfl ?_
  refine GL.k rfl hK36 (fun _ _ h => h) ?_
  refine G.yes rfl ?_
  refine G.seqK fun K37 hK38 => ?_
  refine G.region ?_
  refine GL.run (j := 1) 1 [0, 2, 33] [(0, .slice A 25 c), (2, pt p3 0), (33, .slice A 25 c)] (by kernel_rfl) rfl ?_
  refine GL.sem (j := 2) (run_sliceSl (P := Try.prog) (lo := some (.int .i64 2)) (hi := none) (t := 38) (len := 25) (cap := c) (A := A) (l := 2) (h := 25) (by kernel_rfl) (Or.inr ⟨_, _, rfl, rfl⟩) (Or.inl ⟨rfl, rfl⟩) (by omega) (by omega)) [0, 2, 34] [(0, .slice A 25 c), (2, pt p3 0), (34, .slice (if c = 2 then A else Option.map (fun x => Addr.add x 2) A) 23 (c - 2))] (by kernel_rfl) (by kernel_rfl) rfl ?_
  refine GL.call (j := 3) (SClone_calls ([x2, x3, x4, x5, x6, x7, x8, x9, x10, x11, x12, x13, x14, x15, x16, x17, x18, x19, x20, x21, x22, x23, x24] : List UInt8) (if c = 2 then A else Option.map (fun x => Addr.add x 2) A) (c - 2) w29 (RdS.drop8 (cap := c) (hr.hp H30) 2 (cs := ([x2, x3, x4, x5, x6, x7, x8, x9, x10, x11, x12, x13, x14, x15, x16, x17, x18, x19, x20, x21, x22, x23, x24] : List UInt8)) (by first | rfl | omega | (simp only [List.length_cons, List.length_nil, List.length_drop, List.length_take, List.length_append] <;> omega)) rfl) (isNone_drop hr (by first | rfl | omega | (simp only [List.length_cons, List.length_nil, List.length_drop, List.length_take, List.length_append] <;> omega)) (by first | rfl | omega | (simp only [List.length_cons, List.length_nil, List.length_drop, List.length_take, List.length_append] <;> omega))) (by first | rfl | omega | (simp only [List.length_cons, List.length_nil, List.length_drop, List.length_take, List.length_append] <;> omega))) (by kernel_rfl) rfl (fun e_ w43 hR => ?_)
  obtain ⟨A39, c40, rfl, H42⟩ := hR
  have H41 : Hp w [] [.blk p3 [.int .i64 0, .int .u8 0, .int .u8 0, .int .u8 0, .int .u8 0, .int .u8 0, .int .u8 0, .int .u8 0, .int .u8 0, .int .u8 0, .int .u8 0, .int .u8 0, .int .u8 0, .int .u8 0, .int .u8 0, .int .u8 0, .int .u8 0, .int .u8 0, .int .u8 0, .int .u8 0, .int .u8 0, .slice none 0 0] 43, .blk p13 [.int .i64 1, .int .u8 (x3.toNat : Int), .int .u8 (x4.toNat : Int), .int .u8 (x5.toNat : Int), .int .u8 (x6.toNat : Int), .int .u8 (x7.toNat : Int), .int .u8 (x8.toNat : Int), .int .u8 (x9.toNat : Int), .int .u8 (x10.toNat : Int), .int .u8 (x11.toNat : Int), .int .u8 (x12.toNat : Int), .int .u8 (x13.toNat : Int), .int .u8 (x14.toNat : Int), .int .u8 (x15.toNat : Int), .int .u8 (x16.toNat : Int), .int .u8 (x17.toNat : Int), .int .u8 (x18.toNat : Int), .int .u8 (x19.toNat : Int), .int .u8 (x20.toNat : Int), .int .u8 (x21.toNat : Int), .int .u8 (x22.toNat : Int), .slice none 0 0] 43, .row A22 (([118, 169, 20, x3, x4, x5, x6, x7, x8, x9, x10, x11, x12, x13, x14, x15, x16, x17, x18, x19, x20, x21, x22, 136, 172] : List UInt8).length) c23 5 1 (by8 ([118, 169, 20, x3, x4, x5, x6, x7, x8, x9, x10, x11, x12, x13, x14, x15, x16, x17, x18, x19, x20, x21, x22, 136, 172] : List UInt8)), .row A39 23 c40 5 1 (by8 ([x2, x3, x4, x5, x6, x7, x8, x9, x10, x11, x12, x13, x14, x15, x16, x17, x18, x19, x20, x21, x22, x23, x24] : List UInt8))] w43 := H30.callNew H42
  refine ⟨_, rfl, [0, 2, 35], [(0, .slice A 25 c), (2, pt p3 0), (35, .slice A39 23 c40)], by kernel_rfl, ?_⟩
  refine GL.run (j := 4) 1 [0, 2, 36] [(0, .slice A 25 c), (2, pt p3 0), (36, .agg #[.int .i64 2, .int .u8 0, .int .u8 0, .int .u8 0, .int .u8 0, .int .u8 0, .int .u8 0, .int .u8 0, .int .u8 0, .int .u8 0, .int .u8 0, .int .u8 0, .int .u8 0, .int .u8 0, .int .u8 0, .int .u8 0, .int .u8 0, .int .u8 0, .int .u8 0, .int .u8 0, .int .u8 0, .slice A39 23 c40])] (by kernel_rfl) rfl ?_
  obtain ⟨p44, w45, r46, H47⟩ := H41.alloc (P := Try.prog) 43 [.int .i64 0, .int .u8 0, .int .u8 0, .int .u8 0, .int .u8 0, .int .u8 0, .int .u8 0, .int .u8 0, .int .u8 0, .int .u8 0, .int .u8 0, .int .u8 0, .int .u8 0, .int .u8 0, .int .u8 0, .int .u8 0, .int .u8 0, .int .u8 0, .int .u8 0, .int .u8 0, .int .u8 0, .slice none 0 0] (by kernel_rfl)
  have H47 : Hp w [] [.blk p3 [.int .i64 0, .int .u8 0, .int .u8 0, .int .u8 0, .int .u8 0, .int .u8 0, .int .u8 0, .int .u8 0, .int .u8 0, .int .u8 0, .int .u8 0, .int .u8 0, .int .u8 0, .int .u8 0, .int .u8 0, .int .u8 0, .int .u8 0, .int .u8 0, .int .u8 0, .int .u8 0, .int .u8 0, .slice none 0 0] 43, .blk p13 [.int .i64 1, .int .u8 (x3.toNat : Int), .int .u8 (x4.toNat : Int), .int .u8 (x5.toNat : Int), .int .u8 (x6.toNat : Int), .int .u8 (x7.toNat : Int), .int .u8 (x8.toNat : Int), .int .u8 (x9.toNat : Int), .int .u8 (x10.toNat : Int), .int .u8 (x11.toNat : Int), .int .u8 (x12.toNat : Int), .int .u8 (x13.toNat : Int), .int .u8 (x14.toNat : Int), .int .u8 (x15.toNat : Int), .int .u8 (x16.toNat : Int), .int .u8 (x17.toNat : Int), .int .u8 (x18.toNat : Int), .int .u8 (x19.toNat : Int), .int .u8 (x20.toNat : Int), .int .u8 (x21.toNat : Int), .int .u8 (x22.toNat : Int), .slice none 0 0] 43, .row A22 (([118, 169, 20, x3, x4, x5, x6, x7, x8, x9, x10, x11, x12, x13, x14, x15, x16, x17, x18, x19, x20, x21, x22, 136, 172] : List UInt8).length) c23 5 1 (by8 ([118, 169, 20, x3, x4, x5, x6, x7, x8, x9, x10, x11, x12, x13, x14, x15, x16, x17, x18, x19, x20, x21, x22, 136, 172] : List UInt8)), .row A39 23 c40 5 1 (by8 ([x2, x3, x4, x5, x6, x7, x8, x9, x10, x11, x12, x13, x14, x15, x16, x17, x18, x19, x20, x21, x22, x23, x24] : List UInt8)), .blk p44 [.int .i64 0, .int .u8 0, .int .u8 0, .int .u8 0, .int .u8 0, .int .u8 0, .int .u8 0, .int .u8 0, .int .u8 0, .int .u8 0, .int .u8 0, .int .u8 0, .int .u8 0, .int .u8 0, .int .u8 0, .int .u8 0, .int .u8 0, .int .u8 0, .int .u8 0, .int .u8 0, .int .u8 0, .slice none 0 0] 43] w45 := H47
  refine GL.sem (j := 5) (r46) [0, 2, 6, 36] [(0, .slice A 25 c), (2, pt p3 0), (6, pt p44 0), (36, .agg #[.int .i64 2, .int .u8 0, .int .u8 0, .int .u8 0, .int .u8 0, .int .u8 0, .int .u8 0, .int .u8 0, .int .u8 0, .int .u8 0, .int .u8 0, .int .u8 0, .int .u8 0, .int .u8 0, .int .u8 0, .int .u8 0, .int .u8 0, .int .u8 0, .int .u8 0, .int .u8 0, .int .u8 0, .slice A39 23 c40])] (by kernel_rfl) (by kernel_rfl) rfl ?_
  obtain ⟨w48, r49, H50⟩ := H47.stA (P := Try.prog) (o := 0) (vs := [.int .i64 2, .int .u8 0, .int .u8 0, .int .u8 0, .int .u8 0, .int .u8 0, .int .u8 0, .int .u8 0, .int .u8 0, .int .u8 0, .int .u8 0, .int .u8 0, .int .u8 0, .int .u8 0, .int .u8 0, .int .u8 0, .int .u8 0, .int .u8 0, .int .u8 0, .int .u8 0, .int .u8 0, .slice A39 23 c40]) (ty := 43) (m := 22) 4 rfl (by kernel_rfl) rfl (by simp) (by simp [Value.oneCell'])
  have H50 : Hp w [] [.blk p3 [.int .i64 0, .int .u8 0, .int .u8 0, .int .u8 0, .int .u8 0, .int .u8 0, .int .u8 0, .int .u8 0, .int .u8 0, .int .u8 0, .int .u8 0, .int .u8 0, .int .u8 0, .int .u8 0, .int .u8 0, .int .u8 0, .int .u8 0, .int .u8 0, .int .u8 0, .int .u8 0, .int .u8 0, .slice none 0 0] 43, .blk p13 [.int .i64 1, .int .u8 (x3.toNat : Int), .int .u8 (x4.toNat : Int), .int .u8 (x5.toNat : Int), .int .u8 (x6.toNat : Int), .int .u8 (x7.toNat : Int), .int .u8 (x8.toNat : Int), .int .u8 (x9.toNat : Int), .int .u8 (x10.toNat : Int), .int .u8 (x11.toNat : Int), .int .u8 (x12.toNat : Int), .int .u8 (x13.toNat : Int), .int .u8 (x14.toNat : Int), .int .u8 (x15.toNat : Int), .int .u8 (x16.toNat : Int), .int .u8 (x17.toNat : Int), .int .u8 (x18.toNat : Int), .int .u8 (x19.toNat : Int), .int .u8 (x20.toNat : Int), .int .u8 (x21.toNat : Int), .int .u8 (x22.toNat : Int), .slice none 0 0] 43, .row A22 (([118, 169, 20, x3, x4, x5, x6, x7, x8, x9, x10, x11, x12, x13, x14, x15, x16, x17, x18, x19, x20, x21, x22, 136, 172] : List UInt8).length) c23 5 1 (by8 ([118, 169, 20, x3, x4, x5, x6, x7, x8, x9, x10, x11, x12, x13, x14, x15, x16, x17, x18, x19, x20, x21, x22, 136, 172] : List UInt8)), .row A39 23 c40 5 1 (by8 ([x2, x3, x4, x5, x6, x7, x8, x9, x10, x11, x12, x13, x14, x15, x16, x17, x18, x19, x20, x21, x22, x23, x24] : List UInt8)), .blk p44 [.int .i64 2, .int .u8 0, .int .u8 0, .int .u8 0, .int .u8 0, .int .u8 0, .int .u8 0, .int .u8 0, .int .u8 0, .int .u8 0, .int .u8 0, .int .u8 0, .int .u8 0, .int .u8 0, .int .u8 0, .int .u8 0, .int .u8 0, .int .u8 0, .int .u8 0, .int .u8 0, .int .u8 0, .slice A39 23 c40] 43] w48 := H50
  refine GL.semU (j := 6) r49 [0, 2, 6] [(0, .slice A 25 c), (2, pt p3 0), (6, pt p44 0)] (by kernel_rfl) rfl rfl rfl ?_
  refine GL.k rfl hK38 (fun _ _ h => h) ?_
  refine G.seqK fun K51 hK52 => ?_
  refine G.region ?_
  refine GL.sem (j := 1) (H50.ldA (o := 0) (ty := 43) (m := 22) (sub := [.int .i64 2, .int .u8 0, .int .u8 0, .int .u8 0, .int .u8 0, .int .u8 0, .int .u8 0, .int .u8 0, .int .u8 0, .int .u8 0, .int .u8 0, .int .u8 0, .int .u8 0, .int .u8 0, .int .u8 0, .int .u8 0, .int .u8 0, .int .u8 0, .int .u8 0, .int .u8 0, .int .u8 0, .slice A39 23 c40]) 4 rfl (by kernel_rfl) rfl rfl) [0, 2, 6, 38] [(0, .slice A 25 c), (2, pt p3 0), (6, pt p44 0), (38, .agg #[.int .i64 2, .int .u8 0, .int .u8 0, .int .u8 0, .int .u8 0, .int .u8 0, .int .u8 0, .int .u8 0, .int .u8 0, .int .u8 0, .int .u8 0, .int .u8 0, .int .u8 0, .int .u8 0, .int .u8 0, .int .u8 0, .int .u8 0, .int .u8 0, .int .u8 0, .int .u8 0, .int .u8 0, .slice A39 23 c40])] (by kernel_rfl) (by kernel_rfl) rfl ?_
  refine GL.call (j := 2) (Bytes_tag (0 : UInt8) (0 : UInt8) (0 : UInt8) (0 : UInt8) (0 : UInt8) (0 : UInt8) (0 : UInt8) (0 : UInt8) (0 : UInt8) (0 : UInt8) (0 : UInt8) (0 : UInt8) (0 : UInt8) (0 : UInt8) (0 : UInt8) (0 : UInt8) (0 : UInt8) (0 : UInt8) (0 : UInt8) (0 : UInt8) ([x2, x3, x4, x5, x6, x7, x8, x9, x10, x11, x12, x13, x14, x15, x16, x17, x18, x19, x20, x21, x22, x23, x24] : List UInt8) A39 c40 w48 (H50.rdRow 3 rfl) (by simp) (by simp)) (by kernel_rfl) rfl (fun e_ w57 hR => ?_)
  obtain ⟨A53, c54, rfl, H56⟩ := hR
  have H55 : Hp w [] [.blk p3 [.int .i64 0, .int .u8 0, .int .u8 0, .int .u8 0, .int .u8 0, .int .u8 0, .int .u8 0, .int .u8 0, .int .u8 0, .int .u8 0, .int .u8 0, .int .u8 0, .int .u8 0, .int .u8 0, .int .u8 0, .int .u8 0, .int .u8 0, .int .u8 0, .int .u8 0, .int .u8 0, .int .u8 0, .slice none 0 0] 43, .blk p13 [.int .i64 1, .int .u8 (x3.toNat : Int), .int .u8 (x4.toNat : Int), .int .u8 (x5.toNat : Int), .int .u8 (x6.toNat : Int), .int .u8 (x7.toNat : Int), .int .u8 (x8.toNat : Int), .int .u8 (x9.toNat : Int), .int .u8 (x10.toNat : Int), .int .u8 (x11.toNat : Int), .int .u8 (x12.toNat : Int), .int .u8 (x13.toNat : Int), .int .u8 (x14.toNat : Int), .int .u8 (x15.toNat : Int), .int .u8 (x16.toNat : Int), .int .u8 (x17.toNat : Int), .int .u8 (x18.toNat : Int), .int .u8 (x19.toNat : Int), .int .u8 (x20.toNat : Int), .int .u8 (x21.toNat : Int), .int .u8 (x22.toNat : Int), .slice none 0 0] 43, .row A22 (([118, 169, 20, x3, x4, x5, x6, x7, x8, x9, x10, x11, x12, x13, x14, x15, x16, x17, x18, x19, x20, x21, x22, 136, 172] : List UInt8).length) c23 5 1 (by8 ([118, 169, 20, x3, x4, x5, x6, x7, x8, x9, x10, x11, x12, x13, x14, x15, x16, x17, x18, x19, x20, x21, x22, 136, 172] : List UInt8)), .row A39 23 c40 5 1 (by8 ([x2, x3, x4, x5, x6, x7, x8, x9, x10, x11, x12, x13, x14, x15, x16, x17, x18, x19, x20, x21, x22, x23, x24] : List UInt8)), .blk p44 [.int .i64 2, .int .u8 0, .int .u8 0, .int .u8 0, .int .u8 0, .int .u8 0, .int .u8 0, .int .u8 0, .int .u8 0, .int .u8 0, .int .u8 0, .int .u8 0, .int .u8 0, .int .u8 0, .int .u8 0, .int .u8 0, .int .u8 0, .int .u8 0, .int .u8 0, .int .u8 0, .int .u8 0, .slice A39 23 c40] 43, .row A53 ((106 :: UInt8.ofNat ([x2, x3, x4, x5, x6, x7, x8, x9, x10, x11, x12, x13, x14, x15, x16, x17, x18, x19, x20, x21, x22, x23, x24] : List UInt8).length :: ([x2, x3, x4, x5, x6, x7, x8, x9, x10, x11, x12, x13, x14, x15, x16, x17, x18, x19, x20, x21, x22, x23, x24] : List UInt8)).length) c54 5 1 (by8 (106 :: UInt8.ofNat ([x2, x3, x4, x5, x6, x7, x8, x9, x10, x11, x12, x13, x14, x15, x16, x17, x18, x19, x20, x21, x22, x23, x24] : List UInt8).length :: ([x2, x3, x4, x5, x6, x7, x8, x9, x10, x11, x12, x13, x14, x15, x16, x17, x18, x19, x20, x21, x22, x23, x24] : List UInt8)))] w57 := H50.callNew H56
  refine ⟨_, rfl, [0, 2, 6, 39], [(0, .slice A 25 c), (2, pt p3 0), (6, pt p44 0), (39, .tuple #[.slice A53 ((106 :: UInt8.ofNat ([x2, x3, x4, x5, x6, x7, x8, x9, x10, x11, x12, x13, x14, x15, x16, x17, x18, x19, x20, x21, x22, x23, x24] : List UInt8).length :: ([x2, x3, x4, x5, x6, x7, x8, x9, x10, x11, x12, x13, x14, x15, x16, x17, x18, x19, x20, x21, x22, x23, x24] : List UInt8)).length) c54, .int .i64 0])], by kernel_rfl, ?_⟩
  refine GL.run (j := 7) 5 [0, 2, 6, 7, 8] [(0, .slice A 25 c), (2, pt p3 0), (6, pt p44 0), (7, .slice A53 ((106 :: UInt8.ofNat ([x2, x3, x4, x5, x6, x7, x8, x9, x10, x11, x12, x13, x14, x15, x16, x17, x18, x19, x20, x21, x22, x23, x24] : List UInt8).length :: ([x2, x3, x4, x5, x6, x7, x8, x9, x10, x11, x12, x13, x14, x15, x16, x17, x18, x19, x20, x21, x22, x23, x24] : List UInt8)).length) c54), (8, .int .i64 0)] (by kernel_rfl) rfl ?_
  refine GL.k rfl hK52 (fun _ _ h => h) ?_
  refine G.seqK fun K58 hK59 => ?_
  refine G.region ?_
  refine GL.run (j := 5) 5 [2, 6, 44, 45, 46] [(2, pt p3 0), (6, pt p44 0), (44, .bool true), (45, .slice A53 ((106 :: UInt8.ofNat ([x2, x3, x4, x5, x6, x7, x8, x9, x10, x11, x12, x13, x14, x15, x16, x17, x18, x19, x20, x21, x22, x23, x24] : List UInt8).length :: ([x2, x3, x4, x5, x6, x7, x8, x9, x10, x11, x12, x13, x14, x15, x16, x17, x18, x19, x20, x21, x22, x23, x24] : List UInt8)).length) c54), (46, .slice A 25 c)] (by kernel_rfl) rfl ?_
  refine GL.call (j := 6) (Equal_calls (106 :: UInt8.ofNat ([x2, x3, x4, x5, x6, x7, x8, x9, x10, x11, x12, x13, x14, x15, x16, x17, x18, x19, x20, x21, x22, x23, x24] : List UInt8).length :: ([x2, x3, x4, x5, x6, x7, x8, x9, x10, x11, x12, x13, x14, x15, x16, x17, x18, x19, x20, x21, x22, x23, x24] : List UInt8)) ([x0, x1, x2, x3, x4, x5, x6, x7, x8, x9, x10, x11, x12, x13, x14, x15, x16, x17, x18, x19, x20, x21, x22, x23, x24] : List UInt8) A53 A c54 c w57 (H55.rdRow 5 rfl) (hr.hp H55)) (by kernel_rfl) rfl (fun e_ w60 hR => ?_)
  obtain ⟨rfl, H62⟩ := hR
  have H61 : Hp w [] [.blk p3 [.int .i64 0, .int .u8 0, .int .u8 0, .int .u8 0, .int .u8 0, .int .u8 0, .int .u8 0, .int .u8 0, .int .u8 0, .int .u8 0, .int .u8 0, .int .u8 0, .int .u8 0, .int .u8 0, .int .u8 0, .int .u8 0, .int .u8 0, .int .u8 0, .int .u8 0, .int .u8 0, .int .u8 0, .slice none 0 0] 43, .blk p13 [.int .i64 1, .int .u8 (x3.toNat : Int), .int .u8 (x4.toNat : Int), .int .u8 (x5.toNat : Int), .int .u8 (x6.toNat : Int), .int .u8 (x7.toNat : Int), .int .u8 (x8.toNat : Int), .int .u8 (x9.toNat : Int), .int .u8 (x10.toNat : Int), .int .u8 (x11.toNat : Int), .int .u8 (x12.toNat : Int), .int .u8 (x13.toNat : Int), .int .u8 (x14.toNat : Int), .int .u8 (x15.toNat : Int), .int .u8 (x16.toNat : Int), .int .u8 (x17.toNat : Int), .int .u8 (x18.toNat : Int), .int .u8 (x19.toNat : Int), .int .u8 (x20.toNat : Int), .int .u8 (x21.toNat : Int), .int .u8 (x22.toNat : Int), .slice none 0 0] 43, .row A22 (([118, 169, 20, x3, x4, x5, x6, x7, x8, x9, x10, x11, x12, x13, x14, x15, x16, x17, x18, x19, x20, x21, x22, 136, 172] : List UInt8).length) c23 5 1 (by8 ([118, 169, 20, x3, x4, x5, x6, x7, x8, x9, x10, x11, x12, x13, x14, x15, x16, x17, x18, x19, x20, x21, x22, 136, 172] : List UInt8)), .row A39 23 c40 5 1 (by8 ([x2, x3, x4, x5, x6, x7, x8, x9, x10, x11, x12, x13, x14, x15, x16, x17, x18, x19, x20, x21, x22, x23, x24] : List UInt8)), .blk p44 [.int .i64 2, .int .u8 0, .int .u8 0, .int .u8 0, .int .u8 0, .int .u8 0, .int .u8 0, .int .u8 0, .int .u8 0, .int .u8 0, .int .u8 0, .int .u8 0, .int .u8 0, .int .u8 0, .int .u8 0, .int .u8 0, .int .u8 0, .int .u8 0, .int .u8 0, .int .u8 0, .int .u8 0, .slice A39 23 c40] 43, .row A53 ((106 :: UInt8.ofNat ([x2, x3, x4, x5, x6, x7, x8, x9, x10, x11, x12, x13, x14, x15, x16, x17, x18, x19, x20, x21, x22, x23, x24] : List UInt8).length :: ([x2, x3, x4, x5, x6, x7, x8, x9, x10, x11, x12, x13, x14, x15, x16, x17, x18, x19, x20, x21, x22, x23, x24] : List UInt8)).length) c54 5 1 (by8 (106 :: UInt8.ofNat ([x2, x3, x4, x5, x6, x7, x8, x9, x10, x11, x12, x13, x14, x15, x16, x17, x18, x19, x20, x21, x22, x23, x24] : List UInt8).length :: ([x2, x3, x4, x5, x6, x7, x8, x9, x10, x11, x12, x13, x14, x15, x16, x17, x18, x19, x20, x21, x22, x23, x24] : List UInt8)))] w60 := H55.callNil H62
  refine ⟨_, rfl, [2, 6, 44, 47], [(2, pt p3 0), (6, pt p44 0), (44, .bool true), (47, .bool ((106 :: UInt8.ofNat ([x2, x3, x4, x5, x6, x7, x8, x9, x10, x11, x12, x13, x14, x15, x16, x17, x18, x19, x20, x21, x22, x23, x24] : List UInt8).length :: ([x2, x3, x4, x5, x6, x7, x8, x9, x10, x11, x12, x13, x14, x15, x16, x17, x18, x19, x20, x21, x22, x23, x24] : List UInt8)) == ([x0, x1, x2, x3, x4, x5, x6, x7, x8, x9, x10, x11, x12, x13, x14, x15, x16, x17, x18, x19, x20, x21, x22, x23, x24] : List UInt8)))], by kernel_rfl, ?_⟩
  refine GL.run (j := 7) 1 [2, 6, 48] [(2, pt p3 0), (6, pt p44 0), (48, .bool ((106 :: UInt8.ofNat ([x2, x3, x4, x5, x6, x7, x8, x9, x10, x11, x12, x13, x14, x15, x16, x17, x18, x19, x20, x21, x22, x23, x24] : List UInt8).length :: ([x2, x3, x4, x5, x6, x7, x8, x9, x10, x11, x12, x13, x14, x15, x16, x17, x18, x19, x20, x21, x22, x23, x24] : List UInt8)) == ([x0, x1, x2, x3, x4, x5, x6, x7, x8, x9, x10, x11, x12, x13, x14, x15, x16, x17, x18, x19, x20, x21, x22, x23, x24] : List UInt8)))] (by kernel_rfl) rfl ?_
  refine GL.k rfl hK59 (fun _ _ h => h) ?_
  have hb63 : ((106 :: UInt8.ofNat ([x2, x3, x4, x5, x6, x7, x8, x9, x10, x11, x12, x13, x14, x15, x16, x17, x18, x19, x20, x21, x22, x23, x24] : List UInt8).length :: ([x2, x3, x4, x5, x6, x7, x8, x9, x10, x11, x12, x13, x14, x15, x16, x17, x18, x19, x20, x21, x22, x23, x24] : List UInt8)) == ([x0, x1, x2, x3, x4, x5, x6, x7, x8, x9, x10, x11, x12, x13, x14, x15, x16, x17, x18, x19, x20, x21, x22, x23, x24] : List UInt8)) = false := beq_eq_false_iff_ne.2 hnt
  rw [hb63]
  refine G.no rfl ?_
  refine G.skipK hK34 (fun _ _ h => h) ?_
  refine G.seqK fun K64 hK65 => ?_
  refine G.region ?_
  refine GL.run (j := 1) 1 [2, 50] [(2, pt p3 0), (50, .agg #[.int .i64 0, .int .u8 0, .int .u8 0, .int .u8 0, .int .u8 0, .int .u8 0, .int .u8 0, .int .u8 0, .int .u8 0, .int .u8 0, .int .u8 0, .int .u8 0, .int .u8 0, .int .u8 0, .int .u8 0, .int .u8 0, .int .u8 0, .int .u8 0, .int .u8 0, .int .u8 0, .int .u8 0, .slice none 0 0])] (by kernel_rfl) rfl ?_
  obtain ⟨w66, r67, H68⟩ := H61.stA (P := Try.prog) (o := 0) (vs := [.int .i64 0, .int .u8 0, .int .u8 0, .int .u8 0, .int .u8 0, .int .u8 0, .int .u8 0, .int .u8 0, .int .u8 0, .int .u8 0, .int .u8 0, .int .u8 0, .int .u8 0, .int .u8 0, .int .u8 0, .int .u8 0, .int .u8 0, .int .u8 0, .int .u8 0, .int .u8 0, .int .u8 0, .slice none 0 0]) (ty := 43) (m := 22) 0 rfl (by kernel_rfl) rfl (by simp) (by simp [Value.oneCell'])
  have H68 : Hp w [] [.blk p3 [.int .i64 0, .int .u8 0, .int .u8 0, .int .u8 0, .int .u8 0, .int .u8 0, .int .u8 0, .int .u8 0, .int .u8 0, .int .u8 0, .int .u8 0, .int .u8 0, .int .u8 0, .int .u8 0, .int .u8 0, .int .u8 0, .int .u8 0, .int .u8 0, .int .u8 0, .int .u8 0, .int .u8 0, .slice none 0 0] 43, .blk p13 [.int .i64 1, .int .u8 (x3.toNat : Int), .int .u8 (x4.toNat : Int), .int .u8 (x5.toNat : Int), .int .u8 (x6.toNat : Int), .int .u8 (x7.toNat : Int), .int .u8 (x8.toNat : Int), .int .u8 (x9.toNat : Int), .int .u8 (x10.toNat : Int), .int .u8 (x11.toNat : Int), .int .u8 (x12.toNat : Int), .int .u8 (x13.toNat : Int), .int .u8 (x14.toNat : Int), .int .u8 (x15.toNat : Int), .int .u8 (x16.toNat : Int), .int .u8 (x17.toNat : Int), .int .u8 (x18.toNat : Int), .int .u8 (x19.toNat : Int), .int .u8 (x20.toNat : Int), .int .u8 (x21.toNat : Int), .int .u8 (x22.toNat : Int), .slice none 0 0] 43, .row A22 (([118, 169, 20, x3, x4, x5, x6, x7, x8, x9, x10, x11, x12, x13, x14, x15, x16, x17, x18, x19, x20, x21, x22, 136, 172] : List UInt8).length) c23 5 1 (by8 ([118, 169, 20, x3, x4, x5, x6, x7, x8, x9, x10, x11, x12, x13, x14, x15, x16, x17, x18, x19, x20, x21, x22, 136, 172] : List UInt8)), .row A39 23 c40 5 1 (by8 ([x2, x3, x4, x5, x6, x7, x8, x9, x10, x11, x12, x13, x14, x15, x16, x17, x18, x19, x20, x21, x22, x23, x24] : List UInt8)), .blk p44 [.int .i64 2, .int .u8 0, .int .u8 0, .int .u8 0, .int .u8 0, .int .u8 0, .int .u8 0, .int .u8 0, .int .u8 0, .int .u8 0, .int .u8 0, .int .u8 0, .int .u8 0, .int .u8 0, .int .u8 0, .int .u8 0, .int .u8 0, .int .u8 0, .int .u8 0, .int .u8 0, .int .u8 0, .slice A39 23 c40] 43, .row A53 ((106 :: UInt8.ofNat ([x2, x3, x4, x5, x6, x7, x8, x9, x10, x11, x12, x13, x14, x15, x16, x17, x18, x19, x20, x21, x22, x23, x24] : List UInt8).length :: ([x2, x3, x4, x5, x6, x7, x8, x9, x10, x11, x12, x13, x14, x15, x16, x17, x18, x19, x20, x21, x22, x23, x24] : List UInt8)).length) c54 5 1 (by8 (106 :: UInt8.ofNat ([x2, x3, x4, x5, x6, x7, x8, x9, x10, x11, x12, x13, x14, x15, x16, x17, x18, x19, x20, x21, x22, x23, x24] : List UInt8).length :: ([x2, x3, x4, x5, x6, x7, x8, x9, x10, x11, x12, x13, x14, x15, x16, x17, x18, x19, x20, x21, x22, x23, x24] : List UInt8)))] w66 := H68
  refine GL.semU (j := 2) r67 [2] [(2, pt p3 0)] (by kernel_rfl) rfl rfl rfl ?_
  refine GL.k rfl hK65 (fun _ _ h => h) ?_
  refine G.ret ?_
  intro F_ hF_ hM_
  refine hRet _ _ (bodyPost_1 rfl (RV.cell rfl (H68.ldA (o := 0) (ty := 43) (m := 22) (sub := [.int .i64 0, .int .u8 0, .int .u8 0, .int .u8 0, .int .u8 0, .int .u8 0, .int .u8 0, .int .u8 0, .int .u8 0, .int .u8 0, .int .u8 0, .int .u8 0, .int .u8 0, .int .u8 0, .int .u8 0, .int .u8 0, .int .u8 0, .int .u8 0, .int .u8 0, .int .u8 0, .int .u8 0, .slice none 0 0]) 0 rfl (by kernel_rfl) rfl rfl)) ?_ F_ hF_ hM_)
  exact ⟨rfl, H68.sub (List.nil_sublist _)⟩
def addrB (f : Nat → UInt8) : List UInt8 := [118, 169, 20, f 0, f 1, f 2, f 3, f 4, f 5, f 6, f 7, f 8, f 9, f 10, f 11, f 12, f 13, f 14, f 15, f 16, f 17, f 18, f 19, 136, 172]
def tagB (t : List UInt8) : List UInt8 := 106 :: UInt8.ofNat t.length :: t
theorem lit_of (t : List UInt8) (n : Nat) (h : t.length = n) : ∃ f : Nat → UInt8, t = (List.range n).map f := by
  refine ⟨fun i => t.getD i 0, List.ext_getElem? fun i => ?_⟩
  by_cases hi : i < n
  · rw [List.getElem?_eq_getElem (by omega)]
    simp [hi, List.getD, List.getElem?_eq_getElem (show i < t.length by omega)]
  · rw [List.getElem?_eq_none (by omega), List.getElem?_eq_none (by simp; omega)]
theorem Parse_tag (t : List UInt8) (A : Option Addr) (c : Nat) (w : World) (hr : RdS w A (by8 (106 :: UInt8.ofNat t.length :: t))) (h1 : 1 ≤ t.length) (h40 : t.length ≤ 40) (hc : t.length + 2 ≤ c) :
    Calls Try.prog 11 #[.slice A (106 :: UInt8.ofNat t.length :: t).length c] w fun e w' => ∃ A c, e = .returned (.agg #[.int .i64 2, .int .u8 0, .int .u8 0, .int .u8 0, .int .u8 0, .int .u8 0, .int .u8 0, .int .u8 0, .int .u8 0, .int .u8 0, .int .u8 0, .int .u8 0, .int .u8 0, .int .u8 0, .int .u8 0, .int .u8 0, .int .u8 0, .int .u8 0, .int .u8 0, .int .u8 0, .int .u8 0, .slice A t.length c]) ∧ Hp w [] [.row A t.length c 5 1 (by8 t)] w' := by
  by_cases h23 : t.length = 23
  · obtain ⟨f, rfl⟩ := lit_of t 23 h23
    exact Parse_tag23 (f 0) (f 1) (f 2) (f 3) (f 4) (f 5) (f 6) (f 7) (f 8) (f 9) (f 10) (f 11) (f 12) (f 13) (f 14) (f 15) (f 16) (f 17) (f 18) (f 19) (f 20) (f 21) (f 22) A c w hr (by omega)
  · exact Parse_tagN t A c w hr h1 h40 h23 hc
theorem Parse_none (bs : List UInt8) (A : Option Addr) (c : Nat) (w : World) (hr : RdS w A (by8 bs)) (hc : bs.length ≤ c) (hl : bs.length ≤ 1099511627776) (hna : ∀ f, bs ≠ addrB f) (hnt : ∀ t : List UInt8, 1 ≤ t.length → t.length ≤ 40 → bs ≠ tagB t) :
    Calls Try.prog 11 #[.slice A bs.length c] w fun e w' => e = .returned (.agg #[.int .i64 0, .int .u8 0, .int .u8 0, .int .u8 0, .int .u8 0, .int .u8 0, .int .u8 0, .int .u8 0, .int .u8 0, .int .u8 0, .int .u8 0, .int .u8 0, .int .u8 0, .int .u8 0, .int .u8 0, .int .u8 0, .int .u8 0, .int .u8 0, .int .u8 0, .int .u8 0, .int .u8 0, .slice none 0 0]) ∧ Hp w [] [] w' := by
  by_cases h2 : bs.length ≤ 2
  · exact Parse_short bs A c w h2
  by_cases h25 : bs.length = 25
  · obtain ⟨f, rfl⟩ := lit_of bs 25 h25
    exact Parse_no25 (f 0) (f 1) (f 2) (f 3) (f 4) (f 5) (f 6) (f 7) (f 8) (f 9) (f 10) (f 11) (f 12) (f 13) (f 14) (f 15) (f 16) (f 17) (f 18) (f 19) (f 20) (f 21) (f 22) (f 23) (f 24) A c w hr (by omega) (fun h => hna (fun i => f (i + 3)) h.symm) (fun h => hnt _ (by simp) (by simp) h.symm)
  obtain ⟨y0, y1, t, rfl⟩ : ∃ y0 y1 t, bs = y0 :: y1 :: t := by
    rcases bs with _ | ⟨y0, _ | ⟨y1, t⟩⟩
    · simp at h2
    · simp at h2
    · exact ⟨y0, y1, t, rfl⟩
  simp only [List.length_cons] at h2 h25 hc hl
  by_cases h40 : t.length ≤ 40
  · exact Parse_no3 y0 y1 t A c w hr (by omega) h40 (by omega) (by omega) (fun h => hnt t (by omega) h40 h.symm)
  · exact Parse_no41 y0 y1 t A c w hr (by omega) (by omega) (by omega)
end Go.Proofs.Ytcedmbdahbdmaaa
set_option maxRecDepth 100000
namespace Go.Proofs.Ytcedmbdahbdmaaa
open Go.RowKit
def isA (bs : List UInt8) : Prop := bs.length = 25 ∧ bs.take 3 = [118, 169, 20] ∧ bs.drop 23 = [136, 172]
def isT (bs : List UInt8) : Prop := 3 ≤ bs.length ∧ bs.length ≤ 42 ∧ bs.take 2 = [106, UInt8.ofNat (bs.length - 2)]
instance (bs : List UInt8) : Decidable (isA bs) := by unfold isA; infer_instance
instance (bs : List UInt8) : Decidable (isT bs) := by unfold isT; infer_instance
def lkK (bs : List UInt8) : Nat := if isA bs then 1 else if isT bs then 2 else 0
def lkA (bs : List UInt8) : List UInt8 := if isA bs then (bs.drop 3).take 20 else List.replicate 20 0
def lkT (bs : List UInt8) : List UInt8 := if isA bs then [] else if isT bs then bs.drop 2 else []
def lkC (k : Nat) (ad : List UInt8) (T : Option Addr) (n c : Nat) : List Value := .int .i64 (k : Int) :: (by8 ad ++ [.slice T n c])
theorem lkA_length (bs : List UInt8) : (lkA bs).length = 20 := by
  unfold lkA
  split
  · rename_i h
    simp [h.1]
  · rfl
theorem Parse_calls (bs : List UInt8) (A : Option Addr) (c : Nat) (w : World) (hr : RdS w A (by8 bs)) (hc : bs.length ≤ c) (hl : bs.length ≤ 1099511627776) :
    Calls Try.prog 11 #[.slice A bs.length c] w fun e w' => ∃ T d, e = .returned (.agg (lkC (lkK bs) (lkA bs) T (lkT bs).length d).toArray) ∧ Hp w [] [.row T (lkT bs).length d 5 1 (by8 (lkT bs))] w' := by
  unfold lkK lkA lkT
  by_cases h1 : isA bs
  · rw [if_pos h1, if_pos h1, if_pos h1]
    obtain ⟨hn, h2, h3⟩ := h1
    obtain ⟨g, rfl⟩ := lit_of bs 25 hn
    have h2 : [g 0, g 1, g 2] = [118, 169, 20] := h2
    have h3 : [g 23, g 24] = [136, 172] := h3
    simp only [List.cons.injEq, and_true] at h2 h3
    have e : (List.range 25).map g = [118, 169, 20, g 3, g 4, g 5, g 6, g 7, g 8, g 9, g 10, g 11, g 12, g 13, g 14, g 15, g 16, g 17, g 18, g 19, g 20, g 21, g 22, 136, 172] := by
      show [g 0, g 1, g 2, g 3, g 4, g 5, g 6, g 7, g 8, g 9, g 10, g 11, g 12, g 13, g 14, g 15, g 16, g 17, g 18, g 19, g 20, g 21, g 22, g 23, g 24] = _
      rw [h2.1, h2.2.1, h2.2.2, h3.1, h3.2]
    rw [e] at hr ⊢
    exact (Parse_addr (g 3) (g 4) (g 5) (g 6) (g 7) (g 8) (g 9) (g 10) (g 11) (g 12) (g 13) (g 14) (g 15) (g 16) (g 17) (g 18) (g 19) (g 20) (g 21) (g 22) A c w hr (by simpa using hc)).mono fun e_ w_ ⟨he, hh⟩ => ⟨none, 0, he, hh.rowNil 5 1⟩
  · rw [if_neg h1, if_neg h1, if_neg h1]
    by_cases h2 : isT bs
    · rw [if_pos h2, if_pos h2]
      obtain ⟨h3, h4, h5⟩ := h2
      obtain ⟨y0, y1, t, rfl⟩ : ∃ y0 y1 t, bs = y0 :: y1 :: t := by
        rcases bs with _ | ⟨y0, _ | ⟨y1, t⟩⟩
        · simp at h3
        · simp at h3
        · exact ⟨y0, y1, t, rfl⟩
      simp only [List.length_cons] at h3 h4 hc
      have h5 : [y0, y1] = [106, UInt8.ofNat t.length] := h5
      simp only [List.cons.injEq, and_true] at h5
      obtain ⟨rfl, rfl⟩ := h5
      exact Parse_tag t A c w hr (by omega) (by omega) hc
    · rw [if_neg h2, if_neg h2]
      refine (Parse_none bs A c w hr hc hl (fun f e => h1 ?_) (fun t ht1 ht2 e => h2 ?_)).mono fun e_ w_ ⟨he, hh⟩ => ⟨none, 0, he, hh.rowNil 5 1⟩
      · subst e
        exact ⟨rfl, rfl, rfl⟩
      · subst e
        refine ⟨?_, ?_, ?_⟩
        · simp [tagB]; omega
        · simp [tagB]; omega
        · simp [tagB]
section
variable {k n c : Nat} {ad : List UInt8} {T : Option Addr}
theorem lkC_length (h : ad.length = 20) : (lkC k ad T n c).length = 22 := by simp [lkC, by8_length, h]
theorem lkC_ad (h : ad.length = 20) : ((lkC k ad T n c).drop 1).take 20 = by8 ad := by
  show (by8 ad ++ _).take 20 = _
  exact List.take_left' (by rw [by8_length, h])
theorem lkC_tag (h : ad.length = 20) : (lkC k ad T n c)[21]? = some (.slice T n c) := by
  rw [lkC, List.getElem?_cons_succ, List.getElem?_append_right (by rw [by8_length]; omega), by8_length, h]
  rfl
theorem lkC_one : ∀ q ∈ lkC k ad T n c, q.oneCell' = true := by
  intro q hq
  simp only [lkC, List.mem_cons, List.mem_append, List.not_mem_nil, or_false] at hq
  rcases hq with rfl | h | rfl
  · rfl
  · exact by8_one _ q h
  · rfl
end
def isK (bs : List UInt8) : Prop := bs.length = 21 ∧ bs[0]? = some 20
instance (bs : List UInt8) : Decidable (isK bs) := by unfold isK; infer_instance
def opA (bs : List UInt8) : List UInt8 := if isK bs then bs.drop 1 else List.replicate 20 0
theorem opA_length (bs : List UInt8) : (opA bs).length = 20 := by
  unfold opA
  split
  · rename_i h
    simp [h.1]
  · rfl
theorem Opener_calls (bs : List UInt8) (A : Option Addr) (c : Nat) (w : World) (hr : RdS w A (by8 bs)) (hc : bs.length ≤ c) :
    Calls Try.prog 15 #[.slice A bs.length c] w fun e w' => e = .returned (.tuple #[.agg (by8 (opA bs)).toArray, .bool (decide (isK bs))]) ∧ Hp w [] [] w' := by
  unfold opA
  by_cases h1 : isK bs
  · rw [if_pos h1, decide_eq_true h1]
    obtain ⟨hn, h2⟩ := h1
    obtain ⟨g, rfl⟩ := lit_of bs 21 hn
    have h2 : some (g 0) = some 20 := h2
    have e : (List.range 21).map g = [20, g 1, g 2, g 3, g 4, g 5, g 6, g 7, g 8, g 9, g 10, g 11, g 12, g 13, g 14, g 15, g 16, g 17, g 18, g 19, g 20] := by
      show [g 0, g 1, g 2, g 3, g 4, g 5, g 6, g 7, g 8, g 9, g 10, g 11, g 12, g 13, g 14, g 15, g 16, g 17, g 18, g 19, g 20] = _
      rw [Option.some.inj h2]
    rw [e] at hr ⊢
    exact Opener_key (g 1) (g 2) (g 3) (g 4) (g 5) (g 6) (g 7) (g 8) (g 9) (g 10) (g 11) (g 12) (g 13) (g 14) (g 15) (g 16) (g 17) (g 18) (g 19) (g 20) A c w hr (by simpa using hc)
  · rw [if_neg h1, decide_eq_false h1]
    exact Opener_none bs A c w hr h1
end Go.Proofs.Ytcedmbdahbdmaaa
set_option maxRecDepth 100000
namespace Go.Proofs.Ytcedmbdahbdmaaa
open Go.RowKit
def toA (a : List UInt8) (x : TOut) : Bool := decide (lkK x.lb = 1 ∧ lkA x.lb = a)
def byA (a : List UInt8) (x : TIn) : Bool := decide (isK x.kb ∧ opA x.kb = a)
theorem Paid1_calls (x : TOut) (a : List UInt8) (p : Nat) (w : World) (ha : a.length = 20) (hok : x.Ok w []) (hl9 : x.lb.length ≤ 1099511627776) (hb : Blk w p (by8 a) 28) : Calls Try.prog 27 #[.agg #[.int .u64 (x.pv : Int), .slice x.B x.lb.length x.lc], pt p 0] w fun e w' => e = .returned (.bool (toA a x)) ∧ Hp w [] [] w' := by
  have hc9 := hok.2.2.1
  refine calls_G (args := [.agg #[.int .u64 (x.pv : Int), .slice x.B x.lb.length x.lc], pt p 0]) Try.func27 rfl Try.ntmps27 rfl ?_
  intro Q0 hRet hNor hPan
  have H := Hp.start w
  have H : Hp w [] [] w := H
  refine G.seqK fun K1 hK2 => ?_
  refine G.region ?_
  obtain ⟨p3, w4, r5, H6⟩ := H.box (P := Try.prog) 40 [.int .u64 (x.pv : Int), .slice x.B x.lb.length x.lc] (.agg #[.int .u64 (x.pv : Int), .slice x.B x.lb.length x.lc]) rfl
  have H6 : Hp w [] [.blk p3 [.int .u64 (x.pv : Int), .slice x.B x.lb.length x.lc] 40] w4 := H6
  refine GL.sem (j := 1) (r5) [1, 2] [(1, pt p 0), (2, pt p3 0)] (by kernel_rfl) (by kernel_rfl) rfl ?_
  refine GL.run (j := 2) 1 [1, 2] [(1, pt p 0), (2, pt p3 0)] (by kernel_rfl) rfl ?_
  refine GL.k rfl hK2 (fun _ _ h => h) ?_
  refine G.seqK fun K7 hK8 => ?_
  refine G.region ?_
  refine GL.run (j := 1) 1 [1, 5] [(1, pt p 0), (5, pt p3 1)] (by kernel_rfl) rfl ?_
  refine GL.sem (j := 2) (H6.ld (o := 1) (ty := 38) (v := .slice x.B x.lb.length x.lc) 0 rfl (by kernel_rfl) rfl) [1, 6] [(1, pt p 0), (6, .slice x.B x.lb.length x.lc)] (by kernel_rfl) (by kernel_rfl) rfl ?_
  refine GL.call (j := 3) (Parse_calls x.lb x.B x.lc w4 (hok.2.1.hp H6) (hc9) (hl9)) (by kernel_rfl) rfl (fun e_ w11 hR => ?_)
  obtain ⟨A9, c10, rfl, H13⟩ := hR
  have H12 : Hp w [] [.blk p3 [.int .u64 (x.pv : Int), .slice x.B x.lb.length x.lc] 40, .row A9 ((lkT x.lb).length) c10 5 1 (by8 (lkT x.lb))] w11 := H6.callNew H13
  refine ⟨_, rfl, [1, 7], [(1, pt p 0), (7, .agg (lkC (lkK x.lb) (lkA x.lb) A9 (lkT x.lb).length c10).toArray)], by kernel_rfl, ?_⟩
  obtain ⟨p14, w15, r16, H17⟩ := H12.alloc (P := Try.prog) 43 (lkC 0 (List.replicate 20 0) none 0 0) (by kernel_rfl)
  have H17 : Hp w [] [.blk p3 [.int .u64 (x.pv : Int), .slice x.B x.lb.length x.lc] 40, .row A9 ((lkT x.lb).length) c10 5 1 (by8 (lkT x.lb)), .blk p14 (lkC 0 (List.replicate 20 0) none 0 0) 43] w15 := H17
  refine GL.sem (j := 4) (r16) [1, 4, 7] [(1, pt p 0), (4, pt p14 0), (7, .agg (lkC (lkK x.lb) (lkA x.lb) A9 (lkT x.lb).length c10).toArray)] (by kernel_rfl) (by kernel_rfl) rfl ?_
  obtain ⟨w18, r19, H20⟩ := H17.stA (P := Try.prog) (o := 0) (vs := lkC (lkK x.lb) (lkA x.lb) A9 (lkT x.lb).length c10) (ty := 43) (m := 22) 2 rfl (by kernel_rfl) (lkC_length (lkA_length _)) (by rw [Nat.zero_add, lkC_length rfl]; exact Nat.le_refl _) lkC_one
  rw [tx_whole (lkC_length rfl)] at H20
  have H20 : Hp w [] [.blk p3 [.int .u64 (x.pv : Int), .slice x.B x.lb.length x.lc] 40, .row A9 ((lkT x.lb).length) c10 5 1 (by8 (lkT x.lb)), .blk p14 (lkC (lkK x.lb) (lkA x.lb) A9 (lkT x.lb).length c10) 43] w18 := H20
  refine GL.semU (j := 5) r19 [1, 4] [(1, pt p 0), (4, pt p14 0)] (by kernel_rfl) rfl rfl rfl ?_
  refine GL.k rfl hK8 (fun _ _ h => h) ?_
  refine G.seqK fun K21 hK22 => ?_
  refine G.region ?_
  refine GL.run (j := 1) 1 [1, 4, 8] [(1, pt p 0), (4, pt p14 0), (8, pt p14 0)] (by kernel_rfl) rfl ?_
  refine GL.sem (j := 2) (H20.ld (o := 0) (ty := 41) (v := .int .i64 (((lkK x.lb) : Nat) : Int)) 2 rfl (by kernel_rfl) (rfl)) [1, 4, 9] [(1, pt p 0), (4, pt p14 0), (9, .int .i64 (((lkK x.lb) : Nat) : Int))] (by kernel_rfl) (by kernel_rfl) rfl ?_
  refine GL.run (j := 4) 2 [1, 4, 11] [(1, pt p 0), (4, pt p14 0), (11, .bool ((((lkK x.lb) : Nat) : Int) == 1))] (by kernel_rfl) rfl ?_
  cases hb23 : ((((lkK x.lb) : Nat) : Int) == 1)
  · skip
    have hb23f := ne_of_beq_false hb23
    refine GL.run (j := 10) 6 [3] [(3, .bool false)] (by kernel_rfl) rfl ?_
    refine GL.k rfl hK22 (fun _ _ h => h) ?_
    refine G.ret ?_
    intro F_ hF_ hM_
    refine hRet _ _ (bodyPost_1 rfl (RV.tmp rfl) ?_ F_ hF_ hM_)
    have e0 : (false : Bool) = toA a x := by
      unfold toA; rw [Bool.eq_iff_iff]; simp only [decide_eq_true_eq, Bool.false_eq_true, false_iff]; omega
    rw [e0]
    exact ⟨rfl, H20.sub (List.nil_sublist _)⟩
  · skip
    have hb23f := eq_of_beq hb23
    refine GL.run (j := 5) 1 [1, 11, 12] [(1, pt p 0), (11, .bool true), (12, pt p14 1)] (by kernel_rfl) rfl ?_
    refine GL.sem (j := 6) (H20.ldA (o := 1) (ty := 28) (m := 20) (sub := by8 (lkA x.lb)) 2 rfl (by kernel_rfl) (lkC_ad (lkA_length _)) (by rw [by8_length, (lkA_length _)])) [1, 11, 13] [(1, pt p 0), (11, .bool true), (13, .agg (by8 (lkA x.lb)).toArray)] (by kernel_rfl) (by kernel_rfl) rfl ?_
    refine GL.sem (j := 7) (run_ldA (P := Try.prog) (ty := 28) (m := 20) (b := p) (o := 0) (sub := by8 a) (by kernel_rfl) (hb.old H20) (tx_sub (by rw [by8_length, ha])) (by rw [by8_length, ha])) [11, 13, 14] [(11, .bool true), (13, .agg (by8 (lkA x.lb)).toArray), (14, .agg (by8 a).toArray)] (by kernel_rfl) (by kernel_rfl) rfl ?_
    refine GL.sem (j := 8) (run_tx_eql (P := Try.prog) (t := 28) (n := 20) (x := (.tmp 13)) (y := (.tmp 14)) (by kernel_rfl) (lkA x.lb) a (lkA_length _) ha _) [11, 15] [(11, .bool true), (15, .bool (decide ((lkA x.lb) = a)))] (by kernel_rfl) (by kernel_rfl) rfl ?_
    refine GL.run (j := 10) 2 [3] [(3, .bool (decide ((lkA x.lb) = a)))] (by kernel_rfl) rfl ?_
    refine GL.k rfl hK22 (fun _ _ h => h) ?_
    refine G.ret ?_
    intro F_ hF_ hM_
    refine hRet _ _ (bodyPost_1 rfl (RV.tmp rfl) ?_ F_ hF_ hM_)
    have e0 : ((decide ((lkA x.lb) = a)) : Bool) = toA a x := by
      unfold toA; rw [decide_eq_decide]; exact ⟨fun h => ⟨by omega, h⟩, fun h => h.2⟩
    rw [e0]
    exact ⟨rfl, H20.sub (List.nil_sublist _)⟩
theorem Total1_calls (x : TOut) (w : World) : Calls Try.prog 28 #[.agg #[.int .u64 (x.pv : Int), .slice x.B x.lb.length x.lc]] w fun e w' => e = .returned (.bool true) ∧ Hp w [] [] w' := by
  refine calls_G (args := [.agg #[.int .u64 (x.pv : Int), .slice x.B x.lb.length x.lc]]) Try.func28 rfl Try.ntmps28 rfl ?_
  intro Q0 hRet hNor hPan
  have H := Hp.start w
  have H : Hp w [] [] w := H
  refine G.seqK fun K1 hK2 => ?_
  refine G.region ?_
  obtain ⟨p3, w4, r5, H6⟩ := H.box (P := Try.prog) 40 [.int .u64 (x.pv : Int), .slice x.B x.lb.length x.lc] (.agg #[.int .u64 (x.pv : Int), .slice x.B x.lb.length x.lc]) rfl
  have H6 : Hp w [] [.blk p3 [.int .u64 (x.pv : Int), .slice x.B x.lb.length x.lc] 40] w4 := H6
  refine GL.sem (j := 1) (r5) [] [] (by kernel_rfl) (by kernel_rfl) rfl ?_
  refine GL.run (j := 2) 1 [] [] (by kernel_rfl) rfl ?_
  refine GL.k rfl hK2 (fun _ _ h => h) ?_
  refine G.seqK fun K7 hK8 => ?_
  refine G.region ?_
  refine GL.run (j := 1) 1 [2] [(2, .bool true)] (by kernel_rfl) rfl ?_
  refine GL.k rfl hK8 (fun _ _ h => h) ?_
  refine G.ret ?_
  intro F_ hF_ hM_
  refine hRet _ _ (bodyPost_1 rfl (RV.tmp rfl) ?_ F_ hF_ hM_)
  exact ⟨rfl, H6.sub (List.nil_sublist _)⟩
theorem Spends1_calls (x : TIn) (a : List UInt8) (p : Nat) (w : World) (ha : a.length = 20) (hok : x.Ok w []) (hb : Blk w p (by8 a) 28) : Calls Try.prog 34 #[.agg x.cells.toArray, pt p 0] w fun e w' => e = .returned (.bool (byA a x)) ∧ Hp w [] [] w' := by
  have hc9 := hok.2.2.2.2.1
  refine calls_G (args := [.agg (x.cells).toArray, pt p 0]) Try.func34 rfl Try.ntmps34 rfl ?_
  intro Q0 hRet hNor hPan
  have H := Hp.start w
  have H : Hp w [] [] w := H
  refine G.seqK fun K1 hK2 => ?_
  refine G.region ?_
  obtain ⟨p3, w4, r5, H6⟩ := H.box (P := Try.prog) 53 x.cells (.agg (x.cells).toArray) rfl
  have H6 : Hp w [] [.blk p3 x.cells 53] w4 := H6
  refine GL.sem (j := 1) (r5) [1, 2] [(1, pt p 0), (2, pt p3 0)] (by kernel_rfl) (by kernel_rfl) rfl ?_
  refine GL.run (j := 2) 1 [1, 2] [(1, pt p 0), (2, pt p3 0)] (by kernel_rfl) rfl ?_
  refine GL.k rfl hK2 (fun _ _ h => h) ?_
  refine G.seqK fun K7 hK8 => ?_
  refine G.region ?_
  refine GL.run (j := 1) 1 [1, 7] [(1, pt p 0), (7, pt p3 33)] (by kernel_rfl) rfl ?_
  refine GL.sem (j := 2) (H6.ld (o := 33) (ty := 38) (v := .slice x.B x.kb.length x.kc) 0 rfl (by kernel_rfl) (TIn.cells_key hok.1)) [1, 8] [(1, pt p 0), (8, .slice x.B x.kb.length x.kc)] (by kernel_rfl) (by kernel_rfl) rfl ?_
  refine GL.call (j := 3) (Opener_calls x.kb x.B x.kc w4 (hok.2.2.2.1.hp H6) (hc9)) (by kernel_rfl) rfl (fun e_ w9 hR => ?_)
  obtain ⟨rfl, H11⟩ := hR
  have H10 : Hp w [] [.blk p3 x.cells 53] w9 := H6.callNil H11
  refine ⟨_, rfl, [1, 9], [(1, pt p 0), (9, .tuple #[.agg (by8 (opA x.kb)).toArray, .bool (decide (isK x.kb))])], by kernel_rfl, ?_⟩
  refine GL.run (j := 6) 3 [1, 10, 11] [(1, pt p 0), (10, .agg (by8 (opA x.kb)).toArray), (11, .bool (decide (isK x.kb)))] (by kernel_rfl) rfl ?_
  obtain ⟨p12, w13, r14, H15⟩ := H10.alloc (P := Try.prog) 28 (by8 (List.replicate 20 0)) (by kernel_rfl)
  have H15 : Hp w [] [.blk p3 x.cells 53, .blk p12 (by8 (List.replicate 20 0)) 28] w13 := H15
  refine GL.sem (j := 7) (r14) [1, 4, 10, 11] [(1, pt p 0), (4, pt p12 0), (10, .agg (by8 (opA x.kb)).toArray), (11, .bool (decide (isK x.kb)))] (by kernel_rfl) (by kernel_rfl) rfl ?_
  obtain ⟨w16, r17, H18⟩ := H15.stA (P := Try.prog) (o := 0) (vs := by8 (opA x.kb)) (ty := 28) (m := 20) 1 rfl (by kernel_rfl) (by rw [by8_length, (opA_length _)]) (by rw [by8_length, List.length_replicate]; decide) (by8_one _)
  rw [tx_whole (by rw [by8_length, List.length_replicate])] at H18
  have H18 : Hp w [] [.blk p3 x.cells 53, .blk p12 (by8 (opA x.kb)) 28] w16 := H18
  refine GL.semU (j := 8) r17 [1, 4, 11] [(1, pt p 0), (4, pt p12 0), (11, .bool (decide (isK x.kb)))] (by kernel_rfl) rfl rfl rfl ?_
  refine GL.run (j := 9) 1 [1, 4, 5] [(1, pt p 0), (4, pt p12 0), (5, .bool (decide (isK x.kb)))] (by kernel_rfl) rfl ?_
  refine GL.k rfl hK8 (fun _ _ h => h) ?_
  refine G.seqK fun K19 hK20 => ?_
  refine G.region ?_
  refine GL.run (j := 2) 2 [1, 4, 13] [(1, pt p 0), (4, pt p12 0), (13, .bool (decide (isK x.kb)))] (by kernel_rfl) rfl ?_
  cases hb21 : (decide (isK x.kb))
  · skip
    have hb21f := of_decide_eq_false hb21
    have hisK : ¬ isK x.kb := of_decide_eq_false hb21
    refine GL.run (j := 7) 5 [3] [(3, .bool false)] (by kernel_rfl) rfl ?_
    refine GL.k rfl hK20 (fun _ _ h => h) ?_
    refine G.ret ?_
    intro F_ hF_ hM_
    refine hRet _ _ (bodyPost_1 rfl (RV.tmp rfl) ?_ F_ hF_ hM_)
    have e0 : (false : Bool) = byA a x := by
      unfold byA; rw [Bool.eq_iff_iff]; simp only [decide_eq_true_eq, Bool.false_eq_true, false_iff]; exact fun h => hisK h.1
    rw [e0]
    exact ⟨rfl, H18.sub (List.nil_sublist _)⟩
  · skip
    have hb21f := of_decide_eq_true hb21
    have hisK : isK x.kb := of_decide_eq_true hb21
    refine GL.sem (j := 3) (H18.ldA (o := 0) (ty := 28) (m := 20) (sub := by8 (opA x.kb)) 1 rfl (by kernel_rfl) (tx_sub (by rw [by8_length, (opA_length _)])) (by rw [by8_length, (opA_length _)])) [1, 13, 14] [(1, pt p 0), (13, .bool true), (14, .agg (by8 (opA x.kb)).toArray)] (by kernel_rfl) (by kernel_rfl) rfl ?_
    refine GL.sem (j := 4) (run_ldA (P := Try.prog) (ty := 28) (m := 20) (b := p) (o := 0) (sub := by8 a) (by kernel_rfl) (hb.old H18) (tx_sub (by rw [by8_length, ha])) (by rw [by8_length, ha])) [13, 14, 15] [(13, .bool true), (14, .agg (by8 (opA x.kb)).toArray), (15, .agg (by8 a).toArray)] (by kernel_rfl) (by kernel_rfl) rfl ?_
    refine GL.sem (j := 5) (run_tx_eql (P := Try.prog) (t := 28) (n := 20) (x := (.tmp 14)) (y := (.tmp 15)) (by kernel_rfl) (opA x.kb) a (opA_length _) ha _) [13, 16] [(13, .bool true), (16, .bool (decide ((opA x.kb) = a)))] (by kernel_rfl) (by kernel_rfl) rfl ?_
    refine GL.run (j := 7) 2 [3] [(3, .bool (decide ((opA x.kb) = a)))] (by kernel_rfl) rfl ?_
    refine GL.k rfl hK20 (fun _ _ h => h) ?_
    refine G.ret ?_
    intro F_ hF_ hM_
    refine hRet _ _ (bodyPost_1 rfl (RV.tmp rfl) ?_ F_ hF_ hM_)
    have e0 : ((decide ((opA x.kb) = a)) : Bool) = byA a x := by
      unfold byA; rw [decide_eq_decide]; exact ⟨fun h => ⟨hisK, h⟩, fun h => h.2⟩
    rw [e0]
    exact ⟨rfl, H18.sub (List.nil_sublist _)⟩
end Go.Proofs.Ytcedmbdahbdmaaa
namespace Go.Proofs.Ytcedmbdahbdmaaa
open Go.RowKit
def IterX (P : Program) (gf : Nat) (lb : Array Value) (N : Nat) (A : Nat → Array Value → World → Prop) (Rd : World → Prop) : Prop :=
  ∀ (l : Nat) (J : Nat → World → Prop) (Jx : World → Prop), (∀ k W, J k W → Rd W) → (∀ k W W', J k W → Below W.heap.size W W' → J k W') →
    (∀ k W ar, k < N → J k W → A k ar W → YieldAt (FR none) 0 P l ar W fun e W' => (e = .returned (.bool true) ∧ J (k + 1) W') ∨ (e = .returned (.bool false) ∧ Jx W')) →
    ∀ W, J 0 W → Calls P gf (#[.func (.yield l) #[] #[]] ++ lb) W fun e W' => (∃ v, e = .returned v) ∧ (J N W' ∨ Jx W')
theorem RdS.putObj {W : World} {l : Nat} {s : Loop} {o : Obj} {A : Option Addr} {xs : List Value} (hl : W.heap[l]? = some (.loop s)) (h : RdS W A xs) : RdS (W.putObj l o) A xs := by
  rcases h with h | ⟨a, hA, ha, hc⟩
  · exact .inl h
  · refine .inr ⟨a, hA, by simpa [World.putObj] using ha, fun j v hv => ?_⟩
    have h1 := hc j v hv
    have hb : (a.add j).block ≠ l := by
      intro e
      simp only [World.cell?] at h1
      rw [e, hl] at h1
      cases h1
    rw [World.cell?_of_block (w := W) (World.putObj_heap_other hb)]
    exact h1
section
variable {P : Program} {n : Nat} {M : FM} {w w0 : World} {S : List Nat} {L : List Ent} {Q : Exit → Act → World → Prop}
theorem RG.rangeX {g : Operand} {ps : Array Tmp} {assign body : Code} {gf : Nat} {lb : Array Value} (H : Hp w0 S L w) (hg : evM M g = some (.func (.func gf) #[] lb)) (he : ∀ args w, (callFunc gf args).run P w = .ok (.enter gf args) w)
    {Xt : Type} (inv : Nat → Xt → Prop) (Lx : Nat → Xt → List Ent) (invr : Xt → Prop) (Lr : Xt → List Ent) {N : Nat} {Y : Type} {enc : Y → Array Value} {R : Nat → Y → World → Prop} {Rd : World → Prop} (hit : IterX P gf lb N (fun k ar W => ∃ y, ar = enc y ∧ R k y W) Rd) (hps : ∀ y, (enc y).size = ps.size)
    (x0 : Xt) (h0 : inv 0 x0) (hL0 : Lx 0 x0 = L) (hRd : ∀ k x E W, inv k x → Hp w0 S (Lx k x ++ E) W → Rd W)
    (Mb : Y → FM) (hMb : ∀ y, putL n (ps.toList.zip (enc y).toList) M = some (Mb y))
    (hround : ∀ (D l : Nat) (oR oB : Obj) (k : Nat) (y : Y) (x : Xt) (W : World) (K : Act → World → Prop), k < N → R k y W → inv k x → Hp w0 S (Lx k x ++ [.obj D DF, .obj l oR]) W →
      (∀ (F : Array Value) (M' : FM), F.size = n → Fits F M' →
        (∀ W'', Hp w0 S (Lx k x ++ [.obj D DF, .obj l oB]) W'' → (∀ A xs, RdS W A xs → RdS W'' A xs) → RG P body (some l) [] (RoundQ w0 S inv Lx invr Lr k [.obj D DF, .obj l oB]) n M' W'') → K ⟨F, []⟩ W) →
      RG P assign (some l) [] (Exit.then K (fun _ _ _ => False)) n (Mb y) W)
    (hdone : ∀ (D : Nat) (x : Xt) (W : World), inv N x → Hp w0 S (Lx N x ++ [.obj D DF]) W → ∀ F : Array Value, F.size = n → Fits F M → Q .normal ⟨F, [MK D]⟩ W)
    (hstop : ∀ (D : Nat) (x : Xt) (W : World), invr x → Hp w0 S (Lr x ++ [.obj D DF]) W → ∀ F : Array Value, F.size = n → Fits F M → Q .ret ⟨F, [MK D]⟩ W) :
    RG P (.rangeFunc g ps assign body) none [] Q n M w := by
  intro F hF hM
  refine wpIn_rangeFunc ?_
  intro fn _
  have hev : (⟨F, []⟩ : Act).eval g = .func (.func gf) #[] lb := evM_fits hM hg
  obtain ⟨rec, hrec⟩ : ∃ rec : LoopState → Option Code → Loop, rec = fun st pe => { state := st, pending := pe, fn, tmps := F, params := ps, assign, body, defers := w.heap.size } := ⟨_, rfl⟩
  have H1 := (H.newObj DF).newObj (.loop (rec .ready none))
  rw [List.append_assoc] at H1
  obtain ⟨W1, hW1⟩ : ∃ W1, (w.alloc DF).alloc (.loop (rec .ready none)) = W1 := ⟨_, rfl⟩
  rw [hW1, World.size_alloc] at H1
  refine ⟨w.heap.size + 1, [MK w.heap.size], W1, { target := .fn (.func gf) lb, args := #[.func (.yield (w.heap.size + 1)) #[] #[]] }, W1, gf, #[.func (.yield (w.heap.size + 1)) #[] #[]] ++ lb, W1, ?_, ?_, fun _ _ => trivial, ?_, fun h => (by cases h), ?_⟩
  · rw [← hW1, hrec]
    exact run_enterLoop_outer _ _ _ _ _
  · simp only [resolve, hev]
    simp [go_sem]
  · simp [invoke, go_sem, he]
  · generalize w.heap.size = D at *
    have hyield : ∀ k W ar, k < N → (∃ x, inv k x ∧ Hp w0 S (Lx k x ++ [.obj D DF, .obj (D + 1) (.loop (rec .ready none))]) W) → (∃ y, ar = enc y ∧ R k y W) → YieldAt (FR none) 0 P (D + 1) ar W fun e W' =>
        (e = .returned (.bool true) ∧ ∃ x, inv (k + 1) x ∧ Hp w0 S (Lx (k + 1) x ++ [.obj D DF, .obj (D + 1) (.loop (rec .ready none))]) W') ∨
        (e = .returned (.bool false) ∧ ∃ x, invr x ∧ Hp w0 S (Lr x ++ [.obj D DF, .obj (D + 1) (.loop (rec .done (some .ret)))]) W') := by
      rintro k W ar hk ⟨x, hx, HW⟩ ⟨y, rfl, hR_⟩
      have hl := HW.last
      have hy := run_yield (P := P) (args := enc y) hl (by rw [hrec]; exact hps y)
      rw [hrec] at hy
      refine ⟨fn, _, assign, body, hy, roundIn_of_wpIn (F := FR none) trivial ?_⟩
      have hfit : ((ps.zip (enc y)).foldl (fun t (p, v) => t.setIfInBounds p v) F).size = n ∧ Fits ((ps.zip (enc y)).foldl (fun t (p, v) => t.setIfInBounds p v) F) (Mb y) := by
        have h2 := putL_fits _ hF hM (hMb y)
        rw [← Array.foldl_toList, Array.toList_zip]
        exact h2
      refine hround D (D + 1) (.loop (rec .ready none)) (.loop { rec .ready none with state := .busy }) k y x W _ hk hR_ hx HW ?_ _ hfit.1 hfit.2
      intro F' M' hF' hM' hbody
      have hl' := HW.last
      refine ⟨_, run_beginRound hl' (by rw [hrec]), ?_⟩
      have HB := HW.turnLast (.loop { rec .ready none with state := .busy })
      refine wpIn_mono (hbody _ HB (fun A xs h => h.putObj (by rw [hrec] at hl'; exact hl')) F' hF' hM') ?_
      intro e a3 W3 hp
      cases e with
      | normal =>
        obtain ⟨x', hx', H3⟩ := hp
        have hl3 := H3.last
        have hr := run_endRound (P := P) none hl3
        rw [hrec] at hr
        refine ⟨_, _, hr, .inl ⟨rfl, x', hx', ?_⟩⟩
        have H4 := H3.turnLast (.loop (rec .ready none))
        rw [hrec] at H4 ⊢
        exact H4
      | ret =>
        obtain ⟨x', hx', H3⟩ := hp
        have hl3 := H3.last
        have hr := run_endRound (P := P) (some .ret) hl3
        rw [hrec] at hr
        refine ⟨_, _, hr, .inr ⟨rfl, x', hx', ?_⟩⟩
        have H4 := H3.turnLast (.loop (rec .done (some .ret)))
        rw [hrec] at H4 ⊢
        exact H4
      | _ => exact hp.elim
    refine (callsFR (hit (D + 1) (fun k W => ∃ x, inv k x ∧ Hp w0 S (Lx k x ++ [.obj D DF, .obj (D + 1) (.loop (rec .ready none))]) W)
      (fun W => ∃ x, invr x ∧ Hp w0 S (Lr x ++ [.obj D DF, .obj (D + 1) (.loop (rec .done (some .ret)))]) W)
      (fun k W ⟨x, hx, HW⟩ => hRd k x _ W hx HW) (fun k W W' ⟨x, hx, HW⟩ hb => ⟨x, hx, HW.step hb⟩) hyield W1 ⟨x0, h0, by rw [hL0]; exact H1⟩)).mono ?_
    rintro e W2 ⟨⟨v, rfl⟩, (⟨x, hx, HW⟩ | ⟨x, hx, HW⟩)⟩
    · have hl := HW.last
      have hr := run_endLoop (P := P) hl (by rw [hrec]; simp)
      rw [hrec] at hr
      exact ⟨none, _, hr, hdone D x _ hx (HW.turnLast _).dropLast F hF hM⟩
    · have hl := HW.last
      have hr := run_endLoop (P := P) hl (by rw [hrec]; simp)
      rw [hrec] at hr
      exact ⟨some .ret, _, hr, wpIn_ret (hstop D x _ hx (HW.turnLast _).dropLast F hF hM)⟩
end
end Go.Proofs.Ytcedmbdahbdmaaa
set_option maxRecDepth 100000
namespace Go.Proofs.Ytcedmbdahbdmaaa
open Go.RowKit
def isTg (x : TOut) : Bool := decide (lkK x.lb = 2)
def tagL (l : List TOut) : List (List UInt8) := (l.filter isTg).map fun x => lkT x.lb
theorem tagL_length {l : List TOut} : (tagL l).length = (l.filter isTg).length := List.length_map _
theorem tagL_at {l : List TOut} {i : Nat} {x : TOut} (hx : l[i]? = some x) (hq : isTg x = true) : (tagL l).getD (sel isTg l i) [] = lkT x.lb := by
  rw [tagL, List.getD_eq_getElem?_getD, List.getElem?_map, sel_at hx hq]
  rfl
theorem tagL_le {l : List TOut} : (tagL l).length ≤ l.length := by
  rw [tagL_length]
  exact List.length_filter_le _ _
def sts (l : List (List UInt8)) : List Value := l.map fun b => .string (strOf b)
theorem sts_snoc {l : List (List UInt8)} {k : Nat} (h : k < l.length) : sts (l.take (k + 1)) = sts (l.take k) ++ [.string (strOf (l.getD k []))] := by
  rw [List.take_add_one, List.getElem?_eq_getElem h, List.getD_eq_getElem?_getD, List.getElem?_eq_getElem h]
  unfold sts
  rw [List.map_append]
  rfl
theorem sts_length {l : List (List UInt8)} : (sts l).length = l.length := List.length_map _
theorem Tags_iter (outs : List TOut) (B : Option Addr) (cb : Nat) (hsh : ∀ x ∈ outs, x.lb.length ≤ 600) (hno : outs.length ≤ maxLen) (b1 : Nat) : IterX Try.prog 32 #[pt b1 0] (outs.filter isTg).length (fun k ar W => ∃ y : Option Addr × List UInt8 × Nat, ar = #[.slice y.1 y.2.1.length y.2.2] ∧ y.2.1 = (tagL outs).getD k [] ∧ RdS W y.1 (by8 y.2.1)) (fun W => W.cell? ⟨b1, 2, none⟩ = some (.slice B outs.length cb) ∧ RdS W B (outsC outs) ∧ (∀ x ∈ outs, x.Ok W [])) := by
  intro l J Jx hRd hst hy w h0
  have hno_ : outs.length ≤ 9223372036854775807 := hno
  rw [show (#[Value.func (.yield l) #[] #[]] ++ #[pt b1 0] : Array Value) = #[.func (.yield l) #[] #[], pt b1 0] by simp]
  refine calls_R (args := [.func (.yield l) #[] #[], pt b1 0]) Try.func32 rfl Try.ntmps32 rfl ?_
  intro Q0 hRet hNor
  have H := Hp.start w
  have H : Hp w [] [] w := H
  refine RG.seqK fun K1 hK2 => ?_
  refine RG.region (by kernel_rfl) ?_
  refine RL.run (j := 1) 1 [0, 6] [(0, .func (.yield l) #[] #[]), (6, pt b1 2)] (by kernel_rfl) rfl ?_
  refine RL.sem (j := 2) (run_ld1 (P := Try.prog) (ty := 24) (a := ⟨b1, 2, none⟩) (v := .slice B outs.length cb) (by kernel_rfl) (H.oldCell (hRd _ _ h0).1)) [0, 7] [(0, .func (.yield l) #[] #[]), (7, .slice B outs.length cb)] (by kernel_rfl) (by kernel_rfl) rfl ?_
  refine RL.run (j := 4) 2 [0, 7, 8, 9] [(0, .func (.yield l) #[] #[]), (7, .slice B outs.length cb), (8, .int .i64 (outs.length : Int)), (9, .int .i64 0)] (by kernel_rfl) rfl ?_
  refine RL.k rfl hK2 (fun _ _ h => h) ?_
  refine RG.block ?_
  refine RG.fit [0, 7, 8, 9] (M' := [(0, .func (.yield l) #[] #[]), (7, .slice B outs.length cb), (8, .int .i64 (outs.length : Int)), (9, .int .i64 0)]) (by kernel_rfl) ?_
  refine RG.loop (X := Nat) (fun i => [(0, .func (.yield l) #[] #[]), (7, .slice B outs.length cb), (8, .int .i64 (outs.length : Int)), (9, .int .i64 (i : Int))]) (fun i w_ => i ≤ outs.length ∧ J (sel isTg outs i) w_) (fun i => outs.length - i) 0 [0, 7, 8, 9] (by kernel_rfl) ⟨Nat.zero_le _, h0⟩ ?_
  rintro i wk ⟨hil, hJk⟩
  have H3 := Hp.start wk
  refine RG.eq (M' := [(0, .func (.yield l) #[] #[]), (7, .slice B outs.length cb), (8, .int .i64 (outs.length : Int)), (9, .int .i64 (i : Int))]) rfl ?_
  refine RG.seqK fun K4 hK5 => ?_
  refine RG.region (by kernel_rfl) ?_
  refine RL.run (j := 1) 1 [0, 7, 8, 9, 10] [(0, .func (.yield l) #[] #[]), (7, .slice B outs.length cb), (8, .int .i64 (outs.length : Int)), (9, .int .i64 (i : Int)), (10, .bool (decide ((i : Int) < (outs.length : Int))))] (by kernel_rfl) rfl ?_
  refine RL.k rfl hK5 (fun _ _ h => h) ?_
  refine RG.seqK fun K6 hK7 => ?_
  cases hb8 : (decide ((i : Int) < (outs.length : Int)))
  · skip
    have hb8f := of_decide_eq_false hb8
    refine RG.no rfl ?_
    refine fun F_ hF_ hM_ => wpIn_exit ?_
    refine hNor _ _ (postM_0 rfl  ?_ F_ hF_ hM_)
    exact ⟨⟨_, rfl⟩, .inl (by rw [← sel_end (q := isTg) (l := outs) (i := i) (by omega)]; exact hJk)⟩
  · skip
    have hb8f := of_decide_eq_true hb8
    refine RG.yes rfl ?_
    refine RG.skipK hK7 (fun _ _ h => h) ?_
    refine RG.seqK fun K9 hK10 => ?_
    refine RG.block ?_
    refine RG.seqK fun K11 hK12 => ?_
    refine RG.region (by kernel_rfl) ?_
    obtain ⟨x13, hx14⟩ : ∃ x, outs[i]? = some x := ⟨_, List.getElem?_eq_getElem (by omega)⟩
    have hok15 := (hRd _ _ hJk).2.2 x13 (List.mem_of_getElem? hx14)
    refine RL.sem (j := 1) (run_idxRdN (P := Try.prog) (k := .i64) (t := 24) (sz := 2) (A := B) (len := outs.length) (cap := cb) (j := i) (by kernel_rfl) rfl ((hRd _ _ hJk).2.1.hp H3) (outsC_length _) (by decide) (by omega)) [0, 7, 8, 9, 11] [(0, .func (.yield l) #[] #[]), (7, .slice B outs.length cb), (8, .int .i64 (outs.length : Int)), (9, .int .i64 (i : Int)), (11, .pointer (Option.map (fun x => Addr.add x (i * 2)) B))] (by kernel_rfl) (by kernel_rfl) rfl ?_
    refine RL.sem (j := 2) (run_ldRdA (P := Try.prog) (ty := 40) (A := B) (o := (i * 2)) (m := 2) (sub := [.int .u64 (x13.pv : Int), .slice x13.B x13.lb.length x13.lc]) (by kernel_rfl) ((hRd _ _ hJk).2.1.hp H3) (outsC_cut hx14) (rfl) (by decide)) [0, 7, 8, 9, 12] [(0, .func (.yield l) #[] #[]), (7, .slice B outs.length cb), (8, .int .i64 (outs.length : Int)), (9, .int .i64 (i : Int)), (12, .agg #[.int .u64 (x13.pv : Int), .slice x13.B x13.lb.length x13.lc])] (by kernel_rfl) (by kernel_rfl) rfl ?_
    obtain ⟨p16, w17, r18, H19⟩ := H3.alloc (P := Try.prog) 40 [.int .u64 0, .slice none 0 0] (by kernel_rfl)
    have H19 : Hp wk [] [.blk p16 [.int .u64 0, .slice none 0 0] 40] w17 := H19
    refine RL.sem (j := 3) (r18) [0, 4, 7, 8, 9, 12] [(0, .func (.yield l) #[] #[]), (4, pt p16 0), (7, .slice B outs.length cb), (8, .int .i64 (outs.length : Int)), (9, .int .i64 (i : Int)), (12, .agg #[.int .u64 (x13.pv : Int), .slice x13.B x13.lb.length x13.lc])] (by kernel_rfl) (by kernel_rfl) rfl ?_
    obtain ⟨w20, r21, H22⟩ := H19.stA (P := Try.prog) (o := 0) (vs := [.int .u64 (x13.pv : Int), .slice x13.B x13.lb.length x13.lc]) (ty := 40) (m := 2) 0 rfl (by kernel_rfl) rfl (by simp) (by simp [Value.oneCell'])
    have H22 : Hp wk [] [.blk p16 [.int .u64 (x13.pv : Int), .slice x13.B x13.lb.length x13.lc] 40] w20 := H22
    refine RL.semU (j := 4) r21 [0, 4, 7, 8, 9] [(0, .func (.yield l) #[] #[]), (4, pt p16 0), (7, .slice B outs.length cb), (8, .int .i64 (outs.length : Int)), (9, .int .i64 (i : Int))] (by kernel_rfl) rfl rfl rfl ?_
    refine RL.k rfl hK12 (fun _ _ h => h) ?_
    refine RG.seqK fun K23 hK24 => ?_
    refine RG.region (by kernel_rfl) ?_
    refine RL.run (j := 1) 1 [0, 7, 8, 9, 13] [(0, .func (.yield l) #[] #[]), (7, .slice B outs.length cb), (8, .int .i64 (outs.length : Int)), (9, .int .i64 (i : Int)), (13, pt p16 1)] (by kernel_rfl) rfl ?_
    refine RL.sem (j := 2) (H22.ld (o := 1) (ty := 38) (v := .slice x13.B x13.lb.length x13.lc) 0 rfl (by kernel_rfl) rfl) [0, 7, 8, 9, 14] [(0, .func (.yield l) #[] #[]), (7, .slice B outs.length cb), (8, .int .i64 (outs.length : Int)), (9, .int .i64 (i : Int)), (14, .slice x13.B x13.lb.length x13.lc)] (by kernel_rfl) (by kernel_rfl) rfl ?_
    refine RL.call (j := 3) (Parse_calls x13.lb x13.B x13.lc w20 (hok15.2.1.hp H22) (hok15.2.2.1) (Nat.le_trans (hsh x13 (List.mem_of_getElem? hx14)) (by decide))) (by kernel_rfl) rfl (fun e_ w27 hR => ?_)
    obtain ⟨A25, c26, rfl, H29⟩ := hR
    have H28 : Hp wk [] [.blk p16 [.int .u64 (x13.pv : Int), .slice x13.B x13.lb.length x13.lc] 40, .row A25 ((lkT x13.lb).length) c26 5 1 (by8 (lkT x13.lb))] w27 := H22.callNew H29
    refine ⟨_, rfl, [0, 7, 8, 9, 15], [(0, .func (.yield l) #[] #[]), (7, .slice B outs.length cb), (8, .int .i64 (outs.length : Int)), (9, .int .i64 (i : Int)), (15, .agg (lkC (lkK x13.lb) (lkA x13.lb) A25 (lkT x13.lb).length c26).toArray)], by kernel_rfl, ?_⟩
    obtain ⟨p30, w31, r32, H33⟩ := H28.alloc (P := Try.prog) 43 (lkC 0 (List.replicate 20 0) none 0 0) (by kernel_rfl)
    have H33 : Hp wk [] [.blk p16 [.int .u64 (x13.pv : Int), .slice x13.B x13.lb.length x13.lc] 40, .row A25 ((lkT x13.lb).length) c26 5 1 (by8 (lkT x13.lb)), .blk p30 (lkC 0 (List.replicate 20 0) none 0 0) 43] w31 := H33
    refine RL.sem (j := 4) (r32) [0, 5, 7, 8, 9, 15] [(0, .func (.yield l) #[] #[]), (5, pt p30 0), (7, .slice B outs.length cb), (8, .int .i64 (outs.length : Int)), (9, .int .i64 (i : Int)), (15, .agg (lkC (lkK x13.lb) (lkA x13.lb) A25 (lkT x13.lb).length c26).toArray)] (by kernel_rfl) (by kernel_rfl) rfl ?_
    obtain ⟨w34, r35, H36⟩ := H33.stA (P := Try.prog) (o := 0) (vs := lkC (lkK x13.lb) (lkA x13.lb) A25 (lkT x13.lb).length c26) (ty := 43) (m := 22) 2 rfl (by kernel_rfl) (lkC_length (lkA_length _)) (by rw [Nat.zero_add, lkC_length rfl]; exact Nat.le_refl _) lkC_one
    rw [tx_whole (lkC_length rfl)] at H36
    have H36 : Hp wk [] [.blk p16 [.int .u64 (x13.pv : Int), .slice x13.B x13.lb.length x13.lc] 40, .row A25 ((lkT x13.lb).length) c26 5 1 (by8 (lkT x13.lb)), .blk p30 (lkC (lkK x13.lb) (lkA x13.lb) A25 (lkT x13.lb).length c26) 43] w34 := H36
    refine RL.semU (j := 5) r35 [0, 5, 7, 8, 9] [(0, .func (.yield l) #[] #[]), (5, pt p30 0), (7, .slice B outs.length cb), (8, .int .i64 (outs.length : Int)), (9, .int .i64 (i : Int))] (by kernel_rfl) rfl rfl rfl ?_
    refine RL.k rfl hK24 (fun _ _ h => h) ?_
    refine RG.seqK fun K37 hK38 => ?_
    refine RG.region (by kernel_rfl) ?_
    refine RL.run (j := 1) 1 [0, 5, 7, 8, 9, 16] [(0, .func (.yield l) #[] #[]), (5, pt p30 0), (7, .slice B outs.length cb), (8, .int .i64 (outs.length : Int)), (9, .int .i64 (i : Int)), (16, pt p30 0)] (by kernel_rfl) rfl ?_
    refine RL.sem (j := 2) (H36.ld (o := 0) (ty := 41) (v := .int .i64 (((lkK x13.lb) : Nat) : Int)) 2 rfl (by kernel_rfl) (rfl)) [0, 5, 7, 8, 9, 17] [(0, .func (.yield l) #[] #[]), (5, pt p30 0), (7, .slice B outs.length cb), (8, .int .i64 (outs.length : Int)), (9, .int .i64 (i : Int)), (17, .int .i64 (((lkK x13.lb) : Nat) : Int))] (by kernel_rfl) (by kernel_rfl) rfl ?_
    refine RL.run (j := 4) 2 [0, 5, 7, 8, 9, 19] [(0, .func (.yield l) #[] #[]), (5, pt p30 0), (7, .slice B outs.length cb), (8, .int .i64 (outs.length : Int)), (9, .int .i64 (i : Int)), (19, .bool ((((lkK x13.lb) : Nat) : Int) == 2))] (by kernel_rfl) rfl ?_
    cases hb39 : ((((lkK x13.lb) : Nat) : Int) == 2)
    · skip
      have hb39f := ne_of_beq_false hb39
      have hq : isTg x13 = false := by unfold isTg; rw [decide_eq_false_iff_not]; omega
      refine RL.run (j := 10) 6 [0, 7, 8, 9, 25] [(0, .func (.yield l) #[] #[]), (7, .slice B outs.length cb), (8, .int .i64 (outs.length : Int)), (9, .int .i64 (i : Int)), (25, .bool false)] (by kernel_rfl) rfl ?_
      refine RL.k rfl hK38 (fun _ _ h => h) ?_
      refine RG.no rfl ?_
      refine RG.skipK hK10 (fun _ _ h => h) ?_
      refine RG.region (by kernel_rfl) ?_
      refine RL.run (j := 2) 2 [0, 7, 8, 9] [(0, .func (.yield l) #[] #[]), (7, .slice B outs.length cb), (8, .int .i64 (outs.length : Int)), (9, .int .i64 (IntKind.i64.wrap ((i : Int) + 1)))] (by kernel_rfl) rfl ?_
      have e40 : (IntKind.i64.wrap ((i : Int) + 1)) = ((i + 1 : Nat) : Int) := by rw [in_i64 (by omega)]; omega
      refine RL.eq (M' := [(0, .func (.yield l) #[] #[]), (7, .slice B outs.length cb), (8, .int .i64 (outs.length : Int)), (9, .int .i64 ((i + 1 : Nat) : Int))]) (by rw [e40]) ?_
      clear e40
      refine RL.fit (ts := [0, 7, 8, 9]) (M' := [(0, .func (.yield l) #[] #[]), (7, .slice B outs.length cb), (8, .int .i64 (outs.length : Int)), (9, .int .i64 ((i + 1 : Nat) : Int))]) (by kernel_rfl) ?_
      refine RL.eq (M' := [(0, .func (.yield l) #[] #[]), (7, .slice B outs.length cb), (8, .int .i64 (outs.length : Int)), (9, .int .i64 (((i + 1) : Nat) : Int))]) (by rfl) ?_
      exact RL.again (i + 1) [0, 7, 8, 9] rfl (by kernel_rfl) (by show outs.length - (i + 1) < outs.length - i; omega) ⟨by omega, by rw [sel_no hx14 hq]; exact hst _ _ _ hJk H36.below⟩
    · skip
      have hb39f := eq_of_beq hb39
      have hq : isTg x13 = true := by unfold isTg; rw [decide_eq_true_iff]; omega
      refine RL.run (j := 6) 2 [0, 7, 8, 9, 19, 20, 21] [(0, .func (.yield l) #[] #[]), (7, .slice B outs.length cb), (8, .int .i64 (outs.length : Int)), (9, .int .i64 (i : Int)), (19, .bool true), (20, .func (.yield l) #[] #[]), (21, pt p30 21)] (by kernel_rfl) rfl ?_
      refine RL.sem (j := 7) (H36.ld (o := 21) (ty := 38) (v := .slice A25 ((lkT x13.lb).length) c26) 2 rfl (by kernel_rfl) (lkC_tag (lkA_length _))) [0, 7, 8, 9, 19, 20, 22] [(0, .func (.yield l) #[] #[]), (7, .slice B outs.length cb), (8, .int .i64 (outs.length : Int)), (9, .int .i64 (i : Int)), (19, .bool true), (20, .func (.yield l) #[] #[]), (22, .slice A25 ((lkT x13.lb).length) c26)] (by kernel_rfl) (by kernel_rfl) rfl ?_
      refine RL.yield (j := 8) (hy (sel isTg outs i) w34 _ (sel_lt hx14 hq) (hst _ _ _ hJk H36.below) ⟨(A25, lkT x13.lb, c26), rfl, (tagL_at hx14 hq).symm, H36.rdRow 1 rfl⟩) (by kernel_rfl) rfl (fun e_ w41 hR45 => ?_)
      obtain ⟨b42, rfl, hyt43, hyf44⟩ := yield_cases hR45
      have H46 := Hp.start w41
      refine ⟨_, rfl, [0, 7, 8, 9, 19, 23], [(0, .func (.yield l) #[] #[]), (7, .slice B outs.length cb), (8, .int .i64 (outs.length : Int)), (9, .int .i64 (i : Int)), (19, .bool true), (23, .bool b42)], by kernel_rfl, ?_⟩
      refine RL.run (j := 10) 2 [0, 7, 8, 9, 25] [(0, .func (.yield l) #[] #[]), (7, .slice B outs.length cb), (8, .int .i64 (outs.length : Int)), (9, .int .i64 (i : Int)), (25, .bool (!b42))] (by kernel_rfl) rfl ?_
      refine RL.k rfl hK38 (fun _ _ h => h) ?_
      rcases (Bool.eq_false_or_eq_true b42).symm with hb47 | hb47
      · skip
        refine RG.eq (M' := [(0, .func (.yield l) #[] #[]), (7, .slice B outs.length cb), (8, .int .i64 (outs.length : Int)), (9, .int .i64 (i : Int)), (25, .bool true)]) (by first | (rw [hb47]; done) | (rw [hb47]; rfl)) ?_
        have hJ48 := hyf44 hb47
        refine RG.yes rfl ?_
        refine RG.ret ?_
        intro F_ hF_ hM_
        refine hRet _ _ (postM_0 rfl  ?_ F_ hF_ hM_)
        exact ⟨⟨_, rfl⟩, .inr hJ48⟩
      · skip
        refine RG.eq (M' := [(0, .func (.yield l) #[] #[]), (7, .slice B outs.length cb), (8, .int .i64 (outs.length : Int)), (9, .int .i64 (i : Int)), (25, .bool false)]) (by first | (rw [hb47]; done) | (rw [hb47]; rfl)) ?_
        have hJ49 := hyt43 hb47
        refine RG.no rfl ?_
        refine RG.skipK hK10 (fun _ _ h => h) ?_
        refine RG.region (by kernel_rfl) ?_
        refine RL.run (j := 2) 2 [0, 7, 8, 9] [(0, .func (.yield l) #[] #[]), (7, .slice B outs.length cb), (8, .int .i64 (outs.length : Int)), (9, .int .i64 (IntKind.i64.wrap ((i : Int) + 1)))] (by kernel_rfl) rfl ?_
        have e50 : (IntKind.i64.wrap ((i : Int) + 1)) = ((i + 1 : Nat) : Int) := by rw [in_i64 (by omega)]; omega
        refine RL.eq (M' := [(0, .func (.yield l) #[] #[]), (7, .slice B outs.length cb), (8, .int .i64 (outs.length : Int)), (9, .int .i64 ((i + 1 : Nat) : Int))]) (by rw [e50]) ?_
        clear e50
        refine RL.fit (ts := [0, 7, 8, 9]) (M' := [(0, .func (.yield l) #[] #[]), (7, .slice B outs.length cb), (8, .int .i64 (outs.length : Int)), (9, .int .i64 ((i + 1 : Nat) : Int))]) (by kernel_rfl) ?_
        refine RL.eq (M' := [(0, .func (.yield l) #[] #[]), (7, .slice B outs.length cb), (8, .int .i64 (outs.length : Int)), (9, .int .i64 (((i + 1) : Nat) : Int))]) (by rfl) ?_
        exact RL.again (i + 1) [0, 7, 8, 9] rfl (by kernel_rfl) (by show outs.length - (i + 1) < outs.length - i; omega) ⟨by omega, by rw [sel_yes hx14 hq]; exact hJ49⟩
theorem all_calls (outs : List TOut) (B : Option Addr) (cb : Nat) (hsh : ∀ x ∈ outs, x.lb.length ≤ 600) (hno : outs.length ≤ 1000) (b1 : Nat) (w : World) (hRd : ∀ W, Below w.heap.size w W → (W.cell? ⟨b1, 2, none⟩ = some (.slice B outs.length cb) ∧ RdS W B (outsC outs) ∧ (∀ x ∈ outs, x.Ok W []))) : Calls Try.prog 13 #[.func (.func 32) #[] #[pt b1 0]] w fun e w' => ∃ A c, e = .returned (.slice A (tagL outs).length c) ∧ Hp w [] [.row A (tagL outs).length c 9 1 (sts (tagL outs))] w' := by
  have hno1000 := hno
  have hno : outs.length ≤ maxLen := Nat.le_trans hno (by decide)
  have htl := tagL_le (l := outs)
  refine calls_R (args := [.func (.func 32) #[] #[pt b1 0]]) Try.func13 rfl Try.ntmps13 rfl ?_
  intro Q0 hRet hNor
  have H := Hp.start w
  have H : Hp w [] [] w := H
  refine RG.seqK fun K1 hK2 => ?_
  refine RG.region (by kernel_rfl) ?_
  refine RL.run (j := 1) 1 [0] [(0, .func (.func 32) #[] #[pt b1 0])] (by kernel_rfl) rfl ?_
  refine RL.k rfl hK2 (fun _ _ h => h) ?_
  refine RG.seqK fun K3 hK4 => ?_
  refine RG.region (by kernel_rfl) ?_
  obtain ⟨p5, w6, r7, H8⟩ := H.alloc (P := Try.prog) 37 [.slice none 0 0] (by kernel_rfl)
  have H8 : Hp w [] [.blk p5 [.slice none 0 0] 37] w6 := H8
  refine RL.sem (j := 1) (r7) [0, 3] [(0, .func (.func 32) #[] #[pt b1 0]), (3, pt p5 0)] (by kernel_rfl) (by kernel_rfl) rfl ?_
  refine RL.k rfl hK4 (fun _ _ h => h) ?_
  refine RG.seqK fun K9 hK10 => ?_
  refine RG.seqK fun K11 hK12 => ?_
  refine RG.region (by kernel_rfl) ?_
  refine RL.run (j := 1) 1 [3, 5] [(3, pt p5 0), (5, .func (.func 32) #[] #[pt b1 0])] (by kernel_rfl) rfl ?_
  refine RL.k rfl hK12 (fun _ _ h => h) ?_
  refine RG.block ?_
  have H13 := H8.rowNil 9 1
  have H13 : Hp w [] [.blk p5 [.slice none 0 0] 37, .row none 0 0 9 1 (sts (List.take 0 (tagL outs)))] w6 := H13
  refine RG.fit [3, 5] (M' := [(3, pt p5 0), (5, .func (.func 32) #[] #[pt b1 0])]) (by kernel_rfl) ?_
  refine RG.rangeX H13 (gf := 32) (lb := #[pt b1 0]) rfl (enters_of Try.func32 (by kernel_rfl) rfl) (Xt := Option Addr × Nat) (fun k ⟨A_, c_⟩ => True) (fun k ⟨A_, c_⟩ => [.blk p5 [.slice A_ k c_] 37, .row A_ k c_ 9 1 (sts (List.take k (tagL outs)))]) (fun ⟨A_, c_⟩ => False) (fun ⟨A_, c_⟩ => []) (N := (tagL outs).length) (Y := Option Addr × List UInt8 × Nat) (enc := fun y => #[.slice y.1 y.2.1.length y.2.2]) (R := fun k y W => y.2.1 = (tagL outs).getD k [] ∧ RdS W y.1 (by8 y.2.1)) (by have h_ := Tags_iter outs B cb hsh hno b1; rw [← tagL_length] at h_; exact h_) (fun _ => rfl) ⟨none, 0⟩ trivial rfl (fun k x E W hx HW => hRd W (HW.sub (List.nil_sublist _)).below) (fun y => [(6, .slice y.1 y.2.1.length y.2.2), (3, pt p5 0), (5, .func (.func 32) #[] #[pt b1 0])]) (fun _ => rfl) ?_ ?_ ?_
  · skip
    rintro D17 l18 oR19 oB20 k ⟨yA, yb, yc⟩ ⟨A_, c_⟩ w14 K21 hk22 hR24 hx15 H16 hK23
    have H16 : Hp w [] [.blk p5 [.slice A_ k c_] 37, .row A_ k c_ 9 1 (sts (List.take k (tagL outs))), .obj D17 DF, .obj l18 oR19] w14 := H16
    refine RG.region (by kernel_rfl) ?_
    refine RL.run (j := 1) 1 [3, 4] [(3, pt p5 0), (4, .slice yA yb.length yc)] (by kernel_rfl) rfl ?_
    refine RL.done rfl (fun F_ hF_ hM_ => hK23 F_ _ hF_ hM_ ?_)
    intro w25 H26 hR27
    have H26 : Hp w [] [.blk p5 [.slice A_ k c_] 37, .row A_ k c_ 9 1 (sts (List.take k (tagL outs))), .obj D17 DF, .obj l18 oB20] w25 := H26
    refine RG.block ?_
    refine RG.region (by kernel_rfl) ?_
    refine RL.sem (j := 1) (H26.ld (o := 0) (ty := 37) (v := .slice A_ k c_) 0 rfl (by kernel_rfl) rfl) [3, 4, 7] [(3, pt p5 0), (4, .slice yA yb.length yc), (7, .slice A_ k c_)] (by kernel_rfl) (by kernel_rfl) rfl ?_
    refine RL.run (j := 2) 1 [3, 7, 8] [(3, pt p5 0), (7, .slice A_ k c_), (8, .slice yA yb.length yc)] (by kernel_rfl) rfl ?_
    refine RL.sem (j := 3) (run_toStr (P := Try.prog) (src := 38) (dst := 9) (A := yA) (bs := yb) (n := yb.length) (c := yc) (by kernel_rfl) (by kernel_rfl) (hR27 _ _ hR24.2) (rfl)) [3, 7, 9] [(3, pt p5 0), (7, .slice A_ k c_), (9, .string (strOf yb))] (by kernel_rfl) (by kernel_rfl) rfl ?_
    obtain ⟨p28, w29, r30, H31⟩ := H26.made (P := Try.prog) (Instr.buildSlice 37 1 #[(0, .string (strOf yb))]) (fun b_ => .slice (some ⟨b_, 0, none⟩) 1 1) [.string (strOf yb)] 9 (by kernel_rfl)
    have H31 : Hp w [] [.blk p5 [.slice A_ k c_] 37, .row A_ k c_ 9 1 (sts (List.take k (tagL outs))), .obj D17 DF, .obj l18 oB20, .blk p28 [.string (strOf yb)] 9] w29 := H31
    refine RL.sem (j := 4) (r30) [3, 7, 10] [(3, pt p5 0), (7, .slice A_ k c_), (10, .slice (some ⟨p28, 0, none⟩) 1 1)] (by kernel_rfl) (by kernel_rfl) rfl ?_
    obtain ⟨A32, c33, w34, r35, H36⟩ := H31.append (P := Try.prog) (e := 9) (sz := 1) (by_ := 16) (n := k) (c := c_) (m := 1) (d := 1) (t := 37) (ty := 37) (xs := sts (List.take k (tagL outs))) (news := [.string (strOf yb)]) 1 rfl (by kernel_rfl) (H31.rdBlk (o := 0) (xs := [.string (strOf yb)]) 4 1 rfl rfl) (by simp [by8_length]) (by simp [Value.oneCell']) (by omega) (by simp only [maxLen]; omega)
    have H36 : Hp w [] [.blk p5 [.slice A_ k c_] 37, .row A32 (k + 1) c33 9 1 (sts (List.take k (tagL outs)) ++ [.string (strOf yb)]), .obj D17 DF, .obj l18 oB20, .blk p28 [.string (strOf yb)] 9] w34 := H36
    refine RL.sem (j := 5) (r35) [3, 11] [(3, pt p5 0), (11, .slice A32 (k + 1) c33)] (by kernel_rfl) (by kernel_rfl) rfl ?_
    obtain ⟨w37, r38, H39⟩ := H36.st (P := Try.prog) (o := 0) (ty := 37) (v := .slice A32 (k + 1) c33) 0 rfl (by kernel_rfl) (by simp) rfl
    have H39 : Hp w [] [.blk p5 [.slice A32 (k + 1) c33] 37, .row A32 (k + 1) c33 9 1 (sts (List.take k (tagL outs)) ++ [.string (strOf yb)]), .obj D17 DF, .obj l18 oB20, .blk p28 [.string (strOf yb)] 9] w37 := H39
    refine RL.semU (j := 6) r38 [] [] (by kernel_rfl) rfl rfl rfl ?_
    have H40 : Hp w [] [.blk p5 [.slice A32 (k + 1) c33] 37, .row A32 (k + 1) c33 9 1 (sts (List.take k (tagL outs)) ++ [.string (strOf yb)]), .obj D17 DF, .obj l18 oB20] w37 := H39.sub (List.Sublist.cons_cons _ (List.Sublist.cons_cons _ (List.Sublist.cons_cons _ (List.Sublist.cons_cons _ (List.Sublist.cons _ (List.Sublist.slnil))))))
    have H41 : Hp w [] [.blk p5 [.slice A32 (k + 1) c33] 37, .row A32 (k + 1) c33 9 1 (sts (List.take (k + 1) (tagL outs))), .obj D17 DF, .obj l18 oB20] w37 := by rw [sts_snoc hk22, ← hR24.1]; exact H40
    exact RL.done rfl (fun F_ hF_ hM_ => ⟨⟨A32, c33⟩, trivial, H41⟩)
  · skip
    rintro D45 ⟨A_, c_⟩ w42 hx43 H44
    refine RG.kk hK10 (fun _ _ h => h) ?_
    have H44 : Hp w [] [.blk p5 [.slice A_ ((tagL outs).length) c_] 37, .row A_ ((tagL outs).length) c_ 9 1 (sts (List.take (tagL outs).length (tagL outs))), .obj D45 DF] w42 := H44
    refine RG.seqK fun K46 hK47 => ?_
    refine RG.region (by kernel_rfl) ?_
    refine RL.sem (j := 1) (H44.ld (o := 0) (ty := 37) (v := .slice A_ ((tagL outs).length) c_) 0 rfl (by kernel_rfl) rfl) [12] [(12, .slice A_ ((tagL outs).length) c_)] (by kernel_rfl) (by kernel_rfl) rfl ?_
    refine RL.run (j := 2) 1 [2] [(2, .slice A_ ((tagL outs).length) c_)] (by kernel_rfl) rfl ?_
    refine RL.k rfl hK47 (fun _ _ h => h) ?_
    refine RG.ret ?_
    have hD48 := H44.objAt 2 rfl
    have H49 : Hp w [] [.blk p5 [.slice A_ ((tagL outs).length) c_] 37, .row A_ ((tagL outs).length) c_ 9 1 (sts (List.take (tagL outs).length (tagL outs))), .obj D45 (.deferred none)] (World.putObj w42 D45 (.deferred none)) := H44.putObj 2 (.deferred none) rfl
    intro F_ hF_ hM_
    refine hRet _ _ (postK_1 hD48 rfl (RV.tmp rfl) ?_ F_ hF_ hM_)
    have H50 : Hp w [] [.row A_ ((tagL outs).length) c_ 9 1 (sts (List.take (tagL outs).length (tagL outs)))] (World.putObj w42 D45 (.deferred none)) := H49.sub (List.Sublist.cons _ (List.Sublist.cons_cons _ (List.Sublist.cons _ (List.Sublist.slnil))))
    have HF := H50
    rw [List.take_length] at HF
    exact ⟨_, _, rfl, HF⟩
  · skip
    rintro _ _ _ hx_ _
    exact hx_.elim
end Go.Proofs.Ytcedmbdahbdmaaa
namespace Go.Proofs.Ytcedmbdahbdmaaa
open Go.RowKit
section
variable {P : Program} {w0 w w' : World} {S : List Nat} {L A' B' : List Ent}
theorem RdO.blk (H : Hp w0 S (A' ++ B') w) (i : Nat) {b o : Nat} {cs : List Value} {t : TypeId} (n : Nat) {xs : List Value} (hL : B'[i]? = some (.blk b cs t)) (hx : (cs.drop o).take n = xs) : RdO w (ids A') (some ⟨b, o, none⟩) xs := by
  have hb : Blk w b cs t := H.ents _ (List.mem_append_right _ (List.mem_of_getElem? hL))
  have hnd := H.nd
  rw [ids_append] at hnd
  obtain ⟨_, _, n3⟩ := List.nodup_append.1 hnd
  intro W hs hk
  have hb' : Blk W b cs t := hb.same (hk b hb.lt (fun hin => n3 _ hin _ (ids_mem (List.mem_of_getElem? hL) (by simp [Ent.ids])) rfl))
  exact RdS.blk hb' o n hx
end
end Go.Proofs.Ytcedmbdahbdmaaa
