/- Rows of hashes: two put together, the row above. -/
import Derived.Test.YtgmggjnoegelgaaShaD
import Derived.Test.YtgmggjnoegelgaaMk
import Derived.Test.YtgmggjnoegelgaaGi
namespace Go.Proofs.Ytgmggjnoegelgaa
open Go.RowKit
/-- slices.Grow of the nil slice: room for n. -/
theorem Grow_nil (n : Nat) (hn : n ≤ 1099511627776) (w : World) : Calls Try.prog 36 #[.slice none 0 0, .int .i64 (n : Int)] w fun e w' =>
    ∃ A c, e = .returned (.slice A 0 c) ∧ n ≤ c ∧ Hp w [] [.row A 0 c 5 1 (by8 [])] w' := by
  refine calls_G (args := [.slice none 0 0, .int .i64 (n : Int)]) Try.func36 rfl Try.ntmps36 rfl ?_
  intro Q0 hRet hNor hPan
  have H := Hp.start w
  have H : Hp w [] [] w := H
  refine G.seqK fun K1 hK2 => ?_
  refine G.region ?_
  refine GL.run (j := 1) 1 [0, 1] [(0, .slice none 0 0), (1, .int .i64 (n : Int))] (by kernel_rfl) rfl ?_
  refine GL.k rfl hK2 (fun _ _ h => h) ?_
  refine G.seqK fun K3 hK4 => ?_
  refine G.seqK fun K5 hK6 => ?_
  refine G.region ?_
  refine GL.run (j := 2) 2 [0, 1, 6] [(0, .slice none 0 0), (1, .int .i64 (n : Int)), (6, .bool (decide ((n : Int) < 0)))] (by kernel_rfl) rfl ?_
  refine GL.k rfl hK6 (fun _ _ h => h) ?_
  have hb7 : (decide ((n : Int) < 0)) = false := decide_eq_false (by omega)
  rw [hb7]
  refine G.no rfl ?_
  refine G.skipK hK4 (fun _ _ h => h) ?_
  refine G.seqK fun K8 hK9 => ?_
  refine G.seqK fun K10 hK11 => ?_
  refine G.region ?_
  refine GL.run (j := 8) 8 [0, 1] [(0, .slice none 0 0), (1, .int .i64 (IntKind.i64.wrap ((n : Int) - 0)))] (by kernel_rfl) rfl ?_
  have e12 : (IntKind.i64.wrap ((n : Int) - 0)) = (n : Int) := by rw [in_i64 (by omega)]; omega
  refine GL.eq (M' := [(0, .slice none 0 0), (1, .int .i64 (n : Int))]) (by rw [e12]) ?_
  clear e12
  refine GL.k rfl hK11 (fun _ _ h => h) ?_
  refine G.seqK fun K13 hK14 => ?_
  refine G.region ?_
  refine GL.run (j := 2) 2 [0, 1, 16] [(0, .slice none 0 0), (1, .int .i64 (n : Int)), (16, .bool (decide (0 < (n : Int))))] (by kernel_rfl) rfl ?_
  refine GL.k rfl hK14 (fun _ _ h => h) ?_
  cases hb15 : (decide (0 < (n : Int)))
  · skip
    have hb15f := of_decide_eq_false hb15
    have hn0 : n = 0 := by have := of_decide_eq_false hb15; omega
    refine G.no rfl ?_
    refine G.skipK hK9 (fun _ _ h => h) ?_
    refine G.seqK fun K16 hK17 => ?_
    refine G.region ?_
    refine GL.run (j := 2) 2 [4] [(4, .slice none 0 0)] (by kernel_rfl) rfl ?_
    refine GL.k rfl hK17 (fun _ _ h => h) ?_
    refine G.ret ?_
    intro F_ hF_ hM_
    refine hRet _ _ (bodyPost_1 rfl (RV.tmp rfl) ?_ F_ hF_ hM_)
    exact ⟨none, 0, rfl, by omega, H.rowNil 5 1⟩
  · skip
    have hb15f := of_decide_eq_true hb15
    have hn0 : 0 < n := by have := of_decide_eq_true hb15; omega
    refine G.yes rfl ?_
    refine G.region ?_
    refine GL.run (j := 5) 5 [0, 20, 21] [(0, .slice none 0 0), (20, .slice none 0 0), (21, .int .i64 (n : Int))] (by kernel_rfl) rfl ?_
    obtain ⟨b18, c19, w20, r21, hc22, H23⟩ := H.appendMake (P := Try.prog) (t := 49) (ti := 3) (ty := 49) (by_ := 1) (n := n) (by kernel_rfl) (by kernel_rfl) (by assumption) (by omega) (by simp only [maxLen]; omega)
    have H23 : Hp w [] [.row (some ⟨b18, 0, none⟩) 0 c19 5 1 (by8 [])] w20 := H23
    refine GL.sem (j := 6) (r21) [0, 22] [(0, .slice none 0 0), (22, .slice (some ⟨b18, 0, none⟩) n c19)] (by kernel_rfl) (by kernel_rfl) rfl ?_
    refine GL.run (j := 8) 2 [22, 24] [(22, .slice (some ⟨b18, 0, none⟩) n c19), (24, .int .i64 0)] (by kernel_rfl) rfl ?_
    refine GL.sem (j := 9) (run_sliceSl0 (P := Try.prog) (lo := none) (hi := some (.int .i64 0)) (t := 49) (len := n) (cap := c19) (A := (some ⟨b18, 0, none⟩)) (h := 0) (by kernel_rfl) (Or.inl ⟨rfl, rfl⟩) (Or.inr ⟨_, _, rfl, rfl⟩) (by omega)) [25] [(25, .slice (some ⟨b18, 0, none⟩) 0 c19)] (by kernel_rfl) (by kernel_rfl) rfl ?_
    refine GL.run (j := 10) 1 [0] [(0, .slice (some ⟨b18, 0, none⟩) 0 c19)] (by kernel_rfl) rfl ?_
    refine GL.k rfl hK9 (fun _ _ h => h) ?_
    refine G.seqK fun K24 hK25 => ?_
    refine G.region ?_
    refine GL.run (j := 2) 2 [4] [(4, .slice (some ⟨b18, 0, none⟩) 0 c19)] (by kernel_rfl) rfl ?_
    refine GL.k rfl hK25 (fun _ _ h => h) ?_
    refine G.ret ?_
    intro F_ hF_ hM_
    refine hRet _ _ (bodyPost_1 rfl (RV.tmp rfl) ?_ F_ hF_ hM_)
    exact ⟨_, _, rfl, by omega, H23⟩
/-- slices.Concat: what its slices hold, one behind the other, in new memory. -/
theorem Concat_calls (b : Nat) (vs : List SB) (w : World) (hb : Blk w b (vs.map sv) 49) (hr : ∀ s ∈ vs, RdS w s.1 (by8 s.2.2)) (hn : (flat vs).length ≤ 1099511627776) (hvs : vs.length ≤ 1099511627776) :
    Calls Try.prog 30 #[.slice (some ⟨b, 0, none⟩) vs.length vs.length] w fun e w' => ∃ A c, e = .returned (.slice A (flat vs).length c) ∧ Hp w [] [.row A (flat vs).length c 5 1 (by8 (flat vs))] w' := by
  refine calls_G (args := [.slice (some ⟨b, 0, none⟩) vs.length vs.length]) Try.func30 rfl Try.ntmps30 rfl ?_
  intro Q0 hRet hNor hPan
  have H := Hp.start w
  have H : Hp w [] [] w := H
  refine G.seqK fun K1 hK2 => ?_
  refine G.region ?_
  refine GL.run (j := 1) 1 [0] [(0, .slice (some ⟨b, 0, none⟩) vs.length vs.length)] (by kernel_rfl) rfl ?_
  refine GL.k rfl hK2 (fun _ _ h => h) ?_
  refine G.seqK fun K3 hK4 => ?_
  refine G.region ?_
  refine GL.run (j := 1) 1 [0, 3] [(0, .slice (some ⟨b, 0, none⟩) vs.length vs.length), (3, .int .i64 0)] (by kernel_rfl) rfl ?_
  refine GL.k rfl hK4 (fun _ _ h => h) ?_
  refine G.seqK fun K5 hK6 => ?_
  refine G.seqK fun K7 hK8 => ?_
  refine G.region ?_
  refine GL.run (j := 3) 3 [0, 3, 9, 10, 11] [(0, .slice (some ⟨b, 0, none⟩) vs.length vs.length), (3, .int .i64 0), (9, .slice (some ⟨b, 0, none⟩) vs.length vs.length), (10, .int .i64 (vs.length : Int)), (11, .int .i64 0)] (by kernel_rfl) rfl ?_
  refine GL.k rfl hK8 (fun _ _ h => h) ?_
  refine G.block ?_
  refine G.fit [0, 3, 9, 10, 11] (M' := [(0, .slice (some ⟨b, 0, none⟩) vs.length vs.length), (3, .int .i64 0), (9, .slice (some ⟨b, 0, none⟩) vs.length vs.length), (10, .int .i64 (vs.length : Int)), (11, .int .i64 0)]) (by kernel_rfl) ?_
  refine G.eq (M' := [(0, .slice (some ⟨b, 0, none⟩) vs.length vs.length), (3, .int .i64 (((flat (vs.take 0)).length : Nat) : Int)), (9, .slice (some ⟨b, 0, none⟩) vs.length vs.length), (10, .int .i64 (vs.length : Int)), (11, .int .i64 0)]) (by rfl) ?_
  refine G.loop (X := Nat) (fun k => [(0, .slice (some ⟨b, 0, none⟩) vs.length vs.length), (3, .int .i64 (((flat (vs.take k)).length : Nat) : Int)), (9, .slice (some ⟨b, 0, none⟩) vs.length vs.length), (10, .int .i64 (vs.length : Int)), (11, .int .i64 (k : Int))]) (fun k w_ => (k ≤ vs.length) ∧ Hp w [] [] w_) (fun k => vs.length - (k)) 0 [0, 3, 9, 10, 11] (by kernel_rfl) ⟨Nat.zero_le _, H⟩ ?_
  rintro k w9 ⟨hi10, H11⟩
  refine G.eq (M' := [(0, .slice (some ⟨b, 0, none⟩) vs.length vs.length), (3, .int .i64 (((flat (vs.take k)).length : Nat) : Int)), (9, .slice (some ⟨b, 0, none⟩) vs.length vs.length), (10, .int .i64 (vs.length : Int)), (11, .int .i64 (k : Int))]) rfl ?_
  have H11 : Hp w [] [] w9 := H11
  have hk := hi10
  refine G.seqK fun K12 hK13 => ?_
  refine G.region ?_
  refine GL.run (j := 1) 1 [0, 3, 9, 10, 11, 12] [(0, .slice (some ⟨b, 0, none⟩) vs.length vs.length), (3, .int .i64 (((flat (vs.take k)).length : Nat) : Int)), (9, .slice (some ⟨b, 0, none⟩) vs.length vs.length), (10, .int .i64 (vs.length : Int)), (11, .int .i64 (k : Int)), (12, .bool (decide ((k : Int) < (vs.length : Int))))] (by kernel_rfl) rfl ?_
  refine GL.k rfl hK13 (fun _ _ h => h) ?_
  refine G.seqK fun K14 hK15 => ?_
  cases hb16 : (decide ((k : Int) < (vs.length : Int)))
  · skip
    have hb16f := of_decide_eq_false hb16
    have hge : vs.length ≤ k := by have := of_decide_eq_false hb16; omega
    refine G.no rfl ?_
    refine G.exitK hK6 (fun _ _ h => h) ?_
    refine G.seqK fun K17 hK18 => ?_
    refine G.region ?_
    refine GL.run (j := 1) 1 [0, 23] [(0, .slice (some ⟨b, 0, none⟩) vs.length vs.length), (23, .int .i64 (((flat (vs.take k)).length : Nat) : Int))] (by kernel_rfl) rfl ?_
    have e0 : vs.take k = vs := List.take_of_length_le (by omega)
    rw [e0]
    refine GL.call (j := 2) (Grow_nil ((flat vs).length) (by omega) w9) (by kernel_rfl) rfl (fun e_ w21 hR => ?_)
    obtain ⟨A19, c20, rfl, _, H23⟩ := hR
    have H22 : Hp w [] [.row A19 0 c20 5 1 (by8 [])] w21 := H11.callNew H23
    refine ⟨_, rfl, [0, 24], [(0, .slice (some ⟨b, 0, none⟩) vs.length vs.length), (24, .slice A19 0 c20)], by kernel_rfl, ?_⟩
    refine GL.run (j := 3) 1 [0, 6] [(0, .slice (some ⟨b, 0, none⟩) vs.length vs.length), (6, .slice A19 0 c20)] (by kernel_rfl) rfl ?_
    refine GL.k rfl hK18 (fun _ _ h => h) ?_
    refine G.seqK fun K24 hK25 => ?_
    refine G.seqK fun K26 hK27 => ?_
    refine G.region ?_
    refine GL.run (j := 3) 3 [6, 25, 26, 27] [(6, .slice A19 0 c20), (25, .slice (some ⟨b, 0, none⟩) vs.length vs.length), (26, .int .i64 (vs.length : Int)), (27, .int .i64 0)] (by kernel_rfl) rfl ?_
    refine GL.k rfl hK27 (fun _ _ h => h) ?_
    refine G.block ?_
    refine G.fit [6, 25, 26, 27] (M' := [(6, .slice A19 0 c20), (25, .slice (some ⟨b, 0, none⟩) vs.length vs.length), (26, .int .i64 (vs.length : Int)), (27, .int .i64 0)]) (by kernel_rfl) ?_
    refine G.eq (M' := [(6, .slice A19 ((flat (vs.take 0)).length) c20), (25, .slice (some ⟨b, 0, none⟩) vs.length vs.length), (26, .int .i64 (vs.length : Int)), (27, .int .i64 0)]) (by rfl) ?_
    refine G.loop (X := Nat × Option Addr × Nat) (fun ⟨k, A, c⟩ => [(6, .slice A ((flat (vs.take k)).length) c), (25, .slice (some ⟨b, 0, none⟩) vs.length vs.length), (26, .int .i64 (vs.length : Int)), (27, .int .i64 (k : Int))]) (fun ⟨k, A, c⟩ w_ => (k ≤ vs.length) ∧ Hp w [] [.row A ((flat (vs.take k)).length) c 5 1 (by8 (flat (vs.take k)))] w_) (fun ⟨k, A, c⟩ => vs.length - (k)) ⟨0, A19, c20⟩ [6, 25, 26, 27] (by kernel_rfl) ⟨Nat.zero_le _, H22⟩ ?_
    rintro ⟨k, A, c⟩ w28 ⟨hi29, H30⟩
    refine G.eq (M' := [(6, .slice A ((flat (vs.take k)).length) c), (25, .slice (some ⟨b, 0, none⟩) vs.length vs.length), (26, .int .i64 (vs.length : Int)), (27, .int .i64 (k : Int))]) rfl ?_
    have H30 : Hp w [] [.row A ((flat (vs.take k)).length) c 5 1 (by8 (flat (vs.take k)))] w28 := H30
    have hk := hi29
    refine G.seqK fun K31 hK32 => ?_
    refine G.region ?_
    refine GL.run (j := 1) 1 [6, 25, 26, 27, 28] [(6, .slice A ((flat (vs.take k)).length) c), (25, .slice (some ⟨b, 0, none⟩) vs.length vs.length), (26, .int .i64 (vs.length : Int)), (27, .int .i64 (k : Int)), (28, .bool (decide ((k : Int) < (vs.length : Int))))] (by kernel_rfl) rfl ?_
    refine GL.k rfl hK32 (fun _ _ h => h) ?_
    refine G.seqK fun K33 hK34 => ?_
    cases hb35 : (decide ((k : Int) < (vs.length : Int)))
    · skip
      have hb35f := of_decide_eq_false hb35
      have hge : vs.length ≤ k := by have := of_decide_eq_false hb35; omega
      refine G.no rfl ?_
      refine G.exitK hK25 (fun _ _ h => h) ?_
      refine G.seqK fun K36 hK37 => ?_
      refine G.region ?_
      refine GL.run (j := 2) 2 [2] [(2, .slice A ((flat (vs.take k)).length) c)] (by kernel_rfl) rfl ?_
      refine GL.k rfl hK37 (fun _ _ h => h) ?_
      refine G.ret ?_
      intro F_ hF_ hM_
      refine hRet _ _ (bodyPost_1 rfl (RV.tmp rfl) ?_ F_ hF_ hM_)
      have e0 : vs.take k = vs := List.take_of_length_le (by omega)
      rw [e0] at H30 ⊢
      exact ⟨_, _, rfl, H30⟩
    · skip
      have hb35f := of_decide_eq_true hb35
      have hlt : k < vs.length := by have := of_decide_eq_true hb35; omega
      obtain ⟨s, hs⟩ : ∃ s, vs[k]? = some s := ⟨vs[k], List.getElem?_eq_getElem hlt⟩
      have e1 := flat_take hs
      have e2 := flat_le vs (k + 1)
      rw [e1, List.length_append] at e2
      refine G.yes rfl ?_
      refine G.skipK hK34 (fun _ _ h => h) ?_
      refine G.seqK fun K38 hK39 => ?_
      refine G.block ?_
      refine G.seqK fun K40 hK41 => ?_
      refine G.region ?_
      refine GL.sem (j := 1) (run_idxSl (P := Try.prog) (k := .i64) (t := 69) (sz := 1) (a := ⟨b, 0, none⟩) (len := vs.length) (cap := vs.length) (j := k) (by kernel_rfl) rfl (by first | rfl | omega | (simp only [List.length_cons, List.length_nil, List.length_drop, List.length_take, List.length_append] <;> omega))) [6, 25, 26, 27, 29] [(6, .slice A ((flat (vs.take k)).length) c), (25, .slice (some ⟨b, 0, none⟩) vs.length vs.length), (26, .int .i64 (vs.length : Int)), (27, .int .i64 (k : Int)), (29, .pointer (some (Addr.add ⟨b, 0, none⟩ (k * 1))))] (by kernel_rfl) (by kernel_rfl) rfl ?_
      refine GL.sem (j := 2) (run_ld1 (P := Try.prog) (ty := 49) (a := (Addr.add ⟨b, 0, none⟩ (k * 1))) (v := sv s) (by kernel_rfl) (by rw [addr_add, (H30.oldBlk hb).cell]; simp [hs])) [6, 25, 26, 27, 30] [(6, .slice A ((flat (vs.take k)).length) c), (25, .slice (some ⟨b, 0, none⟩) vs.length vs.length), (26, .int .i64 (vs.length : Int)), (27, .int .i64 (k : Int)), (30, .slice s.1 s.2.2.length s.2.1)] (by kernel_rfl) (by kernel_rfl) rfl ?_
      refine GL.run (j := 3) 1 [6, 8, 25, 26, 27] [(6, .slice A ((flat (vs.take k)).length) c), (8, .slice s.1 s.2.2.length s.2.1), (25, .slice (some ⟨b, 0, none⟩) vs.length vs.length), (26, .int .i64 (vs.length : Int)), (27, .int .i64 (k : Int))] (by kernel_rfl) rfl ?_
      refine GL.k rfl hK41 (fun _ _ h => h) ?_
      refine G.region ?_
      refine GL.run (j := 2) 2 [25, 26, 27, 31, 32] [(25, .slice (some ⟨b, 0, none⟩) vs.length vs.length), (26, .int .i64 (vs.length : Int)), (27, .int .i64 (k : Int)), (31, .slice A ((flat (vs.take k)).length) c), (32, .slice s.1 s.2.2.length s.2.1)] (by kernel_rfl) rfl ?_
      obtain ⟨A42, c43, w44, r45, H46⟩ := H30.append (P := Try.prog) (e := 5) (sz := 1) (by_ := 1) (n := (flat (vs.take k)).length) (c := c) (m := s.2.2.length) (d := s.2.1) (t := 49) (ty := 49) (xs := by8 (flat (vs.take k))) (news := by8 s.2.2) 0 rfl (by kernel_rfl) ((hr s (List.mem_of_getElem? hs)).hp H30) (by simp [by8_length]) (by8_one _) (by omega) (by simp only [maxLen]; omega)
      rw [← by8_append] at H46
      have H46 : Hp w [] [.row A42 ((flat (vs.take k)).length + s.2.2.length) c43 5 1 (by8 ((flat (vs.take k)) ++ s.2.2))] w44 := H46
      refine GL.sem (j := 3) (r45) [25, 26, 27, 33] [(25, .slice (some ⟨b, 0, none⟩) vs.length vs.length), (26, .int .i64 (vs.length : Int)), (27, .int .i64 (k : Int)), (33, .slice A42 ((flat (vs.take k)).length + s.2.2.length) c43)] (by kernel_rfl) (by kernel_rfl) rfl ?_
      refine GL.run (j := 4) 1 [6, 25, 26, 27] [(6, .slice A42 ((flat (vs.take k)).length + s.2.2.length) c43), (25, .slice (some ⟨b, 0, none⟩) vs.length vs.length), (26, .int .i64 (vs.length : Int)), (27, .int .i64 (k : Int))] (by kernel_rfl) rfl ?_
      refine GL.k rfl hK39 (fun _ _ h => h) ?_
      refine G.region ?_
      refine GL.run (j := 2) 2 [6, 25, 26, 27] [(6, .slice A42 ((flat (vs.take k)).length + s.2.2.length) c43), (25, .slice (some ⟨b, 0, none⟩) vs.length vs.length), (26, .int .i64 (vs.length : Int)), (27, .int .i64 (IntKind.i64.wrap ((k : Int) + 1)))] (by kernel_rfl) rfl ?_
      have e47 : (IntKind.i64.wrap ((k : Int) + 1)) = ((k + 1 : Nat) : Int) := by rw [in_i64 (by omega)]; omega
      refine GL.eq (M' := [(6, .slice A42 ((flat (vs.take k)).length + s.2.2.length) c43), (25, .slice (some ⟨b, 0, none⟩) vs.length vs.length), (26, .int .i64 (vs.length : Int)), (27, .int .i64 ((k + 1 : Nat) : Int))]) (by rw [e47]) ?_
      clear e47
      have H48 : Hp w [] [.row A42 ((flat (vs.take (k + 1))).length) c43 5 1 (by8 (flat (vs.take (k + 1))))] w44 := by rw [e1, List.length_append]; exact H46
      refine GL.fit (ts := [6, 25, 26, 27]) (M' := [(6, .slice A42 ((flat (vs.take k)).length + s.2.2.length) c43), (25, .slice (some ⟨b, 0, none⟩) vs.length vs.length), (26, .int .i64 (vs.length : Int)), (27, .int .i64 ((k + 1 : Nat) : Int))]) (by kernel_rfl) ?_
      refine GL.eq (M' := [(6, .slice A42 ((flat (vs.take (k + 1))).length) c43), (25, .slice (some ⟨b, 0, none⟩) vs.length vs.length), (26, .int .i64 (vs.length : Int)), (27, .int .i64 ((k + 1 : Nat) : Int))]) (by rw [e1, List.length_append]) ?_
      exact GL.again ⟨k + 1, A42, c43⟩ [6, 25, 26, 27] rfl (by kernel_rfl) (by show vs.length - (k + 1) < vs.length - (k); omega) ⟨by omega, H48⟩
  · skip
    have hb16f := of_decide_eq_true hb16
    have hlt : k < vs.length := by have := of_decide_eq_true hb16; omega
    obtain ⟨s, hs⟩ : ∃ s, vs[k]? = some s := ⟨vs[k], List.getElem?_eq_getElem hlt⟩
    have e1 := flat_take hs
    have e2 := flat_le vs (k + 1)
    rw [e1, List.length_append] at e2
    refine G.yes rfl ?_
    refine G.skipK hK15 (fun _ _ h => h) ?_
    refine G.seqK fun K49 hK50 => ?_
    refine G.block ?_
    refine G.seqK fun K51 hK52 => ?_
    refine G.region ?_
    refine GL.sem (j := 1) (run_idxSl (P := Try.prog) (k := .i64) (t := 69) (sz := 1) (a := ⟨b, 0, none⟩) (len := vs.length) (cap := vs.length) (j := k) (by kernel_rfl) rfl (by first | rfl | omega | (simp only [List.length_cons, List.length_nil, List.length_drop, List.length_take, List.length_append] <;> omega))) [0, 3, 9, 10, 11, 13] [(0, .slice (some ⟨b, 0, none⟩) vs.length vs.length), (3, .int .i64 (((flat (vs.take k)).length : Nat) : Int)), (9, .slice (some ⟨b, 0, none⟩) vs.length vs.length), (10, .int .i64 (vs.length : Int)), (11, .int .i64 (k : Int)), (13, .pointer (some (Addr.add ⟨b, 0, none⟩ (k * 1))))] (by kernel_rfl) (by kernel_rfl) rfl ?_
    refine GL.sem (j := 2) (run_ld1 (P := Try.prog) (ty := 49) (a := (Addr.add ⟨b, 0, none⟩ (k * 1))) (v := sv s) (by kernel_rfl) (by rw [addr_add, (H11.oldBlk hb).cell]; simp [hs])) [0, 3, 9, 10, 11, 14] [(0, .slice (some ⟨b, 0, none⟩) vs.length vs.length), (3, .int .i64 (((flat (vs.take k)).length : Nat) : Int)), (9, .slice (some ⟨b, 0, none⟩) vs.length vs.length), (10, .int .i64 (vs.length : Int)), (11, .int .i64 (k : Int)), (14, .slice s.1 s.2.2.length s.2.1)] (by kernel_rfl) (by kernel_rfl) rfl ?_
    refine GL.run (j := 3) 1 [0, 3, 5, 9, 10, 11] [(0, .slice (some ⟨b, 0, none⟩) vs.length vs.length), (3, .int .i64 (((flat (vs.take k)).length : Nat) : Int)), (5, .slice s.1 s.2.2.length s.2.1), (9, .slice (some ⟨b, 0, none⟩) vs.length vs.length), (10, .int .i64 (vs.length : Int)), (11, .int .i64 (k : Int))] (by kernel_rfl) rfl ?_
    refine GL.k rfl hK52 (fun _ _ h => h) ?_
    refine G.seqK fun K53 hK54 => ?_
    refine G.region ?_
    refine GL.run (j := 5) 5 [0, 3, 9, 10, 11] [(0, .slice (some ⟨b, 0, none⟩) vs.length vs.length), (3, .int .i64 (IntKind.i64.wrap ((((flat (vs.take k)).length : Nat) : Int) + (s.2.2.length : Int)))), (9, .slice (some ⟨b, 0, none⟩) vs.length vs.length), (10, .int .i64 (vs.length : Int)), (11, .int .i64 (k : Int))] (by kernel_rfl) rfl ?_
    have e55 : (IntKind.i64.wrap ((((flat (vs.take k)).length : Nat) : Int) + (s.2.2.length : Int))) = ((((flat (vs.take k)).length) + s.2.2.length : Nat) : Int) := by rw [in_i64 (by first | rfl | omega | (simp only [List.length_cons, List.length_nil, List.length_drop, List.length_take, List.length_append] <;> omega))]; omega
    refine GL.eq (M' := [(0, .slice (some ⟨b, 0, none⟩) vs.length vs.length), (3, .int .i64 ((((flat (vs.take k)).length) + s.2.2.length : Nat) : Int)), (9, .slice (some ⟨b, 0, none⟩) vs.length vs.length), (10, .int .i64 (vs.length : Int)), (11, .int .i64 (k : Int))]) (by rw [e55]) ?_
    clear e55
    refine GL.k rfl hK54 (fun _ _ h => h) ?_
    refine G.seqK fun K56 hK57 => ?_
    refine G.region ?_
    refine GL.run (j := 2) 2 [0, 3, 9, 10, 11, 20] [(0, .slice (some ⟨b, 0, none⟩) vs.length vs.length), (3, .int .i64 ((((flat (vs.take k)).length) + s.2.2.length : Nat) : Int)), (9, .slice (some ⟨b, 0, none⟩) vs.length vs.length), (10, .int .i64 (vs.length : Int)), (11, .int .i64 (k : Int)), (20, .bool (decide (((((flat (vs.take k)).length) + s.2.2.length : Nat) : Int) < 0)))] (by kernel_rfl) rfl ?_
    refine GL.k rfl hK57 (fun _ _ h => h) ?_
    have hb58 : (decide (((((flat (vs.take k)).length) + s.2.2.length : Nat) : Int) < 0)) = false := decide_eq_false (by omega)
    rw [hb58]
    refine G.no rfl ?_
    refine G.skipK hK50 (fun _ _ h => h) ?_
    refine G.region ?_
    refine GL.run (j := 2) 2 [0, 3, 9, 10, 11] [(0, .slice (some ⟨b, 0, none⟩) vs.length vs.length), (3, .int .i64 ((((flat (vs.take k)).length) + s.2.2.length : Nat) : Int)), (9, .slice (some ⟨b, 0, none⟩) vs.length vs.length), (10, .int .i64 (vs.length : Int)), (11, .int .i64 (IntKind.i64.wrap ((k : Int) + 1)))] (by kernel_rfl) rfl ?_
    have e59 : (IntKind.i64.wrap ((k : Int) + 1)) = ((k + 1 : Nat) : Int) := by rw [in_i64 (by omega)]; omega
    refine GL.eq (M' := [(0, .slice (some ⟨b, 0, none⟩) vs.length vs.length), (3, .int .i64 ((((flat (vs.take k)).length) + s.2.2.length : Nat) : Int)), (9, .slice (some ⟨b, 0, none⟩) vs.length vs.length), (10, .int .i64 (vs.length : Int)), (11, .int .i64 ((k + 1 : Nat) : Int))]) (by rw [e59]) ?_
    clear e59
    refine GL.fit (ts := [0, 3, 9, 10, 11]) (M' := [(0, .slice (some ⟨b, 0, none⟩) vs.length vs.length), (3, .int .i64 ((((flat (vs.take k)).length) + s.2.2.length : Nat) : Int)), (9, .slice (some ⟨b, 0, none⟩) vs.length vs.length), (10, .int .i64 (vs.length : Int)), (11, .int .i64 ((k + 1 : Nat) : Int))]) (by kernel_rfl) ?_
    refine GL.eq (M' := [(0, .slice (some ⟨b, 0, none⟩) vs.length vs.length), (3, .int .i64 (((flat (vs.take (k + 1))).length : Nat) : Int)), (9, .slice (some ⟨b, 0, none⟩) vs.length vs.length), (10, .int .i64 (vs.length : Int)), (11, .int .i64 ((k + 1 : Nat) : Int))]) (by rw [e1, List.length_append]) ?_
    exact GL.again (k + 1) [0, 3, 9, 10, 11] rfl (by kernel_rfl) (by show vs.length - (k + 1) < vs.length - (k); omega) ⟨by omega, H11⟩
theorem as_fun {X : List UInt8} (h : X.length = 32) : ∃ f : Nat → UInt8, X = (List.range 32).map f := ⟨fun i => X.getD i 0, ext8 (by simp [h]) fun i hi => by
  rw [List.getD_eq_getElem?_getD (l := List.map _ _), List.getElem?_map, List.getElem?_range (by omega)]
  rfl⟩
theorem built1_22 (X : List UInt8) (hX : X.length = 32) : nev Try.prog (Instr.buildSlice 22 1 #[(0, .agg (by8 X).toArray)]) = some (.cells (by8 X).toArray 25, fun r => some (.slice (some ⟨r, 0, none⟩) 1 1)) := by
  obtain ⟨f, rfl⟩ := as_fun hX
  kernel_rfl
theorem built1_33 (X : List UInt8) (hX : X.length = 32) : nev Try.prog (Instr.buildSlice 33 1 #[(0, .agg (by8 X).toArray)]) = some (.cells (by8 X).toArray 24, fun r => some (.slice (some ⟨r, 0, none⟩) 1 1)) := by
  obtain ⟨f, rfl⟩ := as_fun hX
  kernel_rfl
theorem built3_22 (X : List UInt8) (hX : X.length = 32) : nev Try.prog (Instr.buildSlice 22 3 #[(0, .agg (by8 X).toArray), (1, .agg (by8 X).toArray), (2, .agg (by8 X).toArray)]) = some (.cells (by8 (flat8 [X, X, X])).toArray 25, fun r => some (.slice (some ⟨r, 0, none⟩) 3 3)) := by
  obtain ⟨f, rfl⟩ := as_fun hX
  kernel_rfl
def leafB (n : Int) : Bool := decide (1 ≤ n ∧ n ≤ 65536)
theorem Leaves_calls (n : Int) (w : World) : Calls Try.prog 24 #[.int .i64 n] w fun e w' => e = .returned (.bool (leafB n)) ∧ Hp w [] [] w' := by
  refine calls_G (args := [.int .i64 n]) Try.func24 rfl Try.ntmps24 rfl ?_
  intro Q0 hRet hNor hPan
  have H := Hp.start w
  have H : Hp w [] [] w := H
  refine G.seqK fun K1 hK2 => ?_
  refine G.region ?_
  refine GL.run (j := 1) 1 [0] [(0, .int .i64 n)] (by kernel_rfl) rfl ?_
  refine GL.k rfl hK2 (fun _ _ h => h) ?_
  refine G.seqK fun K3 hK4 => ?_
  refine G.region ?_
  refine GL.run (j := 3) 3 [0, 5] [(0, .int .i64 n), (5, .bool (decide (1 ≤ n)))] (by kernel_rfl) rfl ?_
  cases hb5 : (decide (1 ≤ n))
  · skip
    have hb5f := of_decide_eq_false hb5
    refine GL.run (j := 7) 4 [2] [(2, .bool false)] (by kernel_rfl) rfl ?_
    refine GL.k rfl hK4 (fun _ _ h => h) ?_
    refine G.ret ?_
    intro F_ hF_ hM_
    refine hRet _ _ (bodyPost_1 rfl (RV.tmp rfl) ?_ F_ hF_ hM_)
    have e0 : leafB n = false := by unfold leafB; first | (rw [Bool.eq_iff_iff]; simp only [decide_eq_true_eq]; omega) | (rw [decide_eq_false_iff_not]; omega)
    rw [e0]
    exact ⟨rfl, H.sub (List.nil_sublist _)⟩
  · skip
    have hb5f := of_decide_eq_true hb5
    refine GL.run (j := 7) 4 [2] [(2, .bool (decide (n ≤ 65536)))] (by kernel_rfl) rfl ?_
    refine GL.k rfl hK4 (fun _ _ h => h) ?_
    refine G.ret ?_
    intro F_ hF_ hM_
    refine hRet _ _ (bodyPost_1 rfl (RV.tmp rfl) ?_ F_ hF_ hM_)
    have e0 : leafB n = (decide (n ≤ 65536)) := by unfold leafB; first | (rw [Bool.eq_iff_iff]; simp only [decide_eq_true_eq]; omega) | (rw [decide_eq_false_iff_not]; omega)
    rw [e0]
    exact ⟨rfl, H.sub (List.nil_sublist _)⟩
def chkE (n : Int) : Nat := if n = 0 then 16 else if leafB n = true then 0 else 3
theorem Check_calls (n : Int) (w : World) : Calls Try.prog 22 #[.int .i64 n] w fun e w' => e = .returned (.int .i64 ((chkE n : Nat) : Int)) ∧ Hp w [] [] w' := by
  refine calls_G (args := [.int .i64 n]) Try.func22 rfl Try.ntmps22 rfl ?_
  intro Q0 hRet hNor hPan
  have H := Hp.start w
  have H : Hp w [] [] w := H
  refine G.seqK fun K1 hK2 => ?_
  refine G.region ?_
  refine GL.run (j := 1) 1 [0] [(0, .int .i64 n)] (by kernel_rfl) rfl ?_
  refine GL.k rfl hK2 (fun _ _ h => h) ?_
  refine G.seqK fun K3 hK4 => ?_
  refine G.block ?_
  refine G.seqK fun K5 hK6 => ?_
  refine G.region ?_
  refine GL.run (j := 3) 3 [0, 3] [(0, .int .i64 n), (3, .bool (n == 0))] (by kernel_rfl) rfl ?_
  refine GL.k rfl hK6 (fun _ _ h => h) ?_
  cases hb7 : (n == 0)
  · skip
    have hb7f := ne_of_beq_false hb7
    refine G.no rfl ?_
    refine G.seqK fun K8 hK9 => ?_
    refine G.region ?_
    refine GL.run (j := 1) 1 [7] [(7, .int .i64 n)] (by kernel_rfl) rfl ?_
    refine GL.call (j := 2) (Leaves_calls n w) (by kernel_rfl) rfl (fun e_ w10 hR => ?_)
    obtain ⟨rfl, H12⟩ := hR
    have H11 : Hp w [] [] w10 := H.callNil H12
    refine ⟨_, rfl, [8], [(8, .bool (leafB n))], by kernel_rfl, ?_⟩
    refine GL.run (j := 4) 2 [6] [(6, .bool (!(leafB n)))] (by kernel_rfl) rfl ?_
    refine GL.k rfl hK9 (fun _ _ h => h) ?_
    cases hb13 : (leafB n)
    · skip
      refine G.yes rfl ?_
      refine G.seqK fun K14 hK15 => ?_
      refine G.region ?_
      refine GL.run (j := 1) 1 [2] [(2, .int .i64 3)] (by kernel_rfl) rfl ?_
      refine GL.k rfl hK15 (fun _ _ h => h) ?_
      refine G.ret ?_
      intro F_ hF_ hM_
      refine hRet _ _ (bodyPost_1 rfl (RV.tmp rfl) ?_ F_ hF_ hM_)
      have e0 : chkE n = 3 := by unfold chkE; (repeat' split) <;> first | rfl | omega | simp_all
      rw [e0]
      exact ⟨rfl, H11.sub (List.nil_sublist _)⟩
    · skip
      refine G.no rfl ?_
      refine G.skipK hK4 (fun _ _ h => h) ?_
      refine G.seqK fun K16 hK17 => ?_
      refine G.region ?_
      refine GL.run (j := 1) 1 [2] [(2, .int .i64 0)] (by kernel_rfl) rfl ?_
      refine GL.k rfl hK17 (fun _ _ h => h) ?_
      refine G.ret ?_
      intro F_ hF_ hM_
      refine hRet _ _ (bodyPost_1 rfl (RV.tmp rfl) ?_ F_ hF_ hM_)
      have e0 : chkE n = 0 := by unfold chkE; (repeat' split) <;> first | rfl | omega | simp_all
      rw [e0]
      exact ⟨rfl, H11.sub (List.nil_sublist _)⟩
  · skip
    have hb7f := eq_of_beq hb7
    refine G.yes rfl ?_
    refine G.seqK fun K18 hK19 => ?_
    refine G.region ?_
    refine GL.run (j := 1) 1 [2] [(2, .int .i64 16)] (by kernel_rfl) rfl ?_
    refine GL.k rfl hK19 (fun _ _ h => h) ?_
    refine G.ret ?_
    intro F_ hF_ hM_
    refine hRet _ _ (bodyPost_1 rfl (RV.tmp rfl) ?_ F_ hF_ hM_)
    have e0 : chkE n = 16 := by unfold chkE; (repeat' split) <;> first | rfl | omega | simp_all
    rw [e0]
    exact ⟨rfl, H.sub (List.nil_sublist _)⟩
theorem Both_calls (X Y : List UInt8) (hX : X.length = 32) (hY : Y.length = 32) (w : World) : Calls Try.prog 26 #[.agg (by8 X).toArray, .agg (by8 Y).toArray] w fun e w' => e = .returned (.agg (by8 (bothH X Y)).toArray) ∧ Hp w [] [] w' := by
  refine calls_G (args := [.agg (by8 X).toArray, .agg (by8 Y).toArray]) Try.func26 rfl Try.ntmps26 rfl ?_
  intro Q0 hRet hNor hPan
  have H := Hp.start w
  have H : Hp w [] [] w := H
  refine G.seqK fun K1 hK2 => ?_
  refine G.region ?_
  obtain ⟨p3, w4, r5, H6⟩ := H.box (P := Try.prog) 25 (by8 X) (.agg (by8 X).toArray) rfl
  have H6 : Hp w [] [.blk p3 (by8 X) 25] w4 := H6
  refine GL.sem (j := 1) (r5) [1, 2] [(1, .agg (by8 Y).toArray), (2, pt p3 0)] (by kernel_rfl) (by kernel_rfl) rfl ?_
  obtain ⟨p7, w8, r9, H10⟩ := H6.box (P := Try.prog) 25 (by8 Y) (.agg (by8 Y).toArray) rfl
  have H10 : Hp w [] [.blk p3 (by8 X) 25, .blk p7 (by8 Y) 25] w8 := H10
  refine GL.sem (j := 2) (r9) [2, 3] [(2, pt p3 0), (3, pt p7 0)] (by kernel_rfl) (by kernel_rfl) rfl ?_
  obtain ⟨p11, w12, r13, H14⟩ := H10.alloc (P := Try.prog) 25 (by8 (List.replicate 32 0)) (by kernel_rfl)
  have H14 : Hp w [] [.blk p3 (by8 X) 25, .blk p7 (by8 Y) 25, .blk p11 (by8 (List.replicate 32 0)) 25] w12 := H14
  refine GL.sem (j := 3) (r13) [2, 3, 4] [(2, pt p3 0), (3, pt p7 0), (4, pt p11 0)] (by kernel_rfl) (by kernel_rfl) rfl ?_
  refine GL.k rfl hK2 (fun _ _ h => h) ?_
  refine G.seqK fun K15 hK16 => ?_
  refine G.heldP (Hp w [] [.blk p3 (by8 X) 25, .blk p7 (by8 Y) 25]) (by kernel_rfl) (by kernel_rfl) (fun c_ a_ d_ v_ w_ h_ => hPan c_ a_ d_ v_ w_ h_) ?_
  have H17 := H14.drew
  generalize ({ w12 with drawn := w12.drawn + 1 } : World) = w18 at H17 ⊢
  have hS19 : Hp w [] [.blk p3 (by8 X) 25, .blk p7 (by8 Y) 25] w18 := H17.sub (List.Sublist.cons_cons _ (List.Sublist.cons_cons _ (List.Sublist.cons _ (List.Sublist.slnil))))
  refine GP.run [0, 1] [4, 5, 6] [(4, pt p11 0), (5, .slice (some ⟨p3, 0, none⟩) 32 32), (6, .slice (some ⟨p7, 0, none⟩) 32 32)] [0, 1] (by kernel_rfl) rfl hS19 ?_
  obtain ⟨p20, w21, r22, H23⟩ := H17.made (P := Try.prog) (Instr.buildSlice 69 2 #[(0, .slice (some ⟨p3, 0, none⟩) 32 32), (1, .slice (some ⟨p7, 0, none⟩) 32 32)]) (fun b_ => .slice (some ⟨b_, 0, none⟩) 2 2) [.slice (some ⟨p3, 0, none⟩) 32 32, .slice (some ⟨p7, 0, none⟩) 32 32] 49 (by kernel_rfl)
  have H23 : Hp w [] [.blk p3 (by8 X) 25, .blk p7 (by8 Y) 25, .blk p11 (by8 (List.replicate 32 0)) 25, .blk p20 [.slice (some ⟨p3, 0, none⟩) 32 32, .slice (some ⟨p7, 0, none⟩) 32 32] 49] w21 := H23
  have hS24 : Hp w [] [.blk p3 (by8 X) 25, .blk p7 (by8 Y) 25] w21 := H23.sub (List.Sublist.cons_cons _ (List.Sublist.cons_cons _ (List.Sublist.cons _ (List.Sublist.cons _ (List.Sublist.slnil)))))
  refine GP.made 2 r22 [4, 7] [(4, pt p11 0), (7, .slice (some ⟨p20, 0, none⟩) 2 2)] (by kernel_rfl) (by kernel_rfl) (by kernel_rfl) hS24 ?_
  have hr30 : ∀ s ∈ ([((some ⟨p3, 0, none⟩), 32, X), ((some ⟨p7, 0, none⟩), 32, Y)] : List SB), RdS w21 s.1 (by8 s.2.2) := by
    intro s hs
    simp only [List.mem_cons, List.not_mem_nil, or_false] at hs
    rcases hs with rfl | rfl
    · exact H23.rdBlk (o := 0) (xs := by8 X) 0 32 rfl (sub_whole (by rw [by8_length, hX]))
    · exact H23.rdBlk (o := 0) (xs := by8 Y) 1 32 rfl (sub_whole (by rw [by8_length, hY]))
  have hX31 : flat ([((some ⟨p3, 0, none⟩), 32, X), ((some ⟨p7, 0, none⟩), 32, Y)] : List SB) = (X ++ Y) := by simp [flat]
  have hvhX31 : ([((some ⟨p3, 0, none⟩), 32, X), ((some ⟨p7, 0, none⟩), 32, Y)] : List SB).map sv = [.slice (some ⟨p3, 0, none⟩) 32 32, .slice (some ⟨p7, 0, none⟩) 32 32] := by simp only [List.map_cons, List.map_nil, sv, hX, hY]
  refine GP.call 3 (by have h_ := Concat_calls p20 ([((some ⟨p3, 0, none⟩), 32, X), ((some ⟨p7, 0, none⟩), 32, Y)] : List SB) w21 (by rw [hvhX31]; exact H23.blkAt 3 rfl) hr30 (by rw [hX31, List.length_append, hX, hY]; decide) (by show 2 ≤ _; decide); rw [hX31] at h_; exact h_) (by kernel_rfl) (by kernel_rfl) (fun e_ w27 hR => ?_)
  obtain ⟨A25, c26, rfl, H29⟩ := hR
  have H28 : Hp w [] [.blk p3 (by8 X) 25, .blk p7 (by8 Y) 25, .blk p11 (by8 (List.replicate 32 0)) 25, .blk p20 [.slice (some ⟨p3, 0, none⟩) 32 32, .slice (some ⟨p7, 0, none⟩) 32 32] 49, .row A25 ((X ++ Y).length) c26 5 1 (by8 (X ++ Y))] w27 := H23.callNew H29
  have hS32 : Hp w [] [.blk p3 (by8 X) 25, .blk p7 (by8 Y) 25] w27 := H28.sub (List.Sublist.cons_cons _ (List.Sublist.cons_cons _ (List.Sublist.cons _ (List.Sublist.cons _ (List.Sublist.cons _ (List.Sublist.slnil))))))
  refine ⟨_, rfl, hS32, [4, 8], [(4, pt p11 0), (8, .slice A25 ((X ++ Y).length) c26)], by kernel_rfl, ?_⟩
  refine GP.call 4 (Double_calls A25 ((X ++ Y).length) c26 (X ++ Y) w27 (H28.rdRow 4 rfl) (by first | rfl | omega) (by rw [List.length_append, hX, hY]; decide)) (by kernel_rfl) (by kernel_rfl) (fun e_ w33 hR => ?_)
  obtain ⟨rfl, H35⟩ := hR
  have H34 : Hp w [] [.blk p3 (by8 X) 25, .blk p7 (by8 Y) 25, .blk p11 (by8 (List.replicate 32 0)) 25, .blk p20 [.slice (some ⟨p3, 0, none⟩) 32 32, .slice (some ⟨p7, 0, none⟩) 32 32] 49, .row A25 ((X ++ Y).length) c26 5 1 (by8 (X ++ Y))] w33 := H28.callNil H35
  have hS36 : Hp w [] [.blk p3 (by8 X) 25, .blk p7 (by8 Y) 25] w33 := H34.sub (List.Sublist.cons_cons _ (List.Sublist.cons_cons _ (List.Sublist.cons _ (List.Sublist.cons _ (List.Sublist.cons _ (List.Sublist.slnil))))))
  refine ⟨_, rfl, hS36, [4, 9], [(4, pt p11 0), (9, .agg (by8 (sha (sha (X ++ Y)))).toArray)], by kernel_rfl, ?_⟩
  obtain ⟨w37, r38, H39⟩ := H34.stA (P := Try.prog) (o := 0) (vs := by8 (sha (sha (X ++ Y)))) (ty := 25) (m := 32) 2 rfl (by kernel_rfl) (by rw [by8_length, sha_length]) (Nat.le_of_eq (by rw [Nat.zero_add]; exact ((show (by8 (List.replicate 32 0)).length = 32 from by rw [by8_length]; rfl)).symm)) (by8_one _)
  rw [st_whole (by rw [by8_length]; rfl)] at H39
  have H39 : Hp w [] [.blk p3 (by8 X) 25, .blk p7 (by8 Y) 25, .blk p11 (by8 (sha (sha (X ++ Y)))) 25, .blk p20 [.slice (some ⟨p3, 0, none⟩) 32 32, .slice (some ⟨p7, 0, none⟩) 32 32] 49, .row A25 ((X ++ Y).length) c26 5 1 (by8 (X ++ Y))] w37 := H39
  have hS40 : Hp w [] [.blk p3 (by8 X) 25, .blk p7 (by8 Y) 25] w37 := H39.sub (List.Sublist.cons_cons _ (List.Sublist.cons_cons _ (List.Sublist.cons _ (List.Sublist.cons _ (List.Sublist.cons _ (List.Sublist.slnil))))))
  refine GP.semU 5 r38 [4] [(4, pt p11 0)] (by kernel_rfl) rfl rfl (by kernel_rfl) hS40 ?_
  refine GP.k (by kernel_rfl) hK16 (fun _ _ h => h) ?_
  refine G.ret ?_
  intro F_ hF_ hM_
  refine hRet _ _ (bodyPost_1 rfl (RV.cell rfl (H39.ldA (o := 0) (ty := 25) (m := 32) (sub := by8 (sha (sha (X ++ Y)))) 2 rfl (by kernel_rfl) (sub_whole (by rw [by8_length, sha_length])) (by rw [by8_length, sha_length]))) ?_ F_ hF_ hM_)
  exact ⟨rfl, H39.sub (List.nil_sublist _)⟩
theorem ChunkH_calls (A : Option Addr) (n c : Nat) (w : World) : Calls Try.prog 29 #[.slice A n c, .int .i64 2] w fun e w' => ∃ B D, e = .returned (.func (.func 35) #[] #[.pointer (some ⟨B, 0, none⟩), .pointer (some ⟨D, 0, none⟩)]) ∧ Hp w [] [.blk B [.slice A n c] 22, .blk D [.int .i64 2] 3] w' := by
  refine calls_G (args := [.slice A n c, .int .i64 2]) Try.func29 rfl Try.ntmps29 rfl ?_
  intro Q0 hRet hNor hPan
  have H := Hp.start w
  have H : Hp w [] [] w := H
  refine G.seqK fun K1 hK2 => ?_
  refine G.region ?_
  obtain ⟨p3, w4, r5, H6⟩ := H.box (P := Try.prog) 22 [.slice A n c] (.slice A n c) rfl
  have H6 : Hp w [] [.blk p3 [.slice A n c] 22] w4 := H6
  refine GL.sem (j := 1) (r5) [1, 2] [(1, .int .i64 2), (2, pt p3 0)] (by kernel_rfl) (by kernel_rfl) rfl ?_
  obtain ⟨p7, w8, r9, H10⟩ := H6.box (P := Try.prog) 3 [.int .i64 2] (.int .i64 2) rfl
  have H10 : Hp w [] [.blk p3 [.slice A n c] 22, .blk p7 [.int .i64 2] 3] w8 := H10
  refine GL.sem (j := 2) (r9) [2, 3] [(2, pt p3 0), (3, pt p7 0)] (by kernel_rfl) (by kernel_rfl) rfl ?_
  refine GL.run (j := 3) 1 [2, 3] [(2, pt p3 0), (3, pt p7 0)] (by kernel_rfl) rfl ?_
  refine GL.k rfl hK2 (fun _ _ h => h) ?_
  refine G.seqK fun K11 hK12 => ?_
  refine G.seqK fun K13 hK14 => ?_
  refine G.region ?_
  refine GL.sem (j := 1) (H10.ld (o := 0) (ty := 3) (v := .int .i64 2) 1 rfl (by kernel_rfl) rfl) [2, 3, 5] [(2, pt p3 0), (3, pt p7 0), (5, .int .i64 2)] (by kernel_rfl) (by kernel_rfl) rfl ?_
  refine GL.run (j := 2) 1 [2, 3, 6] [(2, pt p3 0), (3, pt p7 0), (6, .bool false)] (by kernel_rfl) rfl ?_
  refine GL.k rfl hK14 (fun _ _ h => h) ?_
  refine G.no rfl ?_
  refine G.skipK hK12 (fun _ _ h => h) ?_
  refine G.seqK fun K15 hK16 => ?_
  refine G.region ?_
  refine GL.run (j := 2) 2 [4] [(4, .func (.func 35) #[] #[pt p3 0, pt p7 0])] (by kernel_rfl) rfl ?_
  refine GL.k rfl hK16 (fun _ _ h => h) ?_
  refine G.ret ?_
  intro F_ hF_ hM_
  refine hRet _ _ (bodyPost_1 rfl (RV.tmp rfl) ?_ F_ hF_ hM_)
  exact ⟨_, _, rfl, H10⟩
theorem ChunkH_iter (n : Nat) (hn : n ≤ 1000000) (A : Option Addr) (c : Nat) (hc : n ≤ c) (B D : Nat) : Iter Try.prog 35 #[pt B 0, pt D 0] ((n + 1) / 2) (fun k => #[.slice (Option.map (fun x => Addr.add x (2 * k * 32)) A) (min 2 (n - 2 * k)) (min 2 (n - 2 * k))]) (fun W => W.cell? ⟨B, 0, none⟩ = some (.slice A n c) ∧ W.cell? ⟨D, 0, none⟩ = some (.int .i64 2)) := by
  intro l J Jx hRd hst hy w h0
  rw [show (#[Value.func (.yield l) #[] #[]] ++ #[pt B 0, pt D 0] : Array Value) = #[.func (.yield l) #[] #[], pt B 0, pt D 0] by simp]
  refine calls_R (args := [.func (.yield l) #[] #[], pt B 0, pt D 0]) Try.func35 rfl Try.ntmps35 rfl ?_
  intro Q0 hRet hNor
  have H := Hp.start w
  have H : Hp w [] [] w := H
  refine RG.seqK fun K1 hK2 => ?_
  refine RG.region (by kernel_rfl) ?_
  refine RL.run (j := 1) 1 [0, 1, 2, 4] [(0, .func (.yield l) #[] #[]), (1, pt B 0), (2, pt D 0), (4, .int .i64 0)] (by kernel_rfl) rfl ?_
  refine RL.k rfl hK2 (fun _ _ h => h) ?_
  refine RG.block ?_
  refine RG.fit [0, 1, 2, 4] (M' := [(0, .func (.yield l) #[] #[]), (1, pt B 0), (2, pt D 0), (4, .int .i64 0)]) (by kernel_rfl) ?_
  refine RG.eq (M' := [(0, .func (.yield l) #[] #[]), (1, pt B 0), (2, pt D 0), (4, .int .i64 (((2 * 0) : Nat) : Int))]) (by rfl) ?_
  refine RG.loop (X := Nat) (fun k => [(0, .func (.yield l) #[] #[]), (1, pt B 0), (2, pt D 0), (4, .int .i64 (((2 * k) : Nat) : Int))]) (fun k w_ => k ≤ ((n + 1) / 2) ∧ J k w_) (fun k => ((n + 1) / 2) - k) 0 [0, 1, 2, 4] (by kernel_rfl) ⟨Nat.zero_le _, h0⟩ ?_
  rintro k wk ⟨hkN, hJk⟩
  have H3 := Hp.start wk
  refine RG.eq (M' := [(0, .func (.yield l) #[] #[]), (1, pt B 0), (2, pt D 0), (4, .int .i64 (((2 * k) : Nat) : Int))]) rfl ?_
  refine RG.seqK fun K4 hK5 => ?_
  refine RG.seqK fun K6 hK7 => ?_
  refine RG.region (by kernel_rfl) ?_
  refine RL.run (j := 1) 1 [0, 1, 2, 4, 6] [(0, .func (.yield l) #[] #[]), (1, pt B 0), (2, pt D 0), (4, .int .i64 (((2 * k) : Nat) : Int)), (6, .int .i64 (((2 * k) : Nat) : Int))] (by kernel_rfl) rfl ?_
  refine RL.sem (j := 2) (run_ld1 (P := Try.prog) (ty := 22) (a := ⟨B, 0, none⟩) (v := .slice A n c) (by kernel_rfl) (H3.oldCell (hRd _ _ hJk).1)) [0, 1, 2, 4, 6, 7] [(0, .func (.yield l) #[] #[]), (1, pt B 0), (2, pt D 0), (4, .int .i64 (((2 * k) : Nat) : Int)), (6, .int .i64 (((2 * k) : Nat) : Int)), (7, .slice A n c)] (by kernel_rfl) (by kernel_rfl) rfl ?_
  refine RL.run (j := 4) 2 [0, 1, 2, 4, 9] [(0, .func (.yield l) #[] #[]), (1, pt B 0), (2, pt D 0), (4, .int .i64 (((2 * k) : Nat) : Int)), (9, .bool (decide ((((2 * k) : Nat) : Int) < (n : Int))))] (by kernel_rfl) rfl ?_
  refine RL.k rfl hK7 (fun _ _ h => h) ?_
  cases hb8 : (decide ((((2 * k) : Nat) : Int) < (n : Int)))
  · skip
    have hb8f := of_decide_eq_false hb8
    refine RG.no rfl ?_
    -- exit to the end
    refine fun F_ hF_ hM_ => wpIn_exit ?_
    refine hNor _ _ (postM_0 rfl  ?_ F_ hF_ hM_)
    exact ⟨⟨_, rfl⟩, .inl (by first | exact hJk | (have hkk : k = ((n + 1) / 2) := by omega); rw [← hkk]; exact hJk)⟩
  · skip
    have hb8f := of_decide_eq_true hb8
    refine RG.yes rfl ?_
    refine RG.skipK hK5 (fun _ _ h => h) ?_
    refine RG.seqK fun K9 hK10 => ?_
    refine RG.block ?_
    refine RG.seqK fun K11 hK12 => ?_
    refine RG.draw H3 (by kernel_rfl) (by kernel_rfl) ?_
    refine GQ.sem (j := 1) (fun w_ H_ => run_ld1 (P := Try.prog) (ty := 3) (a := ⟨D, 0, none⟩) (v := .int .i64 2) (by kernel_rfl) (H_.oldCell (hRd _ _ hJk).2)) [0, 1, 2, 4, 13] [(0, .func (.yield l) #[] #[]), (1, pt B 0), (2, pt D 0), (4, .int .i64 (((2 * k) : Nat) : Int)), (13, .int .i64 2)] (by kernel_rfl) (by kernel_rfl) rfl ?_
    refine GQ.sem (j := 2) (fun w_ H_ => run_ld1 (P := Try.prog) (ty := 22) (a := ⟨B, 0, none⟩) (v := .slice A n c) (by kernel_rfl) (H_.oldCell (hRd _ _ hJk).1)) [0, 1, 2, 4, 13, 14] [(0, .func (.yield l) #[] #[]), (1, pt B 0), (2, pt D 0), (4, .int .i64 (((2 * k) : Nat) : Int)), (13, .int .i64 2), (14, .slice A n c)] (by kernel_rfl) (by kernel_rfl) rfl ?_
    refine GQ.run (j := 3) 1 [0, 1, 2, 4, 13, 14, 15] [(0, .func (.yield l) #[] #[]), (1, pt B 0), (2, pt D 0), (4, .int .i64 (((2 * k) : Nat) : Int)), (13, .int .i64 2), (14, .slice A n c), (15, .int .i64 (((2 * k) : Nat) : Int))] (by kernel_rfl) rfl ?_
    refine GQ.sem (j := 4) (fun w_ H_ => run_sliceFrom (P := Try.prog) (t := 22) (len := n) (cap := c) (A := A) (sz := 32) (l := 2 * k) (k1 := .i64) (by kernel_rfl) (by omega) (by omega) _) [0, 1, 2, 4, 13, 16] [(0, .func (.yield l) #[] #[]), (1, pt B 0), (2, pt D 0), (4, .int .i64 (((2 * k) : Nat) : Int)), (13, .int .i64 2), (16, .slice (if c = (2 * k) then A else Option.map (fun x => Addr.add x (2 * k * 32)) A) (n - 2 * k) (c - 2 * k))] (by kernel_rfl) (by kernel_rfl) rfl ?_
    refine GQ.run (j := 7) 3 [0, 1, 2, 4, 5] [(0, .func (.yield l) #[] #[]), (1, pt B 0), (2, pt D 0), (4, .int .i64 (((2 * k) : Nat) : Int)), (5, .int .i64 (if (((n - 2 * k) : Nat) : Int) < (2 : Int) then (((n - 2 * k) : Nat) : Int) else (2 : Int)))] (by kernel_rfl) rfl ?_
    have e13 : (if (((n - 2 * k) : Nat) : Int) < (2 : Int) then (((n - 2 * k) : Nat) : Int) else (2 : Int)) = (((min 2 (n - 2 * k)) : Nat) : Int) := min_int 2 (n - 2 * k)
    refine GQ.eq (M' := [(0, .func (.yield l) #[] #[]), (1, pt B 0), (2, pt D 0), (4, .int .i64 (((2 * k) : Nat) : Int)), (5, .int .i64 (((min 2 (n - 2 * k)) : Nat) : Int))]) (by rw [e13]) ?_
    clear e13
    refine GQ.kR rfl hK12 (fun _ _ h => h) (fun w14 H15 => ?_)
    refine RG.seqK fun K16 hK17 => ?_
    refine RG.region (by kernel_rfl) ?_
    refine RL.run (j := 1) 1 [0, 1, 2, 4, 5, 19] [(0, .func (.yield l) #[] #[]), (1, pt B 0), (2, pt D 0), (4, .int .i64 (((2 * k) : Nat) : Int)), (5, .int .i64 (((min 2 (n - 2 * k)) : Nat) : Int)), (19, .func (.yield l) #[] #[])] (by kernel_rfl) rfl ?_
    refine RL.sem (j := 2) (run_ld1 (P := Try.prog) (ty := 22) (a := ⟨B, 0, none⟩) (v := .slice A n c) (by kernel_rfl) (H15.oldCell (hRd _ _ hJk).1)) [0, 1, 2, 4, 5, 19, 20] [(0, .func (.yield l) #[] #[]), (1, pt B 0), (2, pt D 0), (4, .int .i64 (((2 * k) : Nat) : Int)), (5, .int .i64 (((min 2 (n - 2 * k)) : Nat) : Int)), (19, .func (.yield l) #[] #[]), (20, .slice A n c)] (by kernel_rfl) (by kernel_rfl) rfl ?_
    refine RL.run (j := 9) 7 [0, 1, 2, 4, 19, 20, 21, 24, 27] [(0, .func (.yield l) #[] #[]), (1, pt B 0), (2, pt D 0), (4, .int .i64 (((2 * k) : Nat) : Int)), (19, .func (.yield l) #[] #[]), (20, .slice A n c), (21, .int .i64 (((2 * k) : Nat) : Int)), (24, .int .i64 (IntKind.i64.wrap ((((2 * k) : Nat) : Int) + (((min 2 (n - 2 * k)) : Nat) : Int)))), (27, .int .i64 (IntKind.i64.wrap ((((2 * k) : Nat) : Int) + (((min 2 (n - 2 * k)) : Nat) : Int))))] (by kernel_rfl) rfl ?_
    have e18 : (IntKind.i64.wrap ((((2 * k) : Nat) : Int) + (((min 2 (n - 2 * k)) : Nat) : Int))) = (((2 * k) + (min 2 (n - 2 * k)) : Nat) : Int) := by rw [in_i64 (by omega)]; omega
    refine RL.eq (M' := [(0, .func (.yield l) #[] #[]), (1, pt B 0), (2, pt D 0), (4, .int .i64 (((2 * k) : Nat) : Int)), (19, .func (.yield l) #[] #[]), (20, .slice A n c), (21, .int .i64 (((2 * k) : Nat) : Int)), (24, .int .i64 (((2 * k) + (min 2 (n - 2 * k)) : Nat) : Int)), (27, .int .i64 (((2 * k) + (min 2 (n - 2 * k)) : Nat) : Int))]) (by rw [e18]) ?_
    clear e18
    refine RL.sem (j := 10) (run_slice3S (P := Try.prog) (t := 22) (sz := 32) (len := n) (cap := c) (A := A) (k1 := .i64) (k2 := .i64) (k3 := .i64) (l := 2 * k) (h := (2 * k) + (min 2 (n - 2 * k))) (n := (min 2 (n - 2 * k))) (by kernel_rfl) rfl (by omega) (by omega) _) [0, 1, 2, 4, 19, 28] [(0, .func (.yield l) #[] #[]), (1, pt B 0), (2, pt D 0), (4, .int .i64 (((2 * k) : Nat) : Int)), (19, .func (.yield l) #[] #[]), (28, .slice (Option.map (fun x => Addr.add x (2 * k * 32)) A) (min 2 (n - 2 * k)) (min 2 (n - 2 * k)))] (by kernel_rfl) (by kernel_rfl) rfl ?_
    refine RL.yield (j := 11) (hy k _ (by omega) (hst k _ _ hJk H15.below)) (by kernel_rfl) rfl (fun e_ w19 hR23 => ?_)
    obtain ⟨b20, rfl, hyt21, hyf22⟩ := yield_cases hR23
    have H24 := Hp.start w19
    refine ⟨_, rfl, [0, 1, 2, 4, 29], [(0, .func (.yield l) #[] #[]), (1, pt B 0), (2, pt D 0), (4, .int .i64 (((2 * k) : Nat) : Int)), (29, .bool b20)], by kernel_rfl, ?_⟩
    refine RL.run (j := 12) 1 [0, 1, 2, 4, 30] [(0, .func (.yield l) #[] #[]), (1, pt B 0), (2, pt D 0), (4, .int .i64 (((2 * k) : Nat) : Int)), (30, .bool (!b20))] (by kernel_rfl) rfl ?_
    refine RL.k rfl hK17 (fun _ _ h => h) ?_
    rcases (Bool.eq_false_or_eq_true b20).symm with hb25 | hb25
    · skip
      refine RG.eq (M' := [(0, .func (.yield l) #[] #[]), (1, pt B 0), (2, pt D 0), (4, .int .i64 (((2 * k) : Nat) : Int)), (30, .bool true)]) (by first | (rw [hb25]; done) | (rw [hb25]; rfl)) ?_
      have hJ26 := hyf22 hb25
      refine RG.yes rfl ?_
      refine RG.ret ?_
      intro F_ hF_ hM_
      refine hRet _ _ (postM_0 rfl  ?_ F_ hF_ hM_)
      exact ⟨⟨_, rfl⟩, .inr hJ26⟩
    · skip
      refine RG.eq (M' := [(0, .func (.yield l) #[] #[]), (1, pt B 0), (2, pt D 0), (4, .int .i64 (((2 * k) : Nat) : Int)), (30, .bool false)]) (by first | (rw [hb25]; done) | (rw [hb25]; rfl)) ?_
      have hJ27 := hyt21 hb25
      refine RG.no rfl ?_
      refine RG.skipK hK10 (fun _ _ h => h) ?_
      refine RG.region (by kernel_rfl) ?_
      refine RL.run (j := 1) 1 [0, 1, 2, 10] [(0, .func (.yield l) #[] #[]), (1, pt B 0), (2, pt D 0), (10, .int .i64 (((2 * k) : Nat) : Int))] (by kernel_rfl) rfl ?_
      refine RL.sem (j := 2) (run_ld1 (P := Try.prog) (ty := 3) (a := ⟨D, 0, none⟩) (v := .int .i64 2) (by kernel_rfl) (H24.oldCell (hRd _ _ hJ27).2)) [0, 1, 2, 10, 11] [(0, .func (.yield l) #[] #[]), (1, pt B 0), (2, pt D 0), (10, .int .i64 (((2 * k) : Nat) : Int)), (11, .int .i64 2)] (by kernel_rfl) (by kernel_rfl) rfl ?_
      refine RL.run (j := 4) 2 [0, 1, 2, 4] [(0, .func (.yield l) #[] #[]), (1, pt B 0), (2, pt D 0), (4, .int .i64 (IntKind.i64.wrap ((((2 * k) : Nat) : Int) + 2)))] (by kernel_rfl) rfl ?_
      have e28 : (IntKind.i64.wrap ((((2 * k) : Nat) : Int) + 2)) = (((2 * k) + 2 : Nat) : Int) := by rw [in_i64 (by omega)]; omega
      refine RL.eq (M' := [(0, .func (.yield l) #[] #[]), (1, pt B 0), (2, pt D 0), (4, .int .i64 (((2 * k) + 2 : Nat) : Int))]) (by rw [e28]) ?_
      clear e28
      refine RL.fit (ts := [0, 1, 2, 4]) (M' := [(0, .func (.yield l) #[] #[]), (1, pt B 0), (2, pt D 0), (4, .int .i64 (((2 * k) + 2 : Nat) : Int))]) (by kernel_rfl) ?_
      refine RL.eq (M' := [(0, .func (.yield l) #[] #[]), (1, pt B 0), (2, pt D 0), (4, .int .i64 (((2 * (k + 1)) : Nat) : Int))]) (by rw [show 2 * k + 2 = 2 * (k + 1) by omega]) ?_
      exact RL.again (k + 1) [0, 1, 2, 4] rfl (by kernel_rfl) (by show ((n + 1) / 2) - (k + 1) < ((n + 1) / 2) - k; omega) ⟨by omega, hJ27⟩
theorem Up_calls (A : Option Addr) (c : Nat) (l : List (List UInt8)) (w : World) (hx : RdS w A (by8 (flat8 l))) (hok : ok32 l) (hc : l.length ≤ c) (hl : l.length ≤ 65536) : Calls Try.prog 23 #[.slice A l.length c] w fun e w' => ∃ A' c', e = .returned (.slice A' (upH l).length c') ∧ Hp w [] [.row A' (upH l).length c' 25 32 (by8 (flat8 (upH l)))] w' := by
  refine calls_R (args := [.slice A l.length c]) Try.func23 rfl Try.ntmps23 rfl ?_
  intro Q0 hRet hNor
  have H := Hp.start w
  have H : Hp w [] [] w := H
  refine RG.seqK fun K1 hK2 => ?_
  refine RG.region (by kernel_rfl) ?_
  refine RL.run (j := 1) 1 [0] [(0, .slice A l.length c)] (by kernel_rfl) rfl ?_
  refine RL.k rfl hK2 (fun _ _ h => h) ?_
  refine RG.seqK fun K3 hK4 => ?_
  refine RG.region (by kernel_rfl) ?_
  obtain ⟨p5, w6, r7, H8⟩ := H.alloc (P := Try.prog) 22 [.slice none 0 0] (by kernel_rfl)
  have H8 : Hp w [] [.blk p5 [.slice none 0 0] 22] w6 := H8
  refine RL.sem (j := 1) (r7) [0, 3] [(0, .slice A l.length c), (3, pt p5 0)] (by kernel_rfl) (by kernel_rfl) rfl ?_
  refine RL.k rfl hK4 (fun _ _ h => h) ?_
  refine RG.seqK fun K9 hK10 => ?_
  refine RG.seqK fun K11 hK12 => ?_
  refine RG.region (by kernel_rfl) ?_
  refine RL.run (j := 1) 1 [3, 5] [(3, pt p5 0), (5, .slice A l.length c)] (by kernel_rfl) rfl ?_
  refine RL.call (j := 2) (ChunkH_calls A l.length c w6) (by kernel_rfl) rfl (fun e_ w17 hR => ?_)
  obtain ⟨B13, D14, rfl, H16⟩ := hR
  have H15 : Hp w [] [.blk p5 [.slice none 0 0] 22, .blk B13 [.slice A l.length c] 22, .blk D14 [.int .i64 2] 3] w17 := H8.callNew H16
  refine ⟨_, rfl, [3, 6], [(3, pt p5 0), (6, .func (.func 35) #[] #[pt B13 0, pt D14 0])], by kernel_rfl, ?_⟩
  refine RL.k rfl hK12 (fun _ _ h => h) ?_
  refine RG.block ?_
  have H18 := H15.rowNil 25 32
  have H18 : Hp w [] [.blk p5 [.slice none 0 0] 22, .blk B13 [.slice A l.length c] 22, .blk D14 [.int .i64 2] 3, .row none 0 0 25 32 (by8 (flat8 ((upH l).take 0)))] w17 := H18
  refine RG.fit [3, 6] (M' := [(3, pt p5 0), (6, .func (.func 35) #[] #[pt B13 0, pt D14 0])]) (by kernel_rfl) ?_
  refine RG.range H18 (gf := 35) (lb := #[pt B13 0, pt D14 0]) rfl (enters_of Try.func35 (by kernel_rfl) rfl) (Xt := Option Addr × Nat) (fun k ⟨A_, c_⟩ => True) (fun k ⟨A_, c_⟩ => [.blk p5 [.slice A_ k c_] 22, .blk B13 [.slice A l.length c] 22, .blk D14 [.int .i64 2] 3, .row A_ k c_ 25 32 (by8 (flat8 ((upH l).take k)))]) (fun ⟨A_, c_⟩ => False) (fun ⟨A_, c_⟩ => []) (N := ((l.length + 1) / 2)) (enc := fun k => #[.slice (Option.map (fun x => Addr.add x (2 * k * 32)) A) (min 2 (l.length - 2 * k)) (min 2 (l.length - 2 * k))]) (ChunkH_iter l.length (by omega) A c hc B13 D14) (fun _ => rfl) ⟨none, 0⟩ trivial rfl (fun k s E W hx HW => ⟨(HW.blkAt 1 rfl).cell 0, (HW.blkAt 2 rfl).cell 0⟩) (fun k => [(7, .slice (Option.map (fun x => Addr.add x (2 * k * 32)) A) (min 2 (l.length - 2 * k)) (min 2 (l.length - 2 * k))), (3, pt p5 0), (6, .func (.func 35) #[] #[pt B13 0, pt D14 0])]) (fun _ => rfl) ?_ ?_ ?_
  · skip
    rintro D22 l23 oR24 oB25 k ⟨A_, c_⟩ w19 K26 hk27 hx20 H21 hK28
    have H21 : Hp w [] [.blk p5 [.slice A_ k c_] 22, .blk B13 [.slice A l.length c] 22, .blk D14 [.int .i64 2] 3, .row A_ k c_ 25 32 (by8 (flat8 ((upH l).take k))), .obj D22 DF, .obj l23 oR24] w19 := H21
    have hk9 := hk27
    have hk2 : 2 * k < l.length := by omega
    refine RG.region (by kernel_rfl) ?_
    refine RL.run (j := 1) 1 [3, 4] [(3, pt p5 0), (4, .slice (Option.map (fun x => Addr.add x (2 * k * 32)) A) (min 2 (l.length - 2 * k)) (min 2 (l.length - 2 * k)))] (by kernel_rfl) rfl ?_
    refine RL.done rfl (fun F_ hF_ hM_ => hK28 F_ _ [.blk p5 [.slice A_ k c_] 22, .blk B13 [.slice A l.length c] 22, .blk D14 [.int .i64 2] 3, .row A_ k c_ 25 32 (by8 (flat8 ((upH l).take k)))] _ hF_ hM_ H21 ?_)
    intro w29 H30
    have H30 : Hp w [] [.blk p5 [.slice A_ k c_] 22, .blk B13 [.slice A l.length c] 22, .blk D14 [.int .i64 2] 3, .row A_ k c_ 25 32 (by8 (flat8 ((upH l).take k))), .obj D22 DF, .obj l23 oB25] w29 := H30
    refine RG.block ?_
    refine RG.heldP (Hp w [] [.blk B13 [.slice A l.length c] 22, .blk D14 [.int .i64 2] 3, .obj D22 DF, .obj l23 oB25]) (by kernel_rfl) (by kernel_rfl) (by kernel_rfl) (fun ⟨_, _, h_⟩ => h_) (fun c_ a_ d_ v_ w_ h_ => h_) ?_
    have H31 := H30.drew
    generalize ({ w29 with drawn := w29.drawn + 1 } : World) = w32 at H31 ⊢
    have hS33 : Hp w [] [.blk B13 [.slice A l.length c] 22, .blk D14 [.int .i64 2] 3, .obj D22 DF, .obj l23 oB25] w32 := H31.sub (List.Sublist.cons _ (List.Sublist.cons_cons _ (List.Sublist.cons_cons _ (List.Sublist.cons _ (List.Sublist.cons_cons _ (List.Sublist.cons_cons _ (List.Sublist.slnil)))))))
    refine GP.run [1] [3, 4, 9] [(3, pt p5 0), (4, .slice (Option.map (fun x => Addr.add x (2 * k * 32)) A) (min 2 (l.length - 2 * k)) (min 2 (l.length - 2 * k))), (9, .slice (Option.map (fun x => Addr.add x (2 * k * 32)) A) (min 2 (l.length - 2 * k)) (min 2 (l.length - 2 * k)))] [1] (by kernel_rfl) rfl hS33 ?_
    refine GP.sem 2 (fun w_ H_ => run_idxRdN (P := Try.prog) (k := .i64) (t := 22) (sz := 32) (A := (Option.map (fun x => Addr.add x (2 * k * 32)) A)) (len := (min 2 (l.length - 2 * k))) (cap := (min 2 (l.length - 2 * k))) (j := 0) (by kernel_rfl) rfl ((hx.hp H_).chunk (2 * k * 32) ((min 2 (l.length - 2 * k)) * 32) (by rw [flat8_length hok]; omega)) (chunk_len hok hk2) (by decide) (by omega)) [3, 4, 10] [(3, pt p5 0), (4, .slice (Option.map (fun x => Addr.add x (2 * k * 32)) A) (min 2 (l.length - 2 * k)) (min 2 (l.length - 2 * k))), (10, .pointer (Option.map (fun x => Addr.add x (0 * 32)) (Option.map (fun x => Addr.add x (2 * k * 32)) A)))] (by kernel_rfl) (by kernel_rfl) (by kernel_rfl) hS33 ?_
    refine GP.sem 3 (fun w_ H_ => run_ldRdA (P := Try.prog) (ty := 25) (m := 32) (o := (0 * 32)) (A := (Option.map (fun x => Addr.add x (2 * k * 32)) A)) (sub := by8 (l.getD (2 * k) [])) (by kernel_rfl) ((hx.hp H_).chunk (2 * k * 32) ((min 2 (l.length - 2 * k)) * 32) (by rw [flat8_length hok]; omega)) (chunk_at (j := 0) hok (by omega)) (by rw [by8_length, ok32_at hok (by omega)]) (by decide)) [3, 4, 11] [(3, pt p5 0), (4, .slice (Option.map (fun x => Addr.add x (2 * k * 32)) A) (min 2 (l.length - 2 * k)) (min 2 (l.length - 2 * k))), (11, .agg (by8 (l.getD (2 * k) [])).toArray)] (by kernel_rfl) (by kernel_rfl) (by kernel_rfl) hS33 ?_
    refine GP.run [4, 5, 6, 7] [3, 11, 12, 15] [(3, pt p5 0), (11, .agg (by8 (l.getD (2 * k) [])).toArray), (12, .slice (Option.map (fun x => Addr.add x (2 * k * 32)) A) (min 2 (l.length - 2 * k)) (min 2 (l.length - 2 * k))), (15, .int .i64 (IntKind.i64.wrap ((((min 2 (l.length - 2 * k)) : Nat) : Int) - 1)))] [1, 2, 3, 4, 5, 6, 7] (by kernel_rfl) rfl hS33 ?_
    have e34 : (IntKind.i64.wrap ((((min 2 (l.length - 2 * k)) : Nat) : Int) - 1)) = ((((min 2 (l.length - 2 * k)) - 1) : Nat) : Int) := by rw [in_i64 (by omega)]; omega
    refine GP.eq (M' := [(3, pt p5 0), (11, .agg (by8 (l.getD (2 * k) [])).toArray), (12, .slice (Option.map (fun x => Addr.add x (2 * k * 32)) A) (min 2 (l.length - 2 * k)) (min 2 (l.length - 2 * k))), (15, .int .i64 ((((min 2 (l.length - 2 * k)) - 1) : Nat) : Int))]) (by rw [e34]) ?_
    clear e34
    refine GP.sem 8 (fun w_ H_ => run_idxRdN (P := Try.prog) (k := .i64) (t := 22) (sz := 32) (A := (Option.map (fun x => Addr.add x (2 * k * 32)) A)) (len := (min 2 (l.length - 2 * k))) (cap := (min 2 (l.length - 2 * k))) (j := ((min 2 (l.length - 2 * k)) - 1)) (by kernel_rfl) rfl ((hx.hp H_).chunk (2 * k * 32) ((min 2 (l.length - 2 * k)) * 32) (by rw [flat8_length hok]; omega)) (chunk_len hok hk2) (by decide) (by omega)) [3, 11, 16] [(3, pt p5 0), (11, .agg (by8 (l.getD (2 * k) [])).toArray), (16, .pointer (Option.map (fun x => Addr.add x (((min 2 (l.length - 2 * k)) - 1) * 32)) (Option.map (fun x => Addr.add x (2 * k * 32)) A)))] (by kernel_rfl) (by kernel_rfl) (by kernel_rfl) hS33 ?_
    refine GP.sem 9 (fun w_ H_ => run_ldRdA (P := Try.prog) (ty := 25) (m := 32) (o := (((min 2 (l.length - 2 * k)) - 1) * 32)) (A := (Option.map (fun x => Addr.add x (2 * k * 32)) A)) (sub := by8 (l.getD (if 2 * k + 1 < l.length then 2 * k + 1 else 2 * k) [])) (by kernel_rfl) ((hx.hp H_).chunk (2 * k * 32) ((min 2 (l.length - 2 * k)) * 32) (by rw [flat8_length hok]; omega)) ((chunk_at (j := ((min 2 (l.length - 2 * k)) - 1)) hok (by omega)).trans (by congr 2; split <;> omega)) (by rw [by8_length, ok32_at hok (by split <;> omega)]) (by decide)) [3, 11, 17] [(3, pt p5 0), (11, .agg (by8 (l.getD (2 * k) [])).toArray), (17, .agg (by8 (l.getD (if 2 * k + 1 < l.length then 2 * k + 1 else 2 * k) [])).toArray)] (by kernel_rfl) (by kernel_rfl) (by kernel_rfl) hS33 ?_
    refine GP.named fun Xd_ hXd_ => ?_
    have st61 : ∀ (wD_ : World) (p50 : Nat), Hp w [] [.blk p5 [.slice A_ k c_] 22, .blk B13 [.slice A l.length c] 22, .blk D14 [.int .i64 2] 3, .row A_ k c_ 25 32 (by8 (flat8 ((upH l).take k))), .obj D22 DF, .obj l23 oB25, .row (some ⟨p50, 0, none⟩) 1 1 25 32 (by8 (bothH (l.getD (2 * k) []) (l.getD (if 2 * k + 1 < l.length then 2 * k + 1 else 2 * k) [])))] wD_ → Xd_ [1, 2, 3, 4, 5, 6, 7, 8, 9, 0, 10, 11] [(3, pt p5 0), (8, .slice A_ k c_), (19, .slice (some ⟨p50, 0, none⟩) 1 1)] wD_ := by
      intro wD_ p50 HD_
      rw [hXd_]
      have hS62 : Hp w [] [.blk B13 [.slice A l.length c] 22, .blk D14 [.int .i64 2] 3, .obj D22 DF, .obj l23 oB25] wD_ := HD_.sub (List.Sublist.cons _ (List.Sublist.cons_cons _ (List.Sublist.cons_cons _ (List.Sublist.cons _ (List.Sublist.cons_cons _ (List.Sublist.cons_cons _ (List.Sublist.cons _ (List.Sublist.slnil))))))))
      obtain ⟨A63, c64, w65, r66, H67⟩ := HD_.append (P := Try.prog) (e := 25) (sz := 32) (by_ := 32) (n := k) (c := c_) (m := 1) (d := 1) (t := 22) (ty := 22) (xs := by8 (flat8 ((upH l).take k))) (news := by8 (bothH (l.getD (2 * k) []) (l.getD (if 2 * k + 1 < l.length then 2 * k + 1 else 2 * k) []))) 3 rfl (by kernel_rfl) (HD_.rdRowN 6 rfl) (by rw [by8_length, bothH_length]) (by8_one _) (by omega) (by simp only [maxLen]; omega)
      rw [← by8_append] at H67
      have H67 : Hp w [] [.blk p5 [.slice A_ k c_] 22, .blk B13 [.slice A l.length c] 22, .blk D14 [.int .i64 2] 3, .row A63 (k + 1) c64 25 32 (by8 ((flat8 ((upH l).take k)) ++ (bothH (l.getD (2 * k) []) (l.getD (if 2 * k + 1 < l.length then 2 * k + 1 else 2 * k) [])))), .obj D22 DF, .obj l23 oB25, .row (some ⟨p50, 0, none⟩) 1 1 25 32 (by8 (bothH (l.getD (2 * k) []) (l.getD (if 2 * k + 1 < l.length then 2 * k + 1 else 2 * k) [])))] w65 := H67
      have hS68 : Hp w [] [.blk B13 [.slice A l.length c] 22, .blk D14 [.int .i64 2] 3, .obj D22 DF, .obj l23 oB25] w65 := H67.sub (List.Sublist.cons _ (List.Sublist.cons_cons _ (List.Sublist.cons_cons _ (List.Sublist.cons _ (List.Sublist.cons_cons _ (List.Sublist.cons_cons _ (List.Sublist.cons _ (List.Sublist.slnil))))))))
      refine GP.made 12 r66 [3, 20] [(3, pt p5 0), (20, .slice A63 (k + 1) c64)] (by kernel_rfl) (by kernel_rfl) (by kernel_rfl) hS68 ?_
      obtain ⟨w69, r70, H71⟩ := H67.st (P := Try.prog) (o := 0) (ty := 22) (v := .slice A63 (k + 1) c64) 0 rfl (by kernel_rfl) (by simp) rfl
      have H71 : Hp w [] [.blk p5 [.slice A63 (k + 1) c64] 22, .blk B13 [.slice A l.length c] 22, .blk D14 [.int .i64 2] 3, .row A63 (k + 1) c64 25 32 (by8 ((flat8 ((upH l).take k)) ++ (bothH (l.getD (2 * k) []) (l.getD (if 2 * k + 1 < l.length then 2 * k + 1 else 2 * k) [])))), .obj D22 DF, .obj l23 oB25, .row (some ⟨p50, 0, none⟩) 1 1 25 32 (by8 (bothH (l.getD (2 * k) []) (l.getD (if 2 * k + 1 < l.length then 2 * k + 1 else 2 * k) [])))] w69 := H71
      have hS72 : Hp w [] [.blk B13 [.slice A l.length c] 22, .blk D14 [.int .i64 2] 3, .obj D22 DF, .obj l23 oB25] w69 := H71.sub (List.Sublist.cons _ (List.Sublist.cons_cons _ (List.Sublist.cons_cons _ (List.Sublist.cons _ (List.Sublist.cons_cons _ (List.Sublist.cons_cons _ (List.Sublist.cons _ (List.Sublist.slnil))))))))
      refine GP.semU 13 r70 [] [] (by kernel_rfl) rfl rfl (by kernel_rfl) hS72 ?_
      have H73 : Hp w [] [.blk p5 [.slice A63 (k + 1) c64] 22, .blk B13 [.slice A l.length c] 22, .blk D14 [.int .i64 2] 3, .row A63 (k + 1) c64 25 32 (by8 ((flat8 ((upH l).take k)) ++ (bothH (l.getD (2 * k) []) (l.getD (if 2 * k + 1 < l.length then 2 * k + 1 else 2 * k) [])))), .obj D22 DF, .obj l23 oB25] w69 := H71.sub (List.Sublist.cons_cons _ (List.Sublist.cons_cons _ (List.Sublist.cons_cons _ (List.Sublist.cons_cons _ (List.Sublist.cons_cons _ (List.Sublist.cons_cons _ (List.Sublist.cons _ (List.Sublist.slnil))))))))
      have H74 : Hp w [] [.blk p5 [.slice A63 (k + 1) c64] 22, .blk B13 [.slice A l.length c] 22, .blk D14 [.int .i64 2] 3, .row A63 (k + 1) c64 25 32 (by8 (flat8 ((upH l).take (k + 1)))), .obj D22 DF, .obj l23 oB25] w69 := by rw [upH_next hk2, flat8_snoc]; exact H73
      exact GP.fin (by kernel_rfl) (fun F_ hF_ hM_ => ⟨⟨A63, c64⟩, trivial, H74⟩)
    have st59 : ∀ (wD_ : World), Hp w [] [.blk p5 [.slice A_ k c_] 22, .blk B13 [.slice A l.length c] 22, .blk D14 [.int .i64 2] 3, .row A_ k c_ 25 32 (by8 (flat8 ((upH l).take k))), .obj D22 DF, .obj l23 oB25] wD_ → Xd_ [1, 2, 3, 4, 5, 6, 7, 8, 9, 0, 10] [(3, pt p5 0), (8, .slice A_ k c_), (18, .agg (by8 (bothH (l.getD (2 * k) []) (l.getD (if 2 * k + 1 < l.length then 2 * k + 1 else 2 * k) []))).toArray)] wD_ := by
      intro wD_ HD_
      rw [hXd_]
      have hS75 : Hp w [] [.blk B13 [.slice A l.length c] 22, .blk D14 [.int .i64 2] 3, .obj D22 DF, .obj l23 oB25] wD_ := HD_.sub (List.Sublist.cons _ (List.Sublist.cons_cons _ (List.Sublist.cons_cons _ (List.Sublist.cons _ (List.Sublist.cons_cons _ (List.Sublist.cons_cons _ (List.Sublist.slnil)))))))
      refine GP.all1 11 (by kernel_rfl) ?_
      · skip
        have hS76 : Hp w [] [.blk B13 [.slice A l.length c] 22, .blk D14 [.int .i64 2] 3, .obj D22 DF, .obj l23 oB25] wD_ := HD_.sub (List.Sublist.cons _ (List.Sublist.cons_cons _ (List.Sublist.cons_cons _ (List.Sublist.cons _ (List.Sublist.cons_cons _ (List.Sublist.cons_cons _ (List.Sublist.slnil)))))))
        obtain ⟨p77, w78, r79, H80⟩ := HD_.madeRow (P := Try.prog) (Instr.buildSlice 22 1 #[(0, .agg (by8 (bothH (l.getD (2 * k) []) (l.getD (if 2 * k + 1 < l.length then 2 * k + 1 else 2 * k) []))).toArray)]) (fun b_ => .slice (some ⟨b_, 0, none⟩) 1 1) (by8 (bothH (l.getD (2 * k) []) (l.getD (if 2 * k + 1 < l.length then 2 * k + 1 else 2 * k) []))) 25 1 1 32 (built1_22 (bothH (l.getD (2 * k) []) (l.getD (if 2 * k + 1 < l.length then 2 * k + 1 else 2 * k) [])) (by rw [bothH_length])) (by decide) (by decide) (by rw [by8_length, bothH_length])
        rw [List.take_of_length_le (show (by8 (bothH (l.getD (2 * k) []) (l.getD (if 2 * k + 1 < l.length then 2 * k + 1 else 2 * k) []))).length ≤ 1 * 32 from Nat.le_of_eq (by rw [by8_length, bothH_length]))] at H80
        have H80 : Hp w [] [.blk p5 [.slice A_ k c_] 22, .blk B13 [.slice A l.length c] 22, .blk D14 [.int .i64 2] 3, .row A_ k c_ 25 32 (by8 (flat8 ((upH l).take k))), .obj D22 DF, .obj l23 oB25, .row (some ⟨p77, 0, none⟩) 1 1 25 32 (by8 (bothH (l.getD (2 * k) []) (l.getD (if 2 * k + 1 < l.length then 2 * k + 1 else 2 * k) [])))] w78 := H80
        have hS81 : Hp w [] [.blk B13 [.slice A l.length c] 22, .blk D14 [.int .i64 2] 3, .obj D22 DF, .obj l23 oB25] w78 := H80.sub (List.Sublist.cons _ (List.Sublist.cons_cons _ (List.Sublist.cons_cons _ (List.Sublist.cons _ (List.Sublist.cons_cons _ (List.Sublist.cons_cons _ (List.Sublist.cons _ (List.Sublist.slnil))))))))
        refine GO.made r79 [3, 8, 19] [(3, pt p5 0), (8, .slice A_ k c_), (19, .slice (some ⟨p77, 0, none⟩) 1 1)] (by kernel_rfl) (by kernel_rfl) hS81 ?_
        refine GP.perm [1, 2, 3, 4, 5, 6, 7, 8, 9, 0, 10, 11] (by kernel_rfl) rfl ?_
        rw [← hXd_]
        exact st61 _ p77 H80
    have st60 : ∀ (wD_ : World) (p45 : Nat), Hp w [] [.blk p5 [.slice A_ k c_] 22, .blk B13 [.slice A l.length c] 22, .blk D14 [.int .i64 2] 3, .row A_ k c_ 25 32 (by8 (flat8 ((upH l).take k))), .obj D22 DF, .obj l23 oB25, .row (some ⟨p45, 0, none⟩) 1 1 25 32 (by8 (bothH (l.getD (2 * k) []) (l.getD (if 2 * k + 1 < l.length then 2 * k + 1 else 2 * k) [])))] wD_ → Xd_ [1, 2, 3, 4, 5, 6, 7, 8, 9, 10, 11] [(3, pt p5 0), (19, .slice (some ⟨p45, 0, none⟩) 1 1)] wD_ := by
      intro wD_ p45 HD_
      rw [hXd_]
      have hS82 : Hp w [] [.blk B13 [.slice A l.length c] 22, .blk D14 [.int .i64 2] 3, .obj D22 DF, .obj l23 oB25] wD_ := HD_.sub (List.Sublist.cons _ (List.Sublist.cons_cons _ (List.Sublist.cons_cons _ (List.Sublist.cons _ (List.Sublist.cons_cons _ (List.Sublist.cons_cons _ (List.Sublist.cons _ (List.Sublist.slnil))))))))
      refine GP.all1 0 (by kernel_rfl) ?_
      · skip
        have hS83 : Hp w [] [.blk B13 [.slice A l.length c] 22, .blk D14 [.int .i64 2] 3, .obj D22 DF, .obj l23 oB25] wD_ := HD_.sub (List.Sublist.cons _ (List.Sublist.cons_cons _ (List.Sublist.cons_cons _ (List.Sublist.cons _ (List.Sublist.cons_cons _ (List.Sublist.cons_cons _ (List.Sublist.cons _ (List.Sublist.slnil))))))))
        have hS84 : Hp w [] [.blk B13 [.slice A l.length c] 22, .blk D14 [.int .i64 2] 3, .obj D22 DF, .obj l23 oB25] wD_ := HD_.sub (List.Sublist.cons _ (List.Sublist.cons_cons _ (List.Sublist.cons_cons _ (List.Sublist.cons _ (List.Sublist.cons_cons _ (List.Sublist.cons_cons _ (List.Sublist.cons _ (List.Sublist.slnil))))))))
        refine GO.made (HD_.ld (o := 0) (ty := 22) (v := .slice A_ k c_) 0 rfl (by kernel_rfl) rfl) [3, 8, 19] [(3, pt p5 0), (8, .slice A_ k c_), (19, .slice (some ⟨p45, 0, none⟩) 1 1)] (by kernel_rfl) (by kernel_rfl) hS84 ?_
        refine GP.perm [1, 2, 3, 4, 5, 6, 7, 8, 9, 0, 10, 11] (by kernel_rfl) rfl ?_
        rw [← hXd_]
        exact st61 _ p45 HD_
    have st57 : ∀ (wD_ : World), Hp w [] [.blk p5 [.slice A_ k c_] 22, .blk B13 [.slice A l.length c] 22, .blk D14 [.int .i64 2] 3, .row A_ k c_ 25 32 (by8 (flat8 ((upH l).take k))), .obj D22 DF, .obj l23 oB25] wD_ → Xd_ [1, 2, 3, 4, 5, 6, 7, 8, 9, 0] [(3, pt p5 0), (8, .slice A_ k c_), (11, .agg (by8 (l.getD (2 * k) [])).toArray), (17, .agg (by8 (l.getD (if 2 * k + 1 < l.length then 2 * k + 1 else 2 * k) [])).toArray)] wD_ := by
      intro wD_ HD_
      rw [hXd_]
      have hS85 : Hp w [] [.blk B13 [.slice A l.length c] 22, .blk D14 [.int .i64 2] 3, .obj D22 DF, .obj l23 oB25] wD_ := HD_.sub (List.Sublist.cons _ (List.Sublist.cons_cons _ (List.Sublist.cons_cons _ (List.Sublist.cons _ (List.Sublist.cons_cons _ (List.Sublist.cons_cons _ (List.Sublist.slnil)))))))
      refine GP.all1 10 (by kernel_rfl) ?_
      · skip
        have hS86 : Hp w [] [.blk B13 [.slice A l.length c] 22, .blk D14 [.int .i64 2] 3, .obj D22 DF, .obj l23 oB25] wD_ := HD_.sub (List.Sublist.cons _ (List.Sublist.cons_cons _ (List.Sublist.cons_cons _ (List.Sublist.cons _ (List.Sublist.cons_cons _ (List.Sublist.cons_cons _ (List.Sublist.slnil)))))))
        refine GO.call (Both_calls (l.getD (2 * k) []) (l.getD (if 2 * k + 1 < l.length then 2 * k + 1 else 2 * k) []) (by rw [ok32_at hok (by omega)]) (by rw [ok32_at hok (by split <;> omega)]) wD_) (by kernel_rfl) (fun e_ w87 hR => ?_)
        obtain ⟨rfl, H89⟩ := hR
        have H88 : Hp w [] [.blk p5 [.slice A_ k c_] 22, .blk B13 [.slice A l.length c] 22, .blk D14 [.int .i64 2] 3, .row A_ k c_ 25 32 (by8 (flat8 ((upH l).take k))), .obj D22 DF, .obj l23 oB25] w87 := HD_.callNil H89
        have hS90 : Hp w [] [.blk B13 [.slice A l.length c] 22, .blk D14 [.int .i64 2] 3, .obj D22 DF, .obj l23 oB25] w87 := H88.sub (List.Sublist.cons _ (List.Sublist.cons_cons _ (List.Sublist.cons_cons _ (List.Sublist.cons _ (List.Sublist.cons_cons _ (List.Sublist.cons_cons _ (List.Sublist.slnil)))))))
        refine ⟨_, rfl, hS90, [3, 8, 18], [(3, pt p5 0), (8, .slice A_ k c_), (18, .agg (by8 (bothH (l.getD (2 * k) []) (l.getD (if 2 * k + 1 < l.length then 2 * k + 1 else 2 * k) []))).toArray)], by kernel_rfl, ?_⟩
        refine GP.perm [1, 2, 3, 4, 5, 6, 7, 8, 9, 0, 10] (by kernel_rfl) rfl ?_
        rw [← hXd_]
        exact st59 _ H88
    have st58 : ∀ (wD_ : World), Hp w [] [.blk p5 [.slice A_ k c_] 22, .blk B13 [.slice A l.length c] 22, .blk D14 [.int .i64 2] 3, .row A_ k c_ 25 32 (by8 (flat8 ((upH l).take k))), .obj D22 DF, .obj l23 oB25] wD_ → Xd_ [1, 2, 3, 4, 5, 6, 7, 8, 9, 10] [(3, pt p5 0), (18, .agg (by8 (bothH (l.getD (2 * k) []) (l.getD (if 2 * k + 1 < l.length then 2 * k + 1 else 2 * k) []))).toArray)] wD_ := by
      intro wD_ HD_
      rw [hXd_]
      have hS91 : Hp w [] [.blk B13 [.slice A l.length c] 22, .blk D14 [.int .i64 2] 3, .obj D22 DF, .obj l23 oB25] wD_ := HD_.sub (List.Sublist.cons _ (List.Sublist.cons_cons _ (List.Sublist.cons_cons _ (List.Sublist.cons _ (List.Sublist.cons_cons _ (List.Sublist.cons_cons _ (List.Sublist.slnil)))))))
      refine GP.all2 0 11 (by kernel_rfl) ?_ ?_
      · skip
        have hS92 : Hp w [] [.blk B13 [.slice A l.length c] 22, .blk D14 [.int .i64 2] 3, .obj D22 DF, .obj l23 oB25] wD_ := HD_.sub (List.Sublist.cons _ (List.Sublist.cons_cons _ (List.Sublist.cons_cons _ (List.Sublist.cons _ (List.Sublist.cons_cons _ (List.Sublist.cons_cons _ (List.Sublist.slnil)))))))
        have hS93 : Hp w [] [.blk B13 [.slice A l.length c] 22, .blk D14 [.int .i64 2] 3, .obj D22 DF, .obj l23 oB25] wD_ := HD_.sub (List.Sublist.cons _ (List.Sublist.cons_cons _ (List.Sublist.cons_cons _ (List.Sublist.cons _ (List.Sublist.cons_cons _ (List.Sublist.cons_cons _ (List.Sublist.slnil)))))))
        refine GO.made (HD_.ld (o := 0) (ty := 22) (v := .slice A_ k c_) 0 rfl (by kernel_rfl) rfl) [3, 8, 18] [(3, pt p5 0), (8, .slice A_ k c_), (18, .agg (by8 (bothH (l.getD (2 * k) []) (l.getD (if 2 * k + 1 < l.length then 2 * k + 1 else 2 * k) []))).toArray)] (by kernel_rfl) (by kernel_rfl) hS93 ?_
        refine GP.perm [1, 2, 3, 4, 5, 6, 7, 8, 9, 0, 10] (by kernel_rfl) rfl ?_
        rw [← hXd_]
        exact st59 _ HD_
      · skip
        have hS94 : Hp w [] [.blk B13 [.slice A l.length c] 22, .blk D14 [.int .i64 2] 3, .obj D22 DF, .obj l23 oB25] wD_ := HD_.sub (List.Sublist.cons _ (List.Sublist.cons_cons _ (List.Sublist.cons_cons _ (List.Sublist.cons _ (List.Sublist.cons_cons _ (List.Sublist.cons_cons _ (List.Sublist.slnil)))))))
        obtain ⟨p95, w96, r97, H98⟩ := HD_.madeRow (P := Try.prog) (Instr.buildSlice 22 1 #[(0, .agg (by8 (bothH (l.getD (2 * k) []) (l.getD (if 2 * k + 1 < l.length then 2 * k + 1 else 2 * k) []))).toArray)]) (fun b_ => .slice (some ⟨b_, 0, none⟩) 1 1) (by8 (bothH (l.getD (2 * k) []) (l.getD (if 2 * k + 1 < l.length then 2 * k + 1 else 2 * k) []))) 25 1 1 32 (built1_22 (bothH (l.getD (2 * k) []) (l.getD (if 2 * k + 1 < l.length then 2 * k + 1 else 2 * k) [])) (by rw [bothH_length])) (by decide) (by decide) (by rw [by8_length, bothH_length])
        rw [List.take_of_length_le (show (by8 (bothH (l.getD (2 * k) []) (l.getD (if 2 * k + 1 < l.length then 2 * k + 1 else 2 * k) []))).length ≤ 1 * 32 from Nat.le_of_eq (by rw [by8_length, bothH_length]))] at H98
        have H98 : Hp w [] [.blk p5 [.slice A_ k c_] 22, .blk B13 [.slice A l.length c] 22, .blk D14 [.int .i64 2] 3, .row A_ k c_ 25 32 (by8 (flat8 ((upH l).take k))), .obj D22 DF, .obj l23 oB25, .row (some ⟨p95, 0, none⟩) 1 1 25 32 (by8 (bothH (l.getD (2 * k) []) (l.getD (if 2 * k + 1 < l.length then 2 * k + 1 else 2 * k) [])))] w96 := H98
        have hS99 : Hp w [] [.blk B13 [.slice A l.length c] 22, .blk D14 [.int .i64 2] 3, .obj D22 DF, .obj l23 oB25] w96 := H98.sub (List.Sublist.cons _ (List.Sublist.cons_cons _ (List.Sublist.cons_cons _ (List.Sublist.cons _ (List.Sublist.cons_cons _ (List.Sublist.cons_cons _ (List.Sublist.cons _ (List.Sublist.slnil))))))))
        refine GO.made r97 [3, 19] [(3, pt p5 0), (19, .slice (some ⟨p95, 0, none⟩) 1 1)] (by kernel_rfl) (by kernel_rfl) hS99 ?_
        refine GP.perm [1, 2, 3, 4, 5, 6, 7, 8, 9, 10, 11] (by kernel_rfl) rfl ?_
        rw [← hXd_]
        exact st60 _ p95 H98
    have st56 : ∀ (wD_ : World), Hp w [] [.blk p5 [.slice A_ k c_] 22, .blk B13 [.slice A l.length c] 22, .blk D14 [.int .i64 2] 3, .row A_ k c_ 25 32 (by8 (flat8 ((upH l).take k))), .obj D22 DF, .obj l23 oB25] wD_ → Xd_ [1, 2, 3, 4, 5, 6, 7, 8, 9] [(3, pt p5 0), (11, .agg (by8 (l.getD (2 * k) [])).toArray), (17, .agg (by8 (l.getD (if 2 * k + 1 < l.length then 2 * k + 1 else 2 * k) [])).toArray)] wD_ := by
      intro wD_ HD_
      rw [hXd_]
      have hS100 : Hp w [] [.blk B13 [.slice A l.length c] 22, .blk D14 [.int .i64 2] 3, .obj D22 DF, .obj l23 oB25] wD_ := HD_.sub (List.Sublist.cons _ (List.Sublist.cons_cons _ (List.Sublist.cons_cons _ (List.Sublist.cons _ (List.Sublist.cons_cons _ (List.Sublist.cons_cons _ (List.Sublist.slnil)))))))
      refine GP.all2 0 10 (by kernel_rfl) ?_ ?_
      · skip
        have hS101 : Hp w [] [.blk B13 [.slice A l.length c] 22, .blk D14 [.int .i64 2] 3, .obj D22 DF, .obj l23 oB25] wD_ := HD_.sub (List.Sublist.cons _ (List.Sublist.cons_cons _ (List.Sublist.cons_cons _ (List.Sublist.cons _ (List.Sublist.cons_cons _ (List.Sublist.cons_cons _ (List.Sublist.slnil)))))))
        have hS102 : Hp w [] [.blk B13 [.slice A l.length c] 22, .blk D14 [.int .i64 2] 3, .obj D22 DF, .obj l23 oB25] wD_ := HD_.sub (List.Sublist.cons _ (List.Sublist.cons_cons _ (List.Sublist.cons_cons _ (List.Sublist.cons _ (List.Sublist.cons_cons _ (List.Sublist.cons_cons _ (List.Sublist.slnil)))))))
        refine GO.made (HD_.ld (o := 0) (ty := 22) (v := .slice A_ k c_) 0 rfl (by kernel_rfl) rfl) [3, 8, 11, 17] [(3, pt p5 0), (8, .slice A_ k c_), (11, .agg (by8 (l.getD (2 * k) [])).toArray), (17, .agg (by8 (l.getD (if 2 * k + 1 < l.length then 2 * k + 1 else 2 * k) [])).toArray)] (by kernel_rfl) (by kernel_rfl) hS102 ?_
        refine GP.perm [1, 2, 3, 4, 5, 6, 7, 8, 9, 0] (by kernel_rfl) rfl ?_
        rw [← hXd_]
        exact st57 _ HD_
      · skip
        have hS103 : Hp w [] [.blk B13 [.slice A l.length c] 22, .blk D14 [.int .i64 2] 3, .obj D22 DF, .obj l23 oB25] wD_ := HD_.sub (List.Sublist.cons _ (List.Sublist.cons_cons _ (List.Sublist.cons_cons _ (List.Sublist.cons _ (List.Sublist.cons_cons _ (List.Sublist.cons_cons _ (List.Sublist.slnil)))))))
        refine GO.call (Both_calls (l.getD (2 * k) []) (l.getD (if 2 * k + 1 < l.length then 2 * k + 1 else 2 * k) []) (by rw [ok32_at hok (by omega)]) (by rw [ok32_at hok (by split <;> omega)]) wD_) (by kernel_rfl) (fun e_ w104 hR => ?_)
        obtain ⟨rfl, H106⟩ := hR
        have H105 : Hp w [] [.blk p5 [.slice A_ k c_] 22, .blk B13 [.slice A l.length c] 22, .blk D14 [.int .i64 2] 3, .row A_ k c_ 25 32 (by8 (flat8 ((upH l).take k))), .obj D22 DF, .obj l23 oB25] w104 := HD_.callNil H106
        have hS107 : Hp w [] [.blk B13 [.slice A l.length c] 22, .blk D14 [.int .i64 2] 3, .obj D22 DF, .obj l23 oB25] w104 := H105.sub (List.Sublist.cons _ (List.Sublist.cons_cons _ (List.Sublist.cons_cons _ (List.Sublist.cons _ (List.Sublist.cons_cons _ (List.Sublist.cons_cons _ (List.Sublist.slnil)))))))
        refine ⟨_, rfl, hS107, [3, 18], [(3, pt p5 0), (18, .agg (by8 (bothH (l.getD (2 * k) []) (l.getD (if 2 * k + 1 < l.length then 2 * k + 1 else 2 * k) []))).toArray)], by kernel_rfl, ?_⟩
        refine GP.perm [1, 2, 3, 4, 5, 6, 7, 8, 9, 10] (by kernel_rfl) rfl ?_
        rw [← hXd_]
        exact st58 _ H105
    exact st56 _ H31
  · skip
    rintro D111 ⟨A_, c_⟩ w108 hx109 H110
    refine RG.kk hK10 (fun _ _ h => h) ?_
    have H110 : Hp w [] [.blk p5 [.slice A_ ((l.length + 1) / 2) c_] 22, .blk B13 [.slice A l.length c] 22, .blk D14 [.int .i64 2] 3, .row A_ ((l.length + 1) / 2) c_ 25 32 (by8 (flat8 ((upH l).take ((l.length + 1) / 2)))), .obj D111 DF] w108 := H110
    refine RG.seqK fun K112 hK113 => ?_
    refine RG.region (by kernel_rfl) ?_
    refine RL.sem (j := 1) (H110.ld (o := 0) (ty := 22) (v := .slice A_ ((l.length + 1) / 2) c_) 0 rfl (by kernel_rfl) rfl) [21] [(21, .slice A_ ((l.length + 1) / 2) c_)] (by kernel_rfl) (by kernel_rfl) rfl ?_
    refine RL.run (j := 2) 1 [2] [(2, .slice A_ ((l.length + 1) / 2) c_)] (by kernel_rfl) rfl ?_
    refine RL.k rfl hK113 (fun _ _ h => h) ?_
    refine RG.ret ?_
    have hD114 := H110.objAt 4 rfl
    have H115 : Hp w [] [.blk p5 [.slice A_ ((l.length + 1) / 2) c_] 22, .blk B13 [.slice A l.length c] 22, .blk D14 [.int .i64 2] 3, .row A_ ((l.length + 1) / 2) c_ 25 32 (by8 (flat8 ((upH l).take ((l.length + 1) / 2)))), .obj D111 (.deferred none)] (World.putObj w108 D111 (.deferred none)) := H110.putObj 4 (.deferred none) rfl
    intro F_ hF_ hM_
    refine hRet _ _ (postK_1 hD114 rfl (RV.tmp rfl) ?_ F_ hF_ hM_)
    have H116 : Hp w [] [.row A_ ((l.length + 1) / 2) c_ 25 32 (by8 (flat8 ((upH l).take ((l.length + 1) / 2))))] (World.putObj w108 D111 (.deferred none)) := H115.sub (List.Sublist.cons _ (List.Sublist.cons _ (List.Sublist.cons _ (List.Sublist.cons_cons _ (List.Sublist.cons _ (List.Sublist.slnil))))))
    have HF := H116
    rw [upH_all (Nat.le_refl _), ← upH_length] at HF
    rw [← upH_length]
    exact ⟨_, _, rfl, HF⟩
  · skip
    rintro D120 ⟨A_, c_⟩ w117 hx118 H119
    exact hx118.elim
end Go.Proofs.Ytgmggjnoegelgaa
