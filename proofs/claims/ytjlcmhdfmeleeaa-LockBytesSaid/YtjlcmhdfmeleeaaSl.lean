/- Slices of bytes: put together, copied, held against one another. -/
import Derived.Test.YtjlcmhdfmeleeaaRows
import Derived.Test.YtjlcmhdfmeleeaaGi
namespace Go.Proofs.Ytjlcmhdfmeleeaa
open Go.RowKit
/-- slices.Grow of the nil slice: room for n. -/
theorem Grow_nil (n : Nat) (hn : n ≤ 1099511627776) (w : World) : Calls Try.prog 15 #[.slice none 0 0, .int .i64 (n : Int)] w fun e w' =>
    ∃ A c, e = .returned (.slice A 0 c) ∧ n ≤ c ∧ Hp w [] [.row A 0 c 5 1 (by8 [])] w' := by
  refine calls_G (args := [.slice none 0 0, .int .i64 (n : Int)]) Try.func15 rfl Try.ntmps15 rfl ?_
  intro Q0 hRet hNor hPan
  have H := Hp.start w
  have H : Hp w [] [] w := H
  refine G.seqK fun K1 hK2 => ?_
  refine G.region ?_
  refine GL.run (j := 1) 1 [0, 1, 4] [(0, .slice none 0 0), (1, .int .i64 (n : Int)), (4, .slice none 0 0)] (by kernel_rfl) rfl ?_
  refine GL.k rfl hK2 (fun _ _ h => h) ?_
  refine G.seqK fun K3 hK4 => ?_
  refine G.seqK fun K5 hK6 => ?_
  refine G.region ?_
  refine GL.run (j := 2) 2 [0, 1, 4, 6] [(0, .slice none 0 0), (1, .int .i64 (n : Int)), (4, .slice none 0 0), (6, .bool (decide ((n : Int) < 0)))] (by kernel_rfl) rfl ?_
  refine GL.k rfl hK6 (fun _ _ h => h) ?_
  have hb7 : (decide ((n : Int) < 0)) = false := decide_eq_false (by omega)
  rw [hb7]
  refine G.no rfl ?_
  refine G.skipK hK4 (fun _ _ h => h) ?_
  refine G.seqK fun K8 hK9 => ?_
  refine G.seqK fun K10 hK11 => ?_
  refine G.region ?_
  refine GL.run (j := 8) 8 [0, 1, 4, 6] [(0, .slice none 0 0), (1, .int .i64 (IntKind.i64.wrap ((n : Int) - 0))), (4, .slice none 0 0), (6, .bool false)] (by kernel_rfl) rfl ?_
  have e12 : (IntKind.i64.wrap ((n : Int) - 0)) = (n : Int) := by rw [in_i64 (by omega)]; omega
  refine GL.eq (M' := [(0, .slice none 0 0), (1, .int .i64 (n : Int)), (4, .slice none 0 0), (6, .bool false)]) (by rw [e12]) ?_
  clear e12
  refine GL.k rfl hK11 (fun _ _ h => h) ?_
  refine G.seqK fun K13 hK14 => ?_
  refine G.region ?_
  refine GL.run (j := 2) 2 [0, 1, 4, 6, 16] [(0, .slice none 0 0), (1, .int .i64 (n : Int)), (4, .slice none 0 0), (6, .bool false), (16, .bool (decide (0 < (n : Int))))] (by kernel_rfl) rfl ?_
  refine GL.k rfl hK14 (fun _ _ h => h) ?_
  cases hb15 : (decide (0 < (n : Int)))
  · skip
    have hb15f := of_decide_eq_false hb15
    have hn0 : n = 0 := by have := of_decide_eq_false hb15; omega
    refine G.no rfl ?_
    refine G.skipK hK9 (fun _ _ h => h) ?_
    refine G.seqK fun K16 hK17 => ?_
    refine G.region ?_
    refine GL.run (j := 2) 2 [0, 1, 4, 6, 16] [(0, .slice none 0 0), (1, .int .i64 (n : Int)), (4, .slice none 0 0), (6, .bool false), (16, .bool false)] (by kernel_rfl) rfl ?_
    refine GL.k rfl hK17 (fun _ _ h => h) ?_
    refine G.ret ?_
    intro F_ hF_ hM_
    refine hRet _ _ (bodyPost_1 rfl (RV.tmp rfl) ?_ F_ hF_ hM_)
    exact ⟨none, 0, rfl, by omega, H.rowNil 5 1⟩
  · skip
    have hb15f := of_decide_eq_true hb15
    have hn0 : 0 < n := by have := of_decide_eq_true hb15; omega
    refine G.yes rfl ?_
    refine G.region ?_
    refine GL.run (j := 5) 5 [0, 1, 4, 6, 16, 20, 21] [(0, .slice none 0 0), (1, .int .i64 (n : Int)), (4, .slice none 0 0), (6, .bool false), (16, .bool true), (20, .slice none 0 0), (21, .int .i64 (n : Int))] (by kernel_rfl) rfl ?_
    obtain ⟨b18, c19, w20, r21, hc22, H23⟩ := H.appendMake (P := Try.prog) (t := 24) (ti := 3) (ty := 24) (by_ := 1) (n := n) (by kernel_rfl) (by kernel_rfl) (by assumption) (by omega) (by simp only [maxLen]; omega)
    have H23 : Hp w [] [.row (some ⟨b18, 0, none⟩) 0 c19 5 1 (by8 [])] w20 := H23
    refine GL.sem (j := 6) (r21) [0, 1, 4, 6, 16, 22] [(0, .slice none 0 0), (1, .int .i64 (n : Int)), (4, .slice none 0 0), (6, .bool false), (16, .bool true), (22, .slice (some ⟨b18, 0, none⟩) n c19)] (by kernel_rfl) (by kernel_rfl) rfl ?_
    refine GL.run (j := 8) 2 [0, 1, 4, 6, 16, 22, 24] [(0, .slice none 0 0), (1, .int .i64 (n : Int)), (4, .slice none 0 0), (6, .bool false), (16, .bool true), (22, .slice (some ⟨b18, 0, none⟩) n c19), (24, .int .i64 0)] (by kernel_rfl) rfl ?_
    refine GL.sem (j := 9) (run_sliceSl0 (P := Try.prog) (lo := none) (hi := some (.int .i64 0)) (t := 24) (len := n) (cap := c19) (A := (some ⟨b18, 0, none⟩)) (h := 0) (by kernel_rfl) (Or.inl ⟨rfl, rfl⟩) (Or.inr ⟨_, _, rfl, rfl⟩) (by omega)) [0, 1, 4, 6, 16, 25] [(0, .slice none 0 0), (1, .int .i64 (n : Int)), (4, .slice none 0 0), (6, .bool false), (16, .bool true), (25, .slice (some ⟨b18, 0, none⟩) 0 c19)] (by kernel_rfl) (by kernel_rfl) rfl ?_
    refine GL.run (j := 10) 1 [0, 1, 4, 6, 16] [(0, .slice (some ⟨b18, 0, none⟩) 0 c19), (1, .int .i64 (n : Int)), (4, .slice none 0 0), (6, .bool false), (16, .bool true)] (by kernel_rfl) rfl ?_
    refine GL.k rfl hK9 (fun _ _ h => h) ?_
    refine G.seqK fun K24 hK25 => ?_
    refine G.region ?_
    refine GL.run (j := 2) 2 [0, 1, 4, 6, 16] [(0, .slice (some ⟨b18, 0, none⟩) 0 c19), (1, .int .i64 (n : Int)), (4, .slice (some ⟨b18, 0, none⟩) 0 c19), (6, .bool false), (16, .bool true)] (by kernel_rfl) rfl ?_
    refine GL.k rfl hK25 (fun _ _ h => h) ?_
    refine G.ret ?_
    intro F_ hF_ hM_
    refine hRet _ _ (bodyPost_1 rfl (RV.tmp rfl) ?_ F_ hF_ hM_)
    exact ⟨_, _, rfl, by omega, H23⟩
/-- slices.Concat: what its slices hold, one behind the other, in new memory. -/
theorem Concat_calls (b : Nat) (vs : List SB) (w : World) (hb : Blk w b (vs.map sv) 24) (hr : ∀ s ∈ vs, RdS w s.1 (by8 s.2.2)) (hn : (flat vs).length ≤ 1099511627776) (hvs : vs.length ≤ 1099511627776) :
    Calls Try.prog 12 #[.slice (some ⟨b, 0, none⟩) vs.length vs.length] w fun e w' => ∃ A c, e = .returned (.slice A (flat vs).length c) ∧ Hp w [] [.row A (flat vs).length c 5 1 (by8 (flat vs))] w' := by
  refine calls_G (args := [.slice (some ⟨b, 0, none⟩) vs.length vs.length]) Try.func12 rfl Try.ntmps12 rfl ?_
  intro Q0 hRet hNor hPan
  have H := Hp.start w
  have H : Hp w [] [] w := H
  refine G.seqK fun K1 hK2 => ?_
  refine G.region ?_
  refine GL.run (j := 1) 1 [0, 2] [(0, .slice (some ⟨b, 0, none⟩) vs.length vs.length), (2, .slice none 0 0)] (by kernel_rfl) rfl ?_
  refine GL.k rfl hK2 (fun _ _ h => h) ?_
  refine G.seqK fun K3 hK4 => ?_
  refine G.region ?_
  refine GL.run (j := 1) 1 [0, 2, 3] [(0, .slice (some ⟨b, 0, none⟩) vs.length vs.length), (2, .slice none 0 0), (3, .int .i64 0)] (by kernel_rfl) rfl ?_
  refine GL.k rfl hK4 (fun _ _ h => h) ?_
  refine G.seqK fun K5 hK6 => ?_
  refine G.seqK fun K7 hK8 => ?_
  refine G.region ?_
  refine GL.run (j := 3) 3 [0, 2, 3, 9, 10, 11] [(0, .slice (some ⟨b, 0, none⟩) vs.length vs.length), (2, .slice none 0 0), (3, .int .i64 0), (9, .slice (some ⟨b, 0, none⟩) vs.length vs.length), (10, .int .i64 (vs.length : Int)), (11, .int .i64 0)] (by kernel_rfl) rfl ?_
  refine GL.k rfl hK8 (fun _ _ h => h) ?_
  refine G.block ?_
  refine G.fit [0, 3, 9, 10, 11] (M' := [(0, .slice (some ⟨b, 0, none⟩) vs.length vs.length), (3, .int .i64 0), (9, .slice (some ⟨b, 0, none⟩) vs.length vs.length), (10, .int .i64 (vs.length : Int)), (11, .int .i64 0)]) (by kernel_rfl) ?_
  refine G.eq (M' := [(0, .slice (some ⟨b, 0, none⟩) vs.length vs.length), (3, .int .i64 (((flat (vs.take 0)).length : Nat) : Int)), (9, .slice (some ⟨b, 0, none⟩) vs.length vs.length), (10, .int .i64 (vs.length : Int)), (11, .int .i64 0)]) (by rfl) ?_
  refine G.loop (X := Nat) (fun k => [(0, .slice (some ⟨b, 0, none⟩) vs.length vs.length), (3, .int .i64 (((flat (vs.take k)).length : Nat) : Int)), (9, .slice (some ⟨b, 0, none⟩) vs.length vs.length), (10, .int .i64 (vs.length : Int)), (11, .int .i64 (k : Int))]) (fun k w_ => (k ≤ vs.length) ∧ Hp w [] [] w_) (fun k => vs.length - (k)) 0 [0, 3, 9, 10, 11] (by kernel_rfl) ⟨Nat.zero_le _, H⟩ ?_
  rintro k w9 ⟨hi10, H11⟩
  refine G.eq (M' := [(0, .slice (some ⟨b, 0, none⟩) vs.length vs.length), (3, .int .i64 (((flat (vs.take k)).length : Nat) : Int)), (9, .slice (some ⟨b, 0, none⟩) vs.length vs.length), (10, .int .i64 (vs.length : Int)), (11, .int .i64 (k : Int))]) rfl ?_
  have H11 : Hp w [] [] w9 := H11
  have hk := hi10
  refine G.seqK fun K12 hK13 => ?_
  refine G.region ?_
  refine GL.run (j := 1) 1 [0, 3, 9, 10, 11, 12] [(0, .slice (some ⟨b, 0, none⟩) vs.length vs.length), (3, .int .i64 (((flat (vs.take k)).length : Nat) : Int)), (9, .slice (some ⟨b, 0, none⟩) vs.length vs.length), (10, .int .i64 (vs.length : Int)), (11, .int .i64 (k : Int)), (12, .bool (decide ((k : Int) < (vs.length : Int))))] (by kernel_rfl) rfl ?_
  refine GL.k rfl hK13 (fun _ _ h => h) ?_
  refine G.seqK fun K14 hK15 => ?_
  cases hb16 : (decide ((k : Int) < (vs.length : Int)))
  · skip
    have hb16f := of_decide_eq_false hb16
    have hge : vs.length ≤ k := by have := of_decide_eq_false hb16; omega
    refine G.no rfl ?_
    refine G.exitK hK6 (fun _ _ h => h) ?_
    refine G.seqK fun K17 hK18 => ?_
    refine G.region ?_
    refine GL.run (j := 1) 1 [0, 3, 9, 10, 11, 12, 23] [(0, .slice (some ⟨b, 0, none⟩) vs.length vs.length), (3, .int .i64 (((flat (vs.take k)).length : Nat) : Int)), (9, .slice (some ⟨b, 0, none⟩) vs.length vs.length), (10, .int .i64 (vs.length : Int)), (11, .int .i64 (k : Int)), (12, .bool false), (23, .int .i64 (((flat (vs.take k)).length : Nat) : Int))] (by kernel_rfl) rfl ?_
    have e0 : vs.take k = vs := List.take_of_length_le (by omega)
    rw [e0]
    refine GL.call (j := 2) (Grow_nil ((flat vs).length) (by omega) w9) (by kernel_rfl) rfl (fun e_ w21 hR => ?_)
    obtain ⟨A19, c20, rfl, _, H23⟩ := hR
    have H22 : Hp w [] [.row A19 0 c20 5 1 (by8 [])] w21 := H11.callNew H23
    refine ⟨_, rfl, [0, 3, 9, 10, 11, 12, 24], [(0, .slice (some ⟨b, 0, none⟩) vs.length vs.length), (3, .int .i64 (((flat vs).length : Nat) : Int)), (9, .slice (some ⟨b, 0, none⟩) vs.length vs.length), (10, .int .i64 (vs.length : Int)), (11, .int .i64 (k : Int)), (12, .bool false), (24, .slice A19 0 c20)], by kernel_rfl, ?_⟩
    refine GL.run (j := 3) 1 [0, 3, 6, 9, 10, 11, 12] [(0, .slice (some ⟨b, 0, none⟩) vs.length vs.length), (3, .int .i64 (((flat vs).length : Nat) : Int)), (6, .slice A19 0 c20), (9, .slice (some ⟨b, 0, none⟩) vs.length vs.length), (10, .int .i64 (vs.length : Int)), (11, .int .i64 (k : Int)), (12, .bool false)] (by kernel_rfl) rfl ?_
    refine GL.k rfl hK18 (fun _ _ h => h) ?_
    refine G.seqK fun K24 hK25 => ?_
    refine G.seqK fun K26 hK27 => ?_
    refine G.region ?_
    refine GL.run (j := 3) 3 [0, 3, 6, 9, 10, 11, 12, 25, 26, 27] [(0, .slice (some ⟨b, 0, none⟩) vs.length vs.length), (3, .int .i64 (((flat vs).length : Nat) : Int)), (6, .slice A19 0 c20), (9, .slice (some ⟨b, 0, none⟩) vs.length vs.length), (10, .int .i64 (vs.length : Int)), (11, .int .i64 (k : Int)), (12, .bool false), (25, .slice (some ⟨b, 0, none⟩) vs.length vs.length), (26, .int .i64 (vs.length : Int)), (27, .int .i64 0)] (by kernel_rfl) rfl ?_
    refine GL.k rfl hK27 (fun _ _ h => h) ?_
    refine G.block ?_
    refine G.fit [6, 25, 26, 27] (M' := [(6, .slice A19 0 c20), (25, .slice (some ⟨b, 0, none⟩) vs.length vs.length), (26, .int .i64 (vs.length : Int)), (27, .int .i64 0)]) (by kernel_rfl) ?_
    refine G.eq (M' := [(6, .slice A19 ((flat (vs.take 0)).length) c20), (25, .slice (some ⟨b, 0, none⟩) vs.length vs.length), (26, .int .i64 (vs.length : Int)), (27, .int .i64 0)]) (by rfl) ?_
    refine G.loop (X := Nat × Option Addr × Nat) (fun ⟨k, A, c⟩ => [(6, .slice A ((flat (vs.take k)).length) c), (25, .slice (some ⟨b, 0, none⟩) vs.length vs.length), (26, .int .i64 (vs.length : Int)), (27, .int .i64 (k : Int))]) (fun ⟨k, A, c⟩ w_ => (k ≤ vs.length) ∧ Hp w [] [.row A ((flat (vs.take k)).length) c 5 1 (by8 (flat (vs.take k)))] w_) (fun ⟨k, A, c⟩ => vs.length - (k)) ⟨0, A19, c20⟩ [6, 25, 26, 27] (by kernel_rfl) ⟨Nat.zero_le _, H22⟩ ?_
    rintro ⟨k, A, c⟩ w28 ⟨hi29, H30⟩
    refine G.eq (M' := [(6, .slice A ((flat (vs.take k)).length) c), (25, .slice (some ⟨b, 0, none⟩) vs.length vs.length), (26, .int .i64 (vs.length : Int)), (27, .int .i64 (k : Int))]) rfl ?_
    have H30 : Hp w [] [.row A ((flat (vs.take k)).length) c 5 1 (by8 (flat (vs.take k)))] w28 := H30
    have hk := hi29
    refine G.seqK fun K31 hK32 => ?_
    refine G.region ?_
    refine GL.run (j := 1) 1 [6, 25, 26, 27, 28] [(6, .slice A ((flat (vs.take k)).length) c), (25, .slice (some ⟨b, 0, none⟩) vs.length vs.length), (26, .int .i64 (vs.length : Int)), (27, .int .i64 (k : Int)), (28, .bool (decide ((k : Int) < (vs.length : Int))))] (by kernel_rfl) rfl ?_
    refine GL.k rfl hK32 (fun _ _ h => h) ?_
    refine G.seqK fun K33 hK34 => ?_
    cases hb35 : (decide ((k : Int) < (vs.length : Int)))
    · skip
      have hb35f := of_decide_eq_false hb35
      have hge : vs.length ≤ k := by have := of_decide_eq_false hb35; omega
      refine G.no rfl ?_
      refine G.exitK hK25 (fun _ _ h => h) ?_
      refine G.seqK fun K36 hK37 => ?_
      refine G.region ?_
      refine GL.run (j := 2) 2 [2, 6, 25, 26, 27, 28] [(2, .slice A ((flat (vs.take k)).length) c), (6, .slice A ((flat (vs.take k)).length) c), (25, .slice (some ⟨b, 0, none⟩) vs.length vs.length), (26, .int .i64 (vs.length : Int)), (27, .int .i64 (k : Int)), (28, .bool false)] (by kernel_rfl) rfl ?_
      refine GL.k rfl hK37 (fun _ _ h => h) ?_
      refine G.ret ?_
      intro F_ hF_ hM_
      refine hRet _ _ (bodyPost_1 rfl (RV.tmp rfl) ?_ F_ hF_ hM_)
      have e0 : vs.take k = vs := List.take_of_length_le (by omega)
      rw [e0] at H30 ⊢
      exact ⟨_, _, rfl, H30⟩
    · skip
      have hb35f := of_decide_eq_true hb35
      have hlt : k < vs.length := by have := of_decide_eq_true hb35; omega
      obtain ⟨s, hs⟩ : ∃ s, vs[k]? = some s := ⟨vs[k], List.getElem?_eq_getElem hlt⟩
      have e1 := flat_take hs
      have e2 := flat_le vs (k + 1)
      rw [e1, List.length_append] at e2
      refine G.yes rfl ?_
      refine G.skipK hK34 (fun _ _ h => h) ?_
      refine G.seqK fun K38 hK39 => ?_
      refine G.block ?_
      refine G.seqK fun K40 hK41 => ?_
      refine G.region ?_
      refine GL.sem (j := 1) (run_idxSl (P := Try.prog) (k := .i64) (t := 43) (sz := 1) (a := ⟨b, 0, none⟩) (len := vs.length) (cap := vs.length) (j := k) (by kernel_rfl) rfl (by first | rfl | omega | (simp only [List.length_cons, List.length_nil, List.length_drop, List.length_take, List.length_append] <;> omega))) [6, 25, 26, 27, 28, 29] [(6, .slice A ((flat (vs.take k)).length) c), (25, .slice (some ⟨b, 0, none⟩) vs.length vs.length), (26, .int .i64 (vs.length : Int)), (27, .int .i64 (k : Int)), (28, .bool true), (29, .pointer (some (Addr.add ⟨b, 0, none⟩ (k * 1))))] (by kernel_rfl) (by kernel_rfl) rfl ?_
      refine GL.sem (j := 2) (run_ld1 (P := Try.prog) (ty := 24) (a := (Addr.add ⟨b, 0, none⟩ (k * 1))) (v := sv s) (by kernel_rfl) (by rw [addr_add, (H30.oldBlk hb).cell]; simp [hs])) [6, 25, 26, 27, 28, 30] [(6, .slice A ((flat (vs.take k)).length) c), (25, .slice (some ⟨b, 0, none⟩) vs.length vs.length), (26, .int .i64 (vs.length : Int)), (27, .int .i64 (k : Int)), (28, .bool true), (30, .slice s.1 s.2.2.length s.2.1)] (by kernel_rfl) (by kernel_rfl) rfl ?_
      refine GL.run (j := 3) 1 [6, 8, 25, 26, 27, 28] [(6, .slice A ((flat (vs.take k)).length) c), (8, .slice s.1 s.2.2.length s.2.1), (25, .slice (some ⟨b, 0, none⟩) vs.length vs.length), (26, .int .i64 (vs.length : Int)), (27, .int .i64 (k : Int)), (28, .bool true)] (by kernel_rfl) rfl ?_
      refine GL.k rfl hK41 (fun _ _ h => h) ?_
      refine G.region ?_
      refine GL.run (j := 2) 2 [6, 8, 25, 26, 27, 28, 31, 32] [(6, .slice A ((flat (vs.take k)).length) c), (8, .slice s.1 s.2.2.length s.2.1), (25, .slice (some ⟨b, 0, none⟩) vs.length vs.length), (26, .int .i64 (vs.length : Int)), (27, .int .i64 (k : Int)), (28, .bool true), (31, .slice A ((flat (vs.take k)).length) c), (32, .slice s.1 s.2.2.length s.2.1)] (by kernel_rfl) rfl ?_
      obtain ⟨A42, c43, w44, r45, H46⟩ := H30.append (P := Try.prog) (e := 5) (sz := 1) (by_ := 1) (n := (flat (vs.take k)).length) (c := c) (m := s.2.2.length) (d := s.2.1) (t := 24) (ty := 24) (xs := by8 (flat (vs.take k))) (news := by8 s.2.2) 0 rfl (by kernel_rfl) ((hr s (List.mem_of_getElem? hs)).hp H30) (by simp [by8_length]) (by8_one _) (by omega) (by simp only [maxLen]; omega)
      rw [← by8_append] at H46
      have H46 : Hp w [] [.row A42 ((flat (vs.take k)).length + s.2.2.length) c43 5 1 (by8 ((flat (vs.take k)) ++ s.2.2))] w44 := H46
      refine GL.sem (j := 3) (r45) [6, 8, 25, 26, 27, 28, 33] [(6, .slice A ((flat (vs.take k)).length) c), (8, .slice s.1 s.2.2.length s.2.1), (25, .slice (some ⟨b, 0, none⟩) vs.length vs.length), (26, .int .i64 (vs.length : Int)), (27, .int .i64 (k : Int)), (28, .bool true), (33, .slice A42 ((flat (vs.take k)).length + s.2.2.length) c43)] (by kernel_rfl) (by kernel_rfl) rfl ?_
      refine GL.run (j := 4) 1 [6, 8, 25, 26, 27, 28] [(6, .slice A42 ((flat (vs.take k)).length + s.2.2.length) c43), (8, .slice s.1 s.2.2.length s.2.1), (25, .slice (some ⟨b, 0, none⟩) vs.length vs.length), (26, .int .i64 (vs.length : Int)), (27, .int .i64 (k : Int)), (28, .bool true)] (by kernel_rfl) rfl ?_
      refine GL.k rfl hK39 (fun _ _ h => h) ?_
      refine G.region ?_
      refine GL.run (j := 2) 2 [6, 8, 25, 26, 27, 28] [(6, .slice A42 ((flat (vs.take k)).length + s.2.2.length) c43), (8, .slice s.1 s.2.2.length s.2.1), (25, .slice (some ⟨b, 0, none⟩) vs.length vs.length), (26, .int .i64 (vs.length : Int)), (27, .int .i64 (IntKind.i64.wrap ((k : Int) + 1))), (28, .bool true)] (by kernel_rfl) rfl ?_
      have e47 : (IntKind.i64.wrap ((k : Int) + 1)) = ((k + 1 : Nat) : Int) := by rw [in_i64 (by omega)]; omega
      refine GL.eq (M' := [(6, .slice A42 ((flat (vs.take k)).length + s.2.2.length) c43), (8, .slice s.1 s.2.2.length s.2.1), (25, .slice (some ⟨b, 0, none⟩) vs.length vs.length), (26, .int .i64 (vs.length : Int)), (27, .int .i64 ((k + 1 : Nat) : Int)), (28, .bool true)]) (by rw [e47]) ?_
      clear e47
      have H48 : Hp w [] [.row A42 ((flat (vs.take (k + 1))).length) c43 5 1 (by8 (flat (vs.take (k + 1))))] w44 := by rw [e1, List.length_append]; exact H46
      refine GL.fit (ts := [6, 25, 26, 27]) (M' := [(6, .slice A42 ((flat (vs.take k)).length + s.2.2.length) c43), (25, .slice (some ⟨b, 0, none⟩) vs.length vs.length), (26, .int .i64 (vs.length : Int)), (27, .int .i64 ((k + 1 : Nat) : Int))]) (by kernel_rfl) ?_
      refine GL.eq (M' := [(6, .slice A42 ((flat (vs.take (k + 1))).length) c43), (25, .slice (some ⟨b, 0, none⟩) vs.length vs.length), (26, .int .i64 (vs.length : Int)), (27, .int .i64 ((k + 1 : Nat) : Int))]) (by rw [e1, List.length_append]) ?_
      exact GL.again ⟨k + 1, A42, c43⟩ [6, 25, 26, 27] rfl (by kernel_rfl) (by show vs.length - (k + 1) < vs.length - (k); omega) ⟨by omega, H48⟩
  · skip
    have hb16f := of_decide_eq_true hb16
    have hlt : k < vs.length := by have := of_decide_eq_true hb16; omega
    obtain ⟨s, hs⟩ : ∃ s, vs[k]? = some s := ⟨vs[k], List.getElem?_eq_getElem hlt⟩
    have e1 := flat_take hs
    have e2 := flat_le vs (k + 1)
    rw [e1, List.length_append] at e2
    refine G.yes rfl ?_
    refine G.skipK hK15 (fun _ _ h => h) ?_
    refine G.seqK fun K49 hK50 => ?_
    refine G.block ?_
    refine G.seqK fun K51 hK52 => ?_
    refine G.region ?_
    refine GL.sem (j := 1) (run_idxSl (P := Try.prog) (k := .i64) (t := 43) (sz := 1) (a := ⟨b, 0, none⟩) (len := vs.length) (cap := vs.length) (j := k) (by kernel_rfl) rfl (by first | rfl | omega | (simp only [List.length_cons, List.length_nil, List.length_drop, List.length_take, List.length_append] <;> omega))) [0, 3, 9, 10, 11, 12, 13] [(0, .slice (some ⟨b, 0, none⟩) vs.length vs.length), (3, .int .i64 (((flat (vs.take k)).length : Nat) : Int)), (9, .slice (some ⟨b, 0, none⟩) vs.length vs.length), (10, .int .i64 (vs.length : Int)), (11, .int .i64 (k : Int)), (12, .bool true), (13, .pointer (some (Addr.add ⟨b, 0, none⟩ (k * 1))))] (by kernel_rfl) (by kernel_rfl) rfl ?_
    refine GL.sem (j := 2) (run_ld1 (P := Try.prog) (ty := 24) (a := (Addr.add ⟨b, 0, none⟩ (k * 1))) (v := sv s) (by kernel_rfl) (by rw [addr_add, (H11.oldBlk hb).cell]; simp [hs])) [0, 3, 9, 10, 11, 12, 14] [(0, .slice (some ⟨b, 0, none⟩) vs.length vs.length), (3, .int .i64 (((flat (vs.take k)).length : Nat) : Int)), (9, .slice (some ⟨b, 0, none⟩) vs.length vs.length), (10, .int .i64 (vs.length : Int)), (11, .int .i64 (k : Int)), (12, .bool true), (14, .slice s.1 s.2.2.length s.2.1)] (by kernel_rfl) (by kernel_rfl) rfl ?_
    refine GL.run (j := 3) 1 [0, 3, 5, 9, 10, 11, 12] [(0, .slice (some ⟨b, 0, none⟩) vs.length vs.length), (3, .int .i64 (((flat (vs.take k)).length : Nat) : Int)), (5, .slice s.1 s.2.2.length s.2.1), (9, .slice (some ⟨b, 0, none⟩) vs.length vs.length), (10, .int .i64 (vs.length : Int)), (11, .int .i64 (k : Int)), (12, .bool true)] (by kernel_rfl) rfl ?_
    refine GL.k rfl hK52 (fun _ _ h => h) ?_
    refine G.seqK fun K53 hK54 => ?_
    refine G.region ?_
    refine GL.run (j := 5) 5 [0, 3, 5, 9, 10, 11, 12] [(0, .slice (some ⟨b, 0, none⟩) vs.length vs.length), (3, .int .i64 (IntKind.i64.wrap ((((flat (vs.take k)).length : Nat) : Int) + (s.2.2.length : Int)))), (5, .slice s.1 s.2.2.length s.2.1), (9, .slice (some ⟨b, 0, none⟩) vs.length vs.length), (10, .int .i64 (vs.length : Int)), (11, .int .i64 (k : Int)), (12, .bool true)] (by kernel_rfl) rfl ?_
    have e55 : (IntKind.i64.wrap ((((flat (vs.take k)).length : Nat) : Int) + (s.2.2.length : Int))) = ((((flat (vs.take k)).length) + s.2.2.length : Nat) : Int) := by rw [in_i64 (by first | rfl | omega | (simp only [List.length_cons, List.length_nil, List.length_drop, List.length_take, List.length_append] <;> omega))]; omega
    refine GL.eq (M' := [(0, .slice (some ⟨b, 0, none⟩) vs.length vs.length), (3, .int .i64 ((((flat (vs.take k)).length) + s.2.2.length : Nat) : Int)), (5, .slice s.1 s.2.2.length s.2.1), (9, .slice (some ⟨b, 0, none⟩) vs.length vs.length), (10, .int .i64 (vs.length : Int)), (11, .int .i64 (k : Int)), (12, .bool true)]) (by rw [e55]) ?_
    clear e55
    refine GL.k rfl hK54 (fun _ _ h => h) ?_
    refine G.seqK fun K56 hK57 => ?_
    refine G.region ?_
    refine GL.run (j := 2) 2 [0, 3, 5, 9, 10, 11, 12, 20] [(0, .slice (some ⟨b, 0, none⟩) vs.length vs.length), (3, .int .i64 ((((flat (vs.take k)).length) + s.2.2.length : Nat) : Int)), (5, .slice s.1 s.2.2.length s.2.1), (9, .slice (some ⟨b, 0, none⟩) vs.length vs.length), (10, .int .i64 (vs.length : Int)), (11, .int .i64 (k : Int)), (12, .bool true), (20, .bool (decide (((((flat (vs.take k)).length) + s.2.2.length : Nat) : Int) < 0)))] (by kernel_rfl) rfl ?_
    refine GL.k rfl hK57 (fun _ _ h => h) ?_
    have hb58 : (decide (((((flat (vs.take k)).length) + s.2.2.length : Nat) : Int) < 0)) = false := decide_eq_false (by omega)
    rw [hb58]
    refine G.no rfl ?_
    refine G.skipK hK50 (fun _ _ h => h) ?_
    refine G.region ?_
    refine GL.run (j := 2) 2 [0, 3, 5, 9, 10, 11, 12, 20] [(0, .slice (some ⟨b, 0, none⟩) vs.length vs.length), (3, .int .i64 ((((flat (vs.take k)).length) + s.2.2.length : Nat) : Int)), (5, .slice s.1 s.2.2.length s.2.1), (9, .slice (some ⟨b, 0, none⟩) vs.length vs.length), (10, .int .i64 (vs.length : Int)), (11, .int .i64 (IntKind.i64.wrap ((k : Int) + 1))), (12, .bool true), (20, .bool false)] (by kernel_rfl) rfl ?_
    have e59 : (IntKind.i64.wrap ((k : Int) + 1)) = ((k + 1 : Nat) : Int) := by rw [in_i64 (by omega)]; omega
    refine GL.eq (M' := [(0, .slice (some ⟨b, 0, none⟩) vs.length vs.length), (3, .int .i64 ((((flat (vs.take k)).length) + s.2.2.length : Nat) : Int)), (5, .slice s.1 s.2.2.length s.2.1), (9, .slice (some ⟨b, 0, none⟩) vs.length vs.length), (10, .int .i64 (vs.length : Int)), (11, .int .i64 ((k + 1 : Nat) : Int)), (12, .bool true), (20, .bool false)]) (by rw [e59]) ?_
    clear e59
    refine GL.fit (ts := [0, 3, 9, 10, 11]) (M' := [(0, .slice (some ⟨b, 0, none⟩) vs.length vs.length), (3, .int .i64 ((((flat (vs.take k)).length) + s.2.2.length : Nat) : Int)), (9, .slice (some ⟨b, 0, none⟩) vs.length vs.length), (10, .int .i64 (vs.length : Int)), (11, .int .i64 ((k + 1 : Nat) : Int))]) (by kernel_rfl) ?_
    refine GL.eq (M' := [(0, .slice (some ⟨b, 0, none⟩) vs.length vs.length), (3, .int .i64 (((flat (vs.take (k + 1))).length : Nat) : Int)), (9, .slice (some ⟨b, 0, none⟩) vs.length vs.length), (10, .int .i64 (vs.length : Int)), (11, .int .i64 ((k + 1 : Nat) : Int))]) (by rw [e1, List.length_append]) ?_
    exact GL.again (k + 1) [0, 3, 9, 10, 11] rfl (by kernel_rfl) (by show vs.length - (k + 1) < vs.length - (k); omega) ⟨by omega, H11⟩
theorem Equal_calls (xs ys : List UInt8) (A B : Option Addr) (c d : Nat) (w : World) (hx : RdS w A (by8 xs)) (hy : RdS w B (by8 ys)) : Calls Try.prog 13 #[.slice A xs.length c, .slice B ys.length d] w fun e w' => e = .returned (.bool (xs == ys)) ∧ Hp w [] [] w' := by
  refine calls_G (args := [.slice A xs.length c, .slice B ys.length d]) Try.func13 rfl Try.ntmps13 rfl ?_
  intro Q0 hRet hNor hPan
  have H := Hp.start w
  have H : Hp w [] [] w := H
  refine G.seqK fun K1 hK2 => ?_
  refine G.region ?_
  refine GL.run (j := 1) 1 [0, 1, 4] [(0, .slice A xs.length c), (1, .slice B ys.length d), (4, .bool false)] (by kernel_rfl) rfl ?_
  refine GL.k rfl hK2 (fun _ _ h => h) ?_
  refine G.seqK fun K3 hK4 => ?_
  refine G.region ?_
  refine GL.run (j := 1) 1 [0, 1, 4, 5] [(0, .slice A xs.length c), (1, .slice B ys.length d), (4, .bool false), (5, .slice A xs.length c)] (by kernel_rfl) rfl ?_
  refine GL.sem (j := 2) (run_toStr (P := Try.prog) (src := 24) (dst := 9) (A := A) (bs := xs) (n := xs.length) (c := c) (by kernel_rfl) (by kernel_rfl) (hx.hp H) (rfl)) [0, 1, 4, 6] [(0, .slice A xs.length c), (1, .slice B ys.length d), (4, .bool false), (6, .string (strOf xs))] (by kernel_rfl) (by kernel_rfl) rfl ?_
  refine GL.run (j := 3) 1 [0, 1, 4, 6, 7] [(0, .slice A xs.length c), (1, .slice B ys.length d), (4, .bool false), (6, .string (strOf xs)), (7, .slice B ys.length d)] (by kernel_rfl) rfl ?_
  refine GL.sem (j := 4) (run_toStr (P := Try.prog) (src := 24) (dst := 9) (A := B) (bs := ys) (n := ys.length) (c := d) (by kernel_rfl) (by kernel_rfl) (hy.hp H) (rfl)) [0, 1, 4, 6, 8] [(0, .slice A xs.length c), (1, .slice B ys.length d), (4, .bool false), (6, .string (strOf xs)), (8, .string (strOf ys))] (by kernel_rfl) (by kernel_rfl) rfl ?_
  refine GL.sem (j := 5) (run_str_eql (P := Try.prog) (t := 9) xs ys _) [0, 1, 4, 9] [(0, .slice A xs.length c), (1, .slice B ys.length d), (4, .bool false), (9, .bool (xs == ys))] (by kernel_rfl) (by kernel_rfl) rfl ?_
  refine GL.run (j := 6) 1 [0, 1, 4] [(0, .slice A xs.length c), (1, .slice B ys.length d), (4, .bool (xs == ys))] (by kernel_rfl) rfl ?_
  refine GL.k rfl hK4 (fun _ _ h => h) ?_
  refine G.ret ?_
  intro F_ hF_ hM_
  refine hRet _ _ (bodyPost_1 rfl (RV.tmp rfl) ?_ F_ hF_ hM_)
  exact ⟨rfl, H.sub (List.nil_sublist _)⟩
theorem Clone_calls (xs : List UInt8) (A : Option Addr) (c : Nat) (w : World) (hx : RdS w A (by8 xs)) (hA : A.isNone = false) (hn : xs.length ≤ 1099511627776) : Calls Try.prog 14 #[.slice A xs.length c] w fun e w' => ∃ A c, e = .returned ((.slice A xs.length c)) ∧ Hp w [] [.row A xs.length c 5 1 (by8 xs)] w' := by
  refine calls_G (args := [.slice A xs.length c]) Try.func14 rfl Try.ntmps14 rfl ?_
  intro Q0 hRet hNor hPan
  have H := Hp.start w
  have H : Hp w [] [] w := H
  refine G.seqK fun K1 hK2 => ?_
  refine G.region ?_
  refine GL.run (j := 1) 1 [0, 2] [(0, .slice A xs.length c), (2, .slice none 0 0)] (by kernel_rfl) rfl ?_
  refine GL.k rfl hK2 (fun _ _ h => h) ?_
  refine G.seqK fun K3 hK4 => ?_
  refine G.seqK fun K5 hK6 => ?_
  refine G.region ?_
  refine GL.run (j := 1) 1 [0, 2, 3] [(0, .slice A xs.length c), (2, .slice none 0 0), (3, .slice A xs.length c)] (by kernel_rfl) rfl ?_
  refine GL.sem (j := 2) (run_sl_nil (P := Try.prog) (sz := 1) (t := 24) (n := xs.length) (c := c) (A := A) (by kernel_rfl) _) [0, 2, 4] [(0, .slice A xs.length c), (2, .slice none 0 0), (4, .bool (Option.isNone A))] (by kernel_rfl) (by kernel_rfl) rfl ?_
  refine GL.k rfl hK6 (fun _ _ h => h) ?_
  have hb7 : (Option.isNone A) = false := hA
  rw [hb7]
  refine G.no rfl ?_
  refine G.skipK hK4 (fun _ _ h => h) ?_
  refine G.seqK fun K8 hK9 => ?_
  refine G.region ?_
  obtain ⟨p10, w11, r12, H13⟩ := H.madeRow (P := Try.prog) (Instr.buildSlice 24 0 #[]) (fun b_ => .slice (some ⟨b_, 0, none⟩) 0 0) [] 5 0 0 1 (by kernel_rfl) (by decide) (by decide) rfl
  have H13 : Hp w [] [.row (some ⟨p10, 0, none⟩) 0 0 5 1 (by8 ([] : List UInt8))] w11 := H13
  refine GL.sem (j := 1) (r12) [0, 2, 4, 5] [(0, .slice A xs.length c), (2, .slice none 0 0), (4, .bool false), (5, .slice (some ⟨p10, 0, none⟩) 0 0)] (by kernel_rfl) (by kernel_rfl) rfl ?_
  refine GL.run (j := 2) 1 [0, 2, 4, 5, 6] [(0, .slice A xs.length c), (2, .slice none 0 0), (4, .bool false), (5, .slice (some ⟨p10, 0, none⟩) 0 0), (6, .slice A xs.length c)] (by kernel_rfl) rfl ?_
  obtain ⟨A14, c15, w16, r17, H18⟩ := H13.append (P := Try.prog) (e := 5) (sz := 1) (by_ := 1) (n := 0) (c := 0) (m := xs.length) (d := c) (t := 24) (ty := 24) (xs := by8 ([] : List UInt8)) (news := by8 xs) 0 rfl (by kernel_rfl) (hx.hp H13) (by simp [by8_length]) (by8_one _) (by omega) (by simp only [maxLen]; omega)
  rw [Nat.zero_add] at r17 H18
  have H18 : Hp w [] [.row A14 xs.length c15 5 1 (by8 xs)] w16 := H18
  refine GL.sem (j := 3) (r17) [0, 2, 4, 7] [(0, .slice A xs.length c), (2, .slice none 0 0), (4, .bool false), (7, .slice A14 xs.length c15)] (by kernel_rfl) (by kernel_rfl) rfl ?_
  refine GL.run (j := 4) 1 [0, 2, 4] [(0, .slice A xs.length c), (2, .slice A14 xs.length c15), (4, .bool false)] (by kernel_rfl) rfl ?_
  refine GL.k rfl hK9 (fun _ _ h => h) ?_
  refine G.ret ?_
  intro F_ hF_ hM_
  refine hRet _ _ (bodyPost_1 rfl (RV.tmp rfl) ?_ F_ hF_ hM_)
  exact ⟨_, _, rfl, H18.sub (by simp)⟩
end Go.Proofs.Ytjlcmhdfmeleeaa
