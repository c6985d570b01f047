/- The document's numbers: bits, quotients. -/
import Derived.Test.YtpfdpikblijddaaNumM
namespace Go.Proofs.Ytpfdpikblijddaa
open Go.RowKit
theorem BitsN_calls (a : Nat) (A : Option Addr) (c : Nat) (w : World) (hr : RdS w A (dg (digs a))) (hna : ndg a ≤ 100000) : Calls Try.prog 12 #[.slice A (ndg a) c] w fun e w' => ∃ A c, e = .returned (.slice A (bl a) c) ∧ Hp w [] [.row A (bl a) c 22 1 (dg (bitsL a))] w' := by
  have hMX : MX = 4611686018427387904 := rfl
  have hK0 : K = 18446744073709551616 := rfl
  have hK40 : K4 = 115792089237316195423570985008687907853269984665640564039457584007913129639936 := rfl
  have hbl := ndg_bl hna
  refine calls_G (args := [.slice A (ndg a) c]) Try.func12 rfl Try.ntmps12 rfl ?_
  intro Q0 hRet hNor hPan
  have H := Hp.start w
  have H : Hp w [] [] w := H
  refine G.seqK fun K1 hK2 => ?_
  refine G.region ?_
  refine GL.run (j := 1) 1 [0] [(0, .slice A (ndg a) c)] (by kernel_rfl) rfl ?_
  refine GL.k rfl hK2 (fun _ _ h => h) ?_
  refine G.seqK fun K3 hK4 => ?_
  refine G.region ?_
  obtain ⟨p5, w6, r7, H8⟩ := H.madeRow (P := Try.prog) (Instr.buildSlice 29 0 #[]) (fun b_ => .slice (some ⟨b_, 0, none⟩) 0 0) [] 22 0 0 1 (by kernel_rfl) (by decide) (by decide) rfl
  have H8 : Hp w [] [.row (some ⟨p5, 0, none⟩) 0 0 22 1 (dg [])] w6 := H8
  refine GL.sem (j := 1) (r7) [0, 5] [(0, .slice A (ndg a) c), (5, .slice (some ⟨p5, 0, none⟩) 0 0)] (by kernel_rfl) (by kernel_rfl) rfl ?_
  refine GL.run (j := 2) 1 [0, 3] [(0, .slice A (ndg a) c), (3, .slice (some ⟨p5, 0, none⟩) 0 0)] (by kernel_rfl) rfl ?_
  refine GL.k rfl hK4 (fun _ _ h => h) ?_
  refine G.seqK fun K9 hK10 => ?_
  refine G.block ?_
  refine G.fit [0, 3] (M' := [(0, .slice A (ndg a) c), (3, .slice (some ⟨p5, 0, none⟩) 0 0)]) (by kernel_rfl) ?_
  refine G.loop (X := Nat × Nat × Option Addr × Nat × Option Addr × Nat) (fun ⟨i, V, Z, z, B, y⟩ => [(0, .slice Z (ndg V) z), (3, .slice B i y)]) (fun ⟨i, V, Z, z, B, y⟩ w_ => (i ≤ bl a ∧ V = a / 2 ^ i ∧ ndg V ≤ 100000 ∧ (RdS w Z (dg (digs V)) ∨ Hp w [] [.row B i y 22 1 (dg ((List.range i).map fun j => a / 2 ^ j % 2)), .row Z (ndg V) z 22 1 (dg (digs V))] w_)) ∧ Hp w [] [.row B i y 22 1 (dg ((List.range i).map fun j => a / 2 ^ j % 2))] w_) (fun ⟨i, V, Z, z, B, y⟩ => bl a - i) ⟨0, a, A, c, (some ⟨p5, 0, none⟩), 0⟩ [0, 3] (by kernel_rfl) ⟨⟨Nat.zero_le _, by simp, hna, .inl hr⟩, H8⟩ ?_
  rintro ⟨i, V, Z, z, B, y⟩ w11 ⟨hi12, H13⟩
  refine G.eq (M' := [(0, .slice Z (ndg V) z), (3, .slice B i y)]) rfl ?_
  have H13 : Hp w [] [.row B i y 22 1 (dg ((List.range i).map fun j => a / 2 ^ j % 2))] w11 := H13
  obtain ⟨hib, hV, hVn, hrd⟩ := hi12
  rcases hrd with hrd | hrd
  · skip
    refine G.seqK fun K14 hK15 => ?_
    refine G.seqK fun K16 hK17 => ?_
    refine G.region ?_
    refine GL.run (j := 3) 3 [0, 3, 8] [(0, .slice Z (ndg V) z), (3, .slice B i y), (8, .bool (decide (0 < (((ndg V) : Nat) : Int))))] (by kernel_rfl) rfl ?_
    refine GL.k rfl hK17 (fun _ _ h => h) ?_
    cases hb18 : (decide (0 < (((ndg V) : Nat) : Int)))
    · skip
      have hb18f := of_decide_eq_false hb18
      have hV0 : V = 0 := by have := @ndg_pos V; omega
      refine G.no rfl ?_
      refine G.exitK hK10 (fun _ _ h => h) ?_
      refine G.seqK fun K19 hK20 => ?_
      refine G.region ?_
      refine GL.run (j := 2) 2 [2] [(2, .slice B i y)] (by kernel_rfl) rfl ?_
      refine GL.k rfl hK20 (fun _ _ h => h) ?_
      refine G.ret ?_
      intro F_ hF_ hM_
      refine hRet _ _ (bodyPost_1 rfl (RV.tmp rfl) ?_ F_ hF_ hM_)
      have hV1 : a / 2 ^ i = 0 := by rw [← hV]; exact hV0
      have ebl : bl a = i := Nat.le_antisymm (bl_end hV1) hib
      have HF := H13
      rw [bits_done hib hV1, ← ebl] at HF
      rw [← ebl]
      exact ⟨_, _, rfl, HF⟩
    · skip
      have hb18f := of_decide_eq_true hb18
      have hV0 : V ≠ 0 := ndg_pos.1 (by omega)
      have hib2 : i < bl a := bl_more (by rw [← hV]; exact hV0)
      refine G.yes rfl ?_
      refine G.skipK hK15 (fun _ _ h => h) ?_
      refine G.block ?_
      refine G.seqK fun K21 hK22 => ?_
      refine G.region ?_
      refine GL.run (j := 1) 1 [0, 3] [(0, .slice Z (ndg V) z), (3, .slice B i y)] (by kernel_rfl) rfl ?_
      refine GL.k rfl hK22 (fun _ _ h => h) ?_
      refine G.seqK fun K23 hK24 => ?_
      refine G.region ?_
      refine GL.run (j := 1) 1 [3, 10] [(3, .slice B i y), (10, .slice Z (ndg V) z)] (by kernel_rfl) rfl ?_
      refine GL.call (j := 2) (HalfN_calls V Z z w11 (hrd.hp H13) (by omega)) (by kernel_rfl) rfl (fun e_ w29 hR => ?_)
      obtain ⟨A25, c26, rfl, H28⟩ := hR
      have H27 : Hp w [] [.row B i y 22 1 (dg ((List.range i).map fun j => a / 2 ^ j % 2)), .row A25 (ndg (V / 2)) c26 22 1 (dg (digs (V / 2)))] w29 := H13.callNew H28
      refine ⟨_, rfl, [3, 11], [(3, .slice B i y), (11, .tuple #[.slice A25 (ndg (V / 2)) c26, .int .u64 (((V % 2) : Nat) : Int)])], by kernel_rfl, ?_⟩
      refine GL.run (j := 7) 5 [0, 3, 4] [(0, .slice A25 (ndg (V / 2)) c26), (3, .slice B i y), (4, .int .u64 (((V % 2) : Nat) : Int))] (by kernel_rfl) rfl ?_
      refine GL.k rfl hK24 (fun _ _ h => h) ?_
      refine G.region ?_
      refine GL.run (j := 2) 2 [0, 14, 15] [(0, .slice A25 (ndg (V / 2)) c26), (14, .slice B i y), (15, .int .u64 (((V % 2) : Nat) : Int))] (by kernel_rfl) rfl ?_
      obtain ⟨p30, w31, r32, H33⟩ := H27.madeRow (P := Try.prog) (Instr.buildSlice 29 1 #[(0, .int .u64 (((V % 2) : Nat) : Int))]) (fun b_ => .slice (some ⟨b_, 0, none⟩) 1 1) [.int .u64 (((V % 2) : Nat) : Int)] 22 1 1 1 (by kernel_rfl) (by decide) (by decide) rfl
      have H33 : Hp w [] [.row B i y 22 1 (dg ((List.range i).map fun j => a / 2 ^ j % 2)), .row A25 (ndg (V / 2)) c26 22 1 (dg (digs (V / 2))), .row (some ⟨p30, 0, none⟩) 1 1 22 1 (dg [(V % 2)])] w31 := H33
      refine GL.sem (j := 3) (r32) [0, 14, 16] [(0, .slice A25 (ndg (V / 2)) c26), (14, .slice B i y), (16, .slice (some ⟨p30, 0, none⟩) 1 1)] (by kernel_rfl) (by kernel_rfl) rfl ?_
      obtain ⟨A34, c35, w36, r37, H38⟩ := H33.append (P := Try.prog) (e := 22) (sz := 1) (by_ := 8) (n := i) (c := y) (m := 1) (d := 1) (t := 29) (ty := 29) (xs := dg ((List.range i).map fun j => a / 2 ^ j % 2)) (news := dg [(V % 2)]) 0 rfl (by kernel_rfl) (H33.rdRow 2 rfl) (by simp [dg_length]) (dg_one _) (by omega) (by simp only [maxLen]; omega)
      rw [← dg_append] at H38
      have H38 : Hp w [] [.row A34 (i + 1) c35 22 1 (dg (((List.range i).map fun j => a / 2 ^ j % 2) ++ [(V % 2)])), .row A25 (ndg (V / 2)) c26 22 1 (dg (digs (V / 2))), .row (some ⟨p30, 0, none⟩) 1 1 22 1 (dg [(V % 2)])] w36 := H38
      refine GL.sem (j := 4) (r37) [0, 17] [(0, .slice A25 (ndg (V / 2)) c26), (17, .slice A34 (i + 1) c35)] (by kernel_rfl) (by kernel_rfl) rfl ?_
      refine GL.run (j := 5) 1 [0, 3] [(0, .slice A25 (ndg (V / 2)) c26), (3, .slice A34 (i + 1) c35)] (by kernel_rfl) rfl ?_
      have H39 : Hp w [] [.row A34 (i + 1) c35 22 1 (dg (((List.range i).map fun j => a / 2 ^ j % 2) ++ [(V % 2)])), .row A25 (ndg (V / 2)) c26 22 1 (dg (digs (V / 2)))] w36 := H38.sub (List.Sublist.cons_cons _ (List.Sublist.cons_cons _ (List.Sublist.cons _ (List.Sublist.slnil))))
      have eb : ((List.range i).map fun j => a / 2 ^ j % 2) ++ [(V % 2)] = ((List.range (i + 1)).map fun j => a / 2 ^ j % 2) := by rw [hV]; exact bits_next a i
      have H40 : Hp w [] [.row A34 (i + 1) c35 22 1 (dg ((List.range (i + 1)).map fun j => a / 2 ^ j % 2)), .row A25 (ndg (V / 2)) c26 22 1 (dg (digs (V / 2)))] w36 := by rw [← eb]; exact H39
      have H41 : Hp w [] [.row A34 (i + 1) c35 22 1 (dg ((List.range (i + 1)).map fun j => a / 2 ^ j % 2))] w36 := H40.sub (List.Sublist.cons_cons _ (List.Sublist.cons _ (List.Sublist.slnil)))
      exact GL.againB ⟨(i + 1), (V / 2), A25, c26, A34, c35⟩ [0, 3] rfl (by kernel_rfl) (by show bl a - (i + 1) < bl a - i; omega) ⟨⟨by omega, by rw [hV, half_pow], Nat.le_trans (ndg_mono (Nat.div_le_self _ _)) hVn, .inr H40⟩, H41⟩
  · skip
    have H42 : Hp w [] [.row B i y 22 1 (dg ((List.range i).map fun j => a / 2 ^ j % 2)), .row Z (ndg V) z 22 1 (dg (digs V))] w11 := hrd
    refine G.seqK fun K43 hK44 => ?_
    refine G.seqK fun K45 hK46 => ?_
    refine G.region ?_
    refine GL.run (j := 3) 3 [0, 3, 8] [(0, .slice Z (ndg V) z), (3, .slice B i y), (8, .bool (decide (0 < (((ndg V) : Nat) : Int))))] (by kernel_rfl) rfl ?_
    refine GL.k rfl hK46 (fun _ _ h => h) ?_
    cases hb47 : (decide (0 < (((ndg V) : Nat) : Int)))
    · skip
      have hb47f := of_decide_eq_false hb47
      have hV0 : V = 0 := by have := @ndg_pos V; omega
      refine G.no rfl ?_
      refine G.exitK hK10 (fun _ _ h => h) ?_
      refine G.seqK fun K48 hK49 => ?_
      refine G.region ?_
      refine GL.run (j := 2) 2 [2] [(2, .slice B i y)] (by kernel_rfl) rfl ?_
      refine GL.k rfl hK49 (fun _ _ h => h) ?_
      refine G.ret ?_
      intro F_ hF_ hM_
      refine hRet _ _ (bodyPost_1 rfl (RV.tmp rfl) ?_ F_ hF_ hM_)
      have H50 : Hp w [] [.row B i y 22 1 (dg ((List.range i).map fun j => a / 2 ^ j % 2))] w11 := H42.sub (List.Sublist.cons_cons _ (List.Sublist.cons _ (List.Sublist.slnil)))
      have hV1 : a / 2 ^ i = 0 := by rw [← hV]; exact hV0
      have ebl : bl a = i := Nat.le_antisymm (bl_end hV1) hib
      have HF := H50
      rw [bits_done hib hV1, ← ebl] at HF
      rw [← ebl]
      exact ⟨_, _, rfl, HF⟩
    · skip
      have hb47f := of_decide_eq_true hb47
      have hV0 : V ≠ 0 := ndg_pos.1 (by omega)
      have hib2 : i < bl a := bl_more (by rw [← hV]; exact hV0)
      refine G.yes rfl ?_
      refine G.skipK hK44 (fun _ _ h => h) ?_
      refine G.block ?_
      refine G.seqK fun K51 hK52 => ?_
      refine G.region ?_
      refine GL.run (j := 1) 1 [0, 3] [(0, .slice Z (ndg V) z), (3, .slice B i y)] (by kernel_rfl) rfl ?_
      refine GL.k rfl hK52 (fun _ _ h => h) ?_
      refine G.seqK fun K53 hK54 => ?_
      refine G.region ?_
      refine GL.run (j := 1) 1 [3, 10] [(3, .slice B i y), (10, .slice Z (ndg V) z)] (by kernel_rfl) rfl ?_
      refine GL.call (j := 2) (HalfN_calls V Z z w11 (H42.rdRow 1 rfl) (by omega)) (by kernel_rfl) rfl (fun e_ w59 hR => ?_)
      obtain ⟨A55, c56, rfl, H58⟩ := hR
      have H57 : Hp w [] [.row B i y 22 1 (dg ((List.range i).map fun j => a / 2 ^ j % 2)), .row Z (ndg V) z 22 1 (dg (digs V)), .row A55 (ndg (V / 2)) c56 22 1 (dg (digs (V / 2)))] w59 := H42.callNew H58
      refine ⟨_, rfl, [3, 11], [(3, .slice B i y), (11, .tuple #[.slice A55 (ndg (V / 2)) c56, .int .u64 (((V % 2) : Nat) : Int)])], by kernel_rfl, ?_⟩
      refine GL.run (j := 7) 5 [0, 3, 4] [(0, .slice A55 (ndg (V / 2)) c56), (3, .slice B i y), (4, .int .u64 (((V % 2) : Nat) : Int))] (by kernel_rfl) rfl ?_
      refine GL.k rfl hK54 (fun _ _ h => h) ?_
      refine G.region ?_
      refine GL.run (j := 2) 2 [0, 14, 15] [(0, .slice A55 (ndg (V / 2)) c56), (14, .slice B i y), (15, .int .u64 (((V % 2) : Nat) : Int))] (by kernel_rfl) rfl ?_
      obtain ⟨p60, w61, r62, H63⟩ := H57.madeRow (P := Try.prog) (Instr.buildSlice 29 1 #[(0, .int .u64 (((V % 2) : Nat) : Int))]) (fun b_ => .slice (some ⟨b_, 0, none⟩) 1 1) [.int .u64 (((V % 2) : Nat) : Int)] 22 1 1 1 (by kernel_rfl) (by decide) (by decide) rfl
      have H63 : Hp w [] [.row B i y 22 1 (dg ((List.range i).map fun j => a / 2 ^ j % 2)), .row Z (ndg V) z 22 1 (dg (digs V)), .row A55 (ndg (V / 2)) c56 22 1 (dg (digs (V / 2))), .row (some ⟨p60, 0, none⟩) 1 1 22 1 (dg [(V % 2)])] w61 := H63
      refine GL.sem (j := 3) (r62) [0, 14, 16] [(0, .slice A55 (ndg (V / 2)) c56), (14, .slice B i y), (16, .slice (some ⟨p60, 0, none⟩) 1 1)] (by kernel_rfl) (by kernel_rfl) rfl ?_
      obtain ⟨A64, c65, w66, r67, H68⟩ := H63.append (P := Try.prog) (e := 22) (sz := 1) (by_ := 8) (n := i) (c := y) (m := 1) (d := 1) (t := 29) (ty := 29) (xs := dg ((List.range i).map fun j => a / 2 ^ j % 2)) (news := dg [(V % 2)]) 0 rfl (by kernel_rfl) (H63.rdRow 3 rfl) (by simp [dg_length]) (dg_one _) (by omega) (by simp only [maxLen]; omega)
      rw [← dg_append] at H68
      have H68 : Hp w [] [.row A64 (i + 1) c65 22 1 (dg (((List.range i).map fun j => a / 2 ^ j % 2) ++ [(V % 2)])), .row Z (ndg V) z 22 1 (dg (digs V)), .row A55 (ndg (V / 2)) c56 22 1 (dg (digs (V / 2))), .row (some ⟨p60, 0, none⟩) 1 1 22 1 (dg [(V % 2)])] w66 := H68
      refine GL.sem (j := 4) (r67) [0, 17] [(0, .slice A55 (ndg (V / 2)) c56), (17, .slice A64 (i + 1) c65)] (by kernel_rfl) (by kernel_rfl) rfl ?_
      refine GL.run (j := 5) 1 [0, 3] [(0, .slice A55 (ndg (V / 2)) c56), (3, .slice A64 (i + 1) c65)] (by kernel_rfl) rfl ?_
      have H69 : Hp w [] [.row A64 (i + 1) c65 22 1 (dg (((List.range i).map fun j => a / 2 ^ j % 2) ++ [(V % 2)])), .row A55 (ndg (V / 2)) c56 22 1 (dg (digs (V / 2)))] w66 := H68.sub (List.Sublist.cons_cons _ (List.Sublist.cons _ (List.Sublist.cons_cons _ (List.Sublist.cons _ (List.Sublist.slnil)))))
      have eb : ((List.range i).map fun j => a / 2 ^ j % 2) ++ [(V % 2)] = ((List.range (i + 1)).map fun j => a / 2 ^ j % 2) := by rw [hV]; exact bits_next a i
      have H70 : Hp w [] [.row A64 (i + 1) c65 22 1 (dg ((List.range (i + 1)).map fun j => a / 2 ^ j % 2)), .row A55 (ndg (V / 2)) c56 22 1 (dg (digs (V / 2)))] w66 := by rw [← eb]; exact H69
      have H71 : Hp w [] [.row A64 (i + 1) c65 22 1 (dg ((List.range (i + 1)).map fun j => a / 2 ^ j % 2))] w66 := H70.sub (List.Sublist.cons_cons _ (List.Sublist.cons _ (List.Sublist.slnil)))
      exact GL.againB ⟨(i + 1), (V / 2), A55, c56, A64, c65⟩ [0, 3] rfl (by kernel_rfl) (by show bl a - (i + 1) < bl a - i; omega) ⟨⟨by omega, by rw [hV, half_pow], Nat.le_trans (ndg_mono (Nat.div_le_self _ _)) hVn, .inr H70⟩, H71⟩
theorem FromBitsN_calls (ls : List Nat) (n : Nat) (hn : n = ls.length) (A : Option Addr) (c : Nat) (w : World) (hr : RdS w A (dg ls)) (hl : ls.length ≤ 20000) : Calls Try.prog 19 #[.slice A n c] w fun e w' => ∃ A c, e = .returned ((.slice A (ndg (bval ls)) c)) ∧ Hp w [] [.row A (ndg (bval ls)) c 22 1 (dg (digs (bval ls)))] w' := by
  subst hn
  have hMX : MX = 4611686018427387904 := rfl
  have hK0 : K = 18446744073709551616 := rfl
  have hK40 : K4 = 115792089237316195423570985008687907853269984665640564039457584007913129639936 := rfl
  refine calls_G (args := [.slice A ls.length c]) Try.func19 rfl Try.ntmps19 rfl ?_
  intro Q0 hRet hNor hPan
  have H := Hp.start w
  have H : Hp w [] [] w := H
  refine G.seqK fun K1 hK2 => ?_
  refine G.region ?_
  refine GL.run (j := 1) 1 [0] [(0, .slice A ls.length c)] (by kernel_rfl) rfl ?_
  refine GL.k rfl hK2 (fun _ _ h => h) ?_
  refine G.seqK fun K3 hK4 => ?_
  refine G.region ?_
  obtain ⟨p5, w6, r7, H8⟩ := H.madeRow (P := Try.prog) (Instr.buildSlice 30 0 #[]) (fun b_ => .slice (some ⟨b_, 0, none⟩) 0 0) [] 22 0 0 1 (by kernel_rfl) (by decide) (by decide) rfl
  have H8 : Hp w [] [.row (some ⟨p5, 0, none⟩) 0 0 22 1 (dg [])] w6 := H8
  refine GL.sem (j := 1) (r7) [0, 5] [(0, .slice A ls.length c), (5, .slice (some ⟨p5, 0, none⟩) 0 0)] (by kernel_rfl) (by kernel_rfl) rfl ?_
  refine GL.run (j := 2) 1 [0, 3] [(0, .slice A ls.length c), (3, .slice (some ⟨p5, 0, none⟩) 0 0)] (by kernel_rfl) rfl ?_
  refine GL.k rfl hK4 (fun _ _ h => h) ?_
  refine G.seqK fun K9 hK10 => ?_
  refine G.seqK fun K11 hK12 => ?_
  refine G.region ?_
  refine GL.run (j := 4) 4 [0, 3, 4] [(0, .slice A ls.length c), (3, .slice (some ⟨p5, 0, none⟩) 0 0), (4, .int .i64 (IntKind.i64.wrap ((ls.length : Int) - 1)))] (by kernel_rfl) rfl ?_
  have e13 : (IntKind.i64.wrap ((ls.length : Int) - 1)) = ((ls.length : Int) - 1) := in_i64 (by omega)
  refine GL.eq (M' := [(0, .slice A ls.length c), (3, .slice (some ⟨p5, 0, none⟩) 0 0), (4, .int .i64 ((ls.length : Int) - 1))]) (by rw [e13]) ?_
  clear e13
  refine GL.k rfl hK12 (fun _ _ h => h) ?_
  refine G.block ?_
  refine G.fit [0, 3, 4] (M' := [(0, .slice A ls.length c), (3, .slice (some ⟨p5, 0, none⟩) 0 0), (4, .int .i64 ((ls.length : Int) - 1))]) (by kernel_rfl) ?_
  refine G.eq (M' := [(0, .slice A ls.length c), (3, .slice (some ⟨p5, 0, none⟩) (ndg 0) 0), (4, .int .i64 (((ls.length : Nat) : Int) - 1))]) (by rfl) ?_
  refine G.loop (X := Nat × Nat × Option Addr × Nat) (fun ⟨m, V, Z, z⟩ => [(0, .slice A ls.length c), (3, .slice Z (ndg V) z), (4, .int .i64 (((m : Nat) : Int) - 1))]) (fun ⟨m, V, Z, z⟩ w_ => (m ≤ ls.length ∧ V = bval (ls.drop m)) ∧ Hp w [] [.row Z (ndg V) z 22 1 (dg (digs V))] w_) (fun ⟨m, V, Z, z⟩ => m) ⟨ls.length, 0, (some ⟨p5, 0, none⟩), 0⟩ [0, 3, 4] (by kernel_rfl) ⟨⟨Nat.le_refl _, by rw [List.drop_length]; rfl⟩, H8⟩ ?_
  rintro ⟨m, V, Z, z⟩ w14 ⟨hi15, H16⟩
  refine G.eq (M' := [(0, .slice A ls.length c), (3, .slice Z (ndg V) z), (4, .int .i64 (((m : Nat) : Int) - 1))]) rfl ?_
  have H16 : Hp w [] [.row Z (ndg V) z 22 1 (dg (digs V))] w14 := H16
  obtain ⟨hml, hV⟩ := hi15
  have nV : ndg V ≤ 20000 := by rw [hV]; exact Nat.le_trans (ndg_bval _) (by rw [List.length_drop]; omega)
  have n2 : ndg (V + V) ≤ 20001 := Nat.le_trans (ndg_two_mul (b := V) (by omega)) (by omega)
  refine G.seqK fun K17 hK18 => ?_
  refine G.seqK fun K19 hK20 => ?_
  refine G.region ?_
  refine GL.run (j := 2) 2 [0, 3, 4, 10] [(0, .slice A ls.length c), (3, .slice Z (ndg V) z), (4, .int .i64 (((m : Nat) : Int) - 1)), (10, .bool (decide (0 ≤ (((m : Nat) : Int) - 1))))] (by kernel_rfl) rfl ?_
  refine GL.k rfl hK20 (fun _ _ h => h) ?_
  cases hb21 : (decide (0 ≤ (((m : Nat) : Int) - 1)))
  · skip
    have hb21f := of_decide_eq_false hb21
    have hm0 : m = 0 := by omega
    refine G.no rfl ?_
    refine G.exitK hK10 (fun _ _ h => h) ?_
    refine G.seqK fun K22 hK23 => ?_
    refine G.region ?_
    refine GL.run (j := 2) 2 [2] [(2, .slice Z (ndg V) z)] (by kernel_rfl) rfl ?_
    refine GL.k rfl hK23 (fun _ _ h => h) ?_
    refine G.ret ?_
    intro F_ hF_ hM_
    refine hRet _ _ (bodyPost_1 rfl (RV.tmp rfl) ?_ F_ hF_ hM_)
    rw [hm0, List.drop_zero] at hV
    rw [← hV]
    exact ⟨_, _, rfl, H16⟩
  · skip
    have hb21f := of_decide_eq_true hb21
    have hm0 : 0 < m := by omega
    have ei : (((m : Nat) : Int) - 1) = ((m - 1 : Nat) : Int) := by omega
    refine G.eq (M' := [(0, .slice A ls.length c), (3, .slice Z (ndg V) z), (4, .int .i64 ((m - 1 : Nat) : Int)), (10, .bool true)]) (by rw [ei]) ?_
    refine G.yes rfl ?_
    refine G.skipK hK18 (fun _ _ h => h) ?_
    refine G.seqK fun K24 hK25 => ?_
    refine G.block ?_
    refine G.seqK fun K26 hK27 => ?_
    refine G.region ?_
    refine GL.run (j := 2) 2 [0, 4, 13, 14] [(0, .slice A ls.length c), (4, .int .i64 ((m - 1 : Nat) : Int)), (13, .slice Z (ndg V) z), (14, .slice Z (ndg V) z)] (by kernel_rfl) rfl ?_
    refine GL.call (j := 3) (AddN_calls V V Z z Z z w14 (H16.rdRow 0 rfl) (H16.rdRow 0 rfl) (by omega) (by omega)) (by kernel_rfl) rfl (fun e_ w32 hR => ?_)
    obtain ⟨A28, c29, rfl, H31⟩ := hR
    have H30 : Hp w [] [.row Z (ndg V) z 22 1 (dg (digs V)), .row A28 (ndg (V + V)) c29 22 1 (dg (digs (V + V)))] w32 := H16.callNew H31
    refine ⟨_, rfl, [0, 4, 15], [(0, .slice A ls.length c), (4, .int .i64 ((m - 1 : Nat) : Int)), (15, .slice A28 (ndg (V + V)) c29)], by kernel_rfl, ?_⟩
    refine GL.run (j := 4) 1 [0, 3, 4] [(0, .slice A ls.length c), (3, .slice A28 (ndg (V + V)) c29), (4, .int .i64 ((m - 1 : Nat) : Int))] (by kernel_rfl) rfl ?_
    refine GL.k rfl hK27 (fun _ _ h => h) ?_
    refine G.seqK fun K33 hK34 => ?_
    refine G.region ?_
    refine GL.run (j := 2) 2 [0, 3, 4, 16, 17] [(0, .slice A ls.length c), (3, .slice A28 (ndg (V + V)) c29), (4, .int .i64 ((m - 1 : Nat) : Int)), (16, .slice A ls.length c), (17, .int .i64 ((m - 1 : Nat) : Int))] (by kernel_rfl) rfl ?_
    refine GL.sem (j := 3) (run_idxRd (P := Try.prog) (k := .i64) (t := 29) (A := A) (len := ls.length) (cap := c) (j := m - 1) (by kernel_rfl) rfl (hr.hp H30) (by first | exact dg_length _ | rw [dg_length]; first | rfl | assumption | (symm; assumption) | (simp; done) | (rw [List.length_take]; omega) | omega) (by first | rfl | omega | (simp only [List.length_cons, List.length_nil, List.length_drop, List.length_take, List.length_append] <;> omega))) [0, 3, 4, 18] [(0, .slice A ls.length c), (3, .slice A28 (ndg (V + V)) c29), (4, .int .i64 ((m - 1 : Nat) : Int)), (18, .pointer (Option.map (fun x => Addr.add x (m - 1)) A))] (by kernel_rfl) (by kernel_rfl) rfl ?_
    obtain ⟨d35, hd36⟩ : ∃ d : Nat, (ls)[m - 1]? = some d := ⟨_, List.getElem?_eq_getElem (by omega)⟩
    have hdx := hd36
    refine GL.sem (j := 4) (run_ldRd (P := Try.prog) (ty := 22) (A := A) (j := m - 1) (v := .int .u64 (d35 : Int)) (by kernel_rfl) (hr.hp H30) (dg_at hd36)) [0, 3, 4, 19] [(0, .slice A ls.length c), (3, .slice A28 (ndg (V + V)) c29), (4, .int .i64 ((m - 1 : Nat) : Int)), (19, .int .u64 (d35 : Int))] (by kernel_rfl) (by kernel_rfl) rfl ?_
    refine GL.run (j := 5) 1 [0, 3, 4, 20] [(0, .slice A ls.length c), (3, .slice A28 (ndg (V + V)) c29), (4, .int .i64 ((m - 1 : Nat) : Int)), (20, .bool ((d35 : Int) == 1))] (by kernel_rfl) rfl ?_
    refine GL.k rfl hK34 (fun _ _ h => h) ?_
    cases hb37 : ((d35 : Int) == 1)
    · skip
      have hb37f := ne_of_beq_false hb37
      refine G.no rfl ?_
      refine G.skipK hK25 (fun _ _ h => h) ?_
      refine G.region ?_
      refine GL.run (j := 3) 3 [0, 3, 4] [(0, .slice A ls.length c), (3, .slice A28 (ndg (V + V)) c29), (4, .int .i64 (IntKind.i64.wrap (((m - 1 : Nat) : Int) - 1)))] (by kernel_rfl) rfl ?_
      have e38 : (IntKind.i64.wrap (((m - 1 : Nat) : Int) - 1)) = (((m - 1 : Nat) : Int) - 1) := in_i64 (by omega)
      refine GL.eq (M' := [(0, .slice A ls.length c), (3, .slice A28 (ndg (V + V)) c29), (4, .int .i64 (((m - 1 : Nat) : Int) - 1))]) (by rw [e38]) ?_
      clear e38
      have H39 : Hp w [] [.row A28 (ndg (V + V)) c29 22 1 (dg (digs (V + V)))] w32 := H30.sub (List.Sublist.cons _ (List.Sublist.cons_cons _ (List.Sublist.slnil)))
      refine GL.fit (ts := [0, 3, 4]) (M' := [(0, .slice A ls.length c), (3, .slice A28 (ndg (V + V)) c29), (4, .int .i64 (((m - 1 : Nat) : Int) - 1))]) (by kernel_rfl) ?_
      refine GL.eq (M' := [(0, .slice A ls.length c), (3, .slice A28 (ndg (V + V)) c29), (4, .int .i64 ((((m - 1) : Nat) : Int) - 1))]) (by rfl) ?_
      exact GL.again ⟨(m - 1), (V + V), A28, c29⟩ [0, 3, 4] rfl (by kernel_rfl) (by show (m - 1) < m; omega) ⟨⟨by omega, by rw [bval_drop hm0 hdx, ← hV, if_neg (by omega)]; omega⟩, H39⟩
    · skip
      have hb37f := eq_of_beq hb37
      refine G.yes rfl ?_
      refine G.region ?_
      refine GL.run (j := 1) 1 [0, 4, 21] [(0, .slice A ls.length c), (4, .int .i64 ((m - 1 : Nat) : Int)), (21, .slice A28 (ndg (V + V)) c29)] (by kernel_rfl) rfl ?_
      obtain ⟨p40, w41, r42, H43⟩ := H30.madeRow (P := Try.prog) (Instr.buildSlice 30 1 #[(0, .int .u64 1)]) (fun b_ => .slice (some ⟨b_, 0, none⟩) 1 1) [.int .u64 1] 22 1 1 1 (by kernel_rfl) (by decide) (by decide) rfl
      have H43 : Hp w [] [.row Z (ndg V) z 22 1 (dg (digs V)), .row A28 (ndg (V + V)) c29 22 1 (dg (digs (V + V))), .row (some ⟨p40, 0, none⟩) 1 1 22 1 (dg [1])] w41 := H43
      refine GL.sem (j := 2) (r42) [0, 4, 21, 22] [(0, .slice A ls.length c), (4, .int .i64 ((m - 1 : Nat) : Int)), (21, .slice A28 (ndg (V + V)) c29), (22, .slice (some ⟨p40, 0, none⟩) 1 1)] (by kernel_rfl) (by kernel_rfl) rfl ?_
      refine GL.call (j := 3) (AddN_calls (V + V) 1 A28 c29 (some ⟨p40, 0, none⟩) 1 w41 (H43.rdRow 1 rfl) (H43.rdRow 2 rfl) (by omega) (by decide)) (by kernel_rfl) rfl (fun e_ w48 hR => ?_)
      obtain ⟨A44, c45, rfl, H47⟩ := hR
      have H46 : Hp w [] [.row Z (ndg V) z 22 1 (dg (digs V)), .row A28 (ndg (V + V)) c29 22 1 (dg (digs (V + V))), .row (some ⟨p40, 0, none⟩) 1 1 22 1 (dg [1]), .row A44 (ndg ((V + V) + 1)) c45 22 1 (dg (digs ((V + V) + 1)))] w48 := H43.callNew H47
      refine ⟨_, rfl, [0, 4, 23], [(0, .slice A ls.length c), (4, .int .i64 ((m - 1 : Nat) : Int)), (23, .slice A44 (ndg ((V + V) + 1)) c45)], by kernel_rfl, ?_⟩
      refine GL.run (j := 4) 1 [0, 3, 4] [(0, .slice A ls.length c), (3, .slice A44 (ndg ((V + V) + 1)) c45), (4, .int .i64 ((m - 1 : Nat) : Int))] (by kernel_rfl) rfl ?_
      refine GL.k rfl hK25 (fun _ _ h => h) ?_
      refine G.region ?_
      refine GL.run (j := 3) 3 [0, 3, 4] [(0, .slice A ls.length c), (3, .slice A44 (ndg ((V + V) + 1)) c45), (4, .int .i64 (IntKind.i64.wrap (((m - 1 : Nat) : Int) - 1)))] (by kernel_rfl) rfl ?_
      have e49 : (IntKind.i64.wrap (((m - 1 : Nat) : Int) - 1)) = (((m - 1 : Nat) : Int) - 1) := in_i64 (by omega)
      refine GL.eq (M' := [(0, .slice A ls.length c), (3, .slice A44 (ndg ((V + V) + 1)) c45), (4, .int .i64 (((m - 1 : Nat) : Int) - 1))]) (by rw [e49]) ?_
      clear e49
      have H50 : Hp w [] [.row A44 (ndg ((V + V) + 1)) c45 22 1 (dg (digs ((V + V) + 1)))] w48 := H46.sub (List.Sublist.cons _ (List.Sublist.cons _ (List.Sublist.cons _ (List.Sublist.cons_cons _ (List.Sublist.slnil)))))
      refine GL.fit (ts := [0, 3, 4]) (M' := [(0, .slice A ls.length c), (3, .slice A44 (ndg ((V + V) + 1)) c45), (4, .int .i64 (((m - 1 : Nat) : Int) - 1))]) (by kernel_rfl) ?_
      refine GL.eq (M' := [(0, .slice A ls.length c), (3, .slice A44 (ndg ((V + V) + 1)) c45), (4, .int .i64 ((((m - 1) : Nat) : Int) - 1))]) (by rfl) ?_
      exact GL.again ⟨(m - 1), ((V + V) + 1), A44, c45⟩ [0, 3, 4] rfl (by kernel_rfl) (by show (m - 1) < m; omega) ⟨⟨by omega, by rw [bval_drop hm0 hdx, ← hV, if_pos (by omega)]; omega⟩, H50⟩
end Go.Proofs.Ytpfdpikblijddaa
