/- Part 3 of what txApart_proved stands on. -/
import Derived.Test.YtcedmbdahbdmaaaZr2
set_option linter.unusedVariables false
set_option maxRecDepth 100000
namespace Go.Proofs.Ytcedmbdahbdmaaa
open Go.RowKit
theorem Right_calls (a : Nat) (w : World) : Calls Try.prog 31 #[.int .u64 (a : Int)] w fun e w' => e = .returned (.bool (decide (a ≤ 4611686018427387904))) ∧ Hp w [] [] w' := by
  refine calls_G (args := [.int .u64 (a : Int)]) Try.func31 rfl Try.ntmps31 rfl ?_
  intro Q0 hRet hNor hPan
  have H := Hp.start w
  have H : Hp w [] [] w := H
  refine G.seqK fun K1 hK2 => ?_
  refine G.region ?_
  refine GL.run (j := 1) 1 [0] [(0, .int .u64 (a : Int))] (by kernel_rfl) rfl ?_
  refine GL.k rfl hK2 (fun _ _ h => h) ?_
  refine G.seqK fun K3 hK4 => ?_
  refine G.region ?_
  refine GL.run (j := 3) 3 [2] [(2, .bool (decide ((a : Int) ≤ 4611686018427387904)))] (by kernel_rfl) rfl ?_
  refine GL.k rfl hK4 (fun _ _ h => h) ?_
  refine G.ret ?_
  intro F_ hF_ hM_
  refine hRet _ _ (bodyPost_1 rfl (RV.tmp rfl) ?_ F_ hF_ hM_)
  have e0 : ((decide ((a : Int) ≤ 4611686018427387904)) : Bool) = decide (a ≤ 4611686018427387904) := by
    rw [Bool.eq_iff_iff]; simp only [decide_eq_true_eq]; omega
  rw [e0]
  exact ⟨rfl, H.sub (List.nil_sublist _)⟩
theorem Bytes1_calls (x : TOut) (w : World) : Calls Try.prog 50 #[.agg #[.int .u64 (x.pv : Int), .slice x.B x.lb.length x.lc]] w fun e w' => e = .returned (.bool (decide (4611686018427387904 < x.pv))) ∧ Hp w [] [] w' := by
  refine calls_G (args := [.agg #[.int .u64 (x.pv : Int), .slice x.B x.lb.length x.lc]]) Try.func50 rfl Try.ntmps50 rfl ?_
  intro Q0 hRet hNor hPan
  have H := Hp.start w
  have H : Hp w [] [] w := H
  refine G.seqK fun K1 hK2 => ?_
  refine G.region ?_
  obtain ⟨p3, w4, r5, H6⟩ := H.box (P := Try.prog) 40 [.int .u64 (x.pv : Int), .slice x.B x.lb.length x.lc] (.agg #[.int .u64 (x.pv : Int), .slice x.B x.lb.length x.lc]) rfl
  have H6 : Hp w [] [.blk p3 [.int .u64 (x.pv : Int), .slice x.B x.lb.length x.lc] 40] w4 := H6
  refine GL.sem (j := 1) (r5) [1] [(1, pt p3 0)] (by kernel_rfl) (by kernel_rfl) rfl ?_
  refine GL.run (j := 2) 1 [1] [(1, pt p3 0)] (by kernel_rfl) rfl ?_
  refine GL.k rfl hK2 (fun _ _ h => h) ?_
  refine G.seqK fun K7 hK8 => ?_
  refine G.region ?_
  refine GL.run (j := 1) 1 [3] [(3, pt p3 0)] (by kernel_rfl) rfl ?_
  refine GL.sem (j := 2) (H6.ld (o := 0) (ty := 32) (v := .int .u64 (x.pv : Int)) 0 rfl (by kernel_rfl) rfl) [4] [(4, .int .u64 (x.pv : Int))] (by kernel_rfl) (by kernel_rfl) rfl ?_
  refine GL.call (j := 3) (Right_calls x.pv w4) (by kernel_rfl) rfl (fun e_ w9 hR => ?_)
  obtain ⟨rfl, H11⟩ := hR
  have H10 : Hp w [] [.blk p3 [.int .u64 (x.pv : Int), .slice x.B x.lb.length x.lc] 40] w9 := H6.callNil H11
  refine ⟨_, rfl, [5], [(5, .bool (decide (x.pv ≤ 4611686018427387904)))], by kernel_rfl, ?_⟩
  refine GL.run (j := 5) 2 [2] [(2, .bool (!(decide (x.pv ≤ 4611686018427387904))))] (by kernel_rfl) rfl ?_
  refine GL.k rfl hK8 (fun _ _ h => h) ?_
  refine G.ret ?_
  intro F_ hF_ hM_
  refine hRet _ _ (bodyPost_1 rfl (RV.tmp rfl) ?_ F_ hF_ hM_)
  have e0 : ((!(decide (x.pv ≤ 4611686018427387904))) : Bool) = (decide (4611686018427387904 < x.pv)) := by
    rw [Bool.eq_iff_iff]; simp only [Bool.not_eq_true', decide_eq_false_iff_not, decide_eq_true_eq]; omega
  rw [e0]
  exact ⟨rfl, H10.sub (List.nil_sublist _)⟩
theorem IndexO_calls (outs : List TOut) (B : Option Addr) (cb : Nat) (w : World) (hOuts : RdS w B (outsC outs)) (hO : ∀ x ∈ outs, x.Ok w []) (hno : outs.length ≤ maxLen) : Calls Try.prog 67 #[.slice B outs.length cb, .func (.func 50) #[] #[]] w fun e w' => ∃ r : Int, e = .returned (.int .i64 r) ∧ (0 ≤ r ↔ ∃ x ∈ outs, 4611686018427387904 < x.pv) ∧ Hp w [] [] w' := by
  have hno_ : outs.length ≤ 9223372036854775807 := hno
  refine calls_G (args := [.slice B outs.length cb, .func (.func 50) #[] #[]]) Try.func67 rfl Try.ntmps67 rfl ?_
  intro Q0 hRet hNor hPan
  have H := Hp.start w
  have H : Hp w [] [] w := H
  refine G.seqK fun K1 hK2 => ?_
  refine G.region ?_
  refine GL.run (j := 1) 1 [0, 1] [(0, .slice B outs.length cb), (1, .func (.func 50) #[] #[])] (by kernel_rfl) rfl ?_
  refine GL.k rfl hK2 (fun _ _ h => h) ?_
  refine G.seqK fun K3 hK4 => ?_
  refine G.seqK fun K5 hK6 => ?_
  refine G.region ?_
  refine GL.run (j := 3) 3 [0, 1, 7, 8] [(0, .slice B outs.length cb), (1, .func (.func 50) #[] #[]), (7, .int .i64 (outs.length : Int)), (8, .int .i64 0)] (by kernel_rfl) rfl ?_
  refine GL.k rfl hK6 (fun _ _ h => h) ?_
  refine G.block ?_
  refine G.fit [0, 1, 7, 8] (M' := [(0, .slice B outs.length cb), (1, .func (.func 50) #[] #[]), (7, .int .i64 (outs.length : Int)), (8, .int .i64 0)]) (by kernel_rfl) ?_
  refine G.loop (X := Nat) (fun i => [(0, .slice B outs.length cb), (1, .func (.func 50) #[] #[]), (7, .int .i64 (outs.length : Int)), (8, .int .i64 (i : Int))]) (fun i w_ => (i ≤ outs.length ∧ (∀ y ∈ outs.take i, y.pv ≤ 4611686018427387904)) ∧ Hp w [] [] w_) (fun i => outs.length - i) 0 [0, 1, 7, 8] (by kernel_rfl) ⟨⟨Nat.zero_le _, fun y hy => by simp at hy⟩, H⟩ ?_
  rintro i w7 ⟨hi8, H9⟩
  refine G.eq (M' := [(0, .slice B outs.length cb), (1, .func (.func 50) #[] #[]), (7, .int .i64 (outs.length : Int)), (8, .int .i64 (i : Int))]) rfl ?_
  have H9 : Hp w [] [] w7 := H9
  obtain ⟨hil, hia⟩ := hi8
  refine G.seqK fun K10 hK11 => ?_
  refine G.region ?_
  refine GL.run (j := 1) 1 [0, 1, 7, 8, 9] [(0, .slice B outs.length cb), (1, .func (.func 50) #[] #[]), (7, .int .i64 (outs.length : Int)), (8, .int .i64 (i : Int)), (9, .bool (decide ((i : Int) < (outs.length : Int))))] (by kernel_rfl) rfl ?_
  refine GL.k rfl hK11 (fun _ _ h => h) ?_
  refine G.seqK fun K12 hK13 => ?_
  cases hb14 : (decide ((i : Int) < (outs.length : Int)))
  · skip
    have hb14f := of_decide_eq_false hb14
    refine G.no rfl ?_
    refine G.exitK hK4 (fun _ _ h => h) ?_
    refine G.seqK fun K15 hK16 => ?_
    refine G.region ?_
    refine GL.run (j := 1) 1 [4] [(4, .int .i64 (-1))] (by kernel_rfl) rfl ?_
    refine GL.k rfl hK16 (fun _ _ h => h) ?_
    refine G.ret ?_
    intro F_ hF_ hM_
    refine hRet _ _ (bodyPost_1 rfl (RV.tmp rfl) ?_ F_ hF_ hM_)
    exact ⟨_, rfl, ⟨fun h => by omega, fun ⟨y, hy, h⟩ => by have := take_done hia (by omega) y hy; omega⟩, H9.sub (List.nil_sublist _)⟩
  · skip
    have hb14f := of_decide_eq_true hb14
    refine G.yes rfl ?_
    refine G.skipK hK13 (fun _ _ h => h) ?_
    refine G.seqK fun K17 hK18 => ?_
    refine G.block ?_
    refine G.seqK fun K19 hK20 => ?_
    refine G.region ?_
    refine GL.run (j := 2) 2 [0, 1, 5, 7, 8] [(0, .slice B outs.length cb), (1, .func (.func 50) #[] #[]), (5, .int .i64 (i : Int)), (7, .int .i64 (outs.length : Int)), (8, .int .i64 (i : Int))] (by kernel_rfl) rfl ?_
    refine GL.k rfl hK20 (fun _ _ h => h) ?_
    refine G.seqK fun K21 hK22 => ?_
    refine G.region ?_
    refine GL.run (j := 3) 3 [0, 1, 5, 7, 8, 11, 12, 13] [(0, .slice B outs.length cb), (1, .func (.func 50) #[] #[]), (5, .int .i64 (i : Int)), (7, .int .i64 (outs.length : Int)), (8, .int .i64 (i : Int)), (11, .func (.func 50) #[] #[]), (12, .slice B outs.length cb), (13, .int .i64 (i : Int))] (by kernel_rfl) rfl ?_
    obtain ⟨x23, hx24⟩ : ∃ x, outs[i]? = some x := ⟨_, List.getElem?_eq_getElem (by omega)⟩
    have hok25 := hO x23 (List.mem_of_getElem? hx24)
    refine GL.sem (j := 4) (run_idxRdN (P := Try.prog) (k := .i64) (t := 24) (sz := 2) (A := B) (len := outs.length) (cap := cb) (j := i) (by kernel_rfl) rfl (hOuts.hp H9) (outsC_length _) (by decide) (by omega)) [0, 1, 5, 7, 8, 11, 14] [(0, .slice B outs.length cb), (1, .func (.func 50) #[] #[]), (5, .int .i64 (i : Int)), (7, .int .i64 (outs.length : Int)), (8, .int .i64 (i : Int)), (11, .func (.func 50) #[] #[]), (14, .pointer (Option.map (fun x => Addr.add x (i * 2)) B))] (by kernel_rfl) (by kernel_rfl) rfl ?_
    refine GL.sem (j := 5) (run_ldRdA (P := Try.prog) (ty := 40) (A := B) (o := (i * 2)) (m := 2) (sub := [.int .u64 (x23.pv : Int), .slice x23.B x23.lb.length x23.lc]) (by kernel_rfl) (hOuts.hp H9) (outsC_cut hx24) (rfl) (by decide)) [0, 1, 5, 7, 8, 11, 15] [(0, .slice B outs.length cb), (1, .func (.func 50) #[] #[]), (5, .int .i64 (i : Int)), (7, .int .i64 (outs.length : Int)), (8, .int .i64 (i : Int)), (11, .func (.func 50) #[] #[]), (15, .agg #[.int .u64 (x23.pv : Int), .slice x23.B x23.lb.length x23.lc])] (by kernel_rfl) (by kernel_rfl) rfl ?_
    refine GL.call (j := 6) (Bytes1_calls x23 w7) (by kernel_rfl) rfl (fun e_ w26 hR => ?_)
    obtain ⟨rfl, H28⟩ := hR
    have H27 : Hp w [] [] w26 := H9.callNil H28
    refine ⟨_, rfl, [0, 1, 5, 7, 8, 16], [(0, .slice B outs.length cb), (1, .func (.func 50) #[] #[]), (5, .int .i64 (i : Int)), (7, .int .i64 (outs.length : Int)), (8, .int .i64 (i : Int)), (16, .bool (decide (4611686018427387904 < x23.pv)))], by kernel_rfl, ?_⟩
    refine GL.k rfl hK22 (fun _ _ h => h) ?_
    cases hb29 : (decide (4611686018427387904 < x23.pv))
    · skip
      have hb29f := of_decide_eq_false hb29
      refine G.no rfl ?_
      refine G.skipK hK18 (fun _ _ h => h) ?_
      refine G.region ?_
      refine GL.run (j := 2) 2 [0, 1, 7, 8] [(0, .slice B outs.length cb), (1, .func (.func 50) #[] #[]), (7, .int .i64 (outs.length : Int)), (8, .int .i64 (IntKind.i64.wrap ((i : Int) + 1)))] (by kernel_rfl) rfl ?_
      have e30 : (IntKind.i64.wrap ((i : Int) + 1)) = ((i + 1 : Nat) : Int) := by rw [in_i64 (by omega)]; omega
      refine GL.eq (M' := [(0, .slice B outs.length cb), (1, .func (.func 50) #[] #[]), (7, .int .i64 (outs.length : Int)), (8, .int .i64 ((i + 1 : Nat) : Int))]) (by rw [e30]) ?_
      clear e30
      refine GL.fit (ts := [0, 1, 7, 8]) (M' := [(0, .slice B outs.length cb), (1, .func (.func 50) #[] #[]), (7, .int .i64 (outs.length : Int)), (8, .int .i64 ((i + 1 : Nat) : Int))]) (by kernel_rfl) ?_
      refine GL.eq (M' := [(0, .slice B outs.length cb), (1, .func (.func 50) #[] #[]), (7, .int .i64 (outs.length : Int)), (8, .int .i64 (((i + 1) : Nat) : Int))]) (by rfl) ?_
      exact GL.again (i + 1) [0, 1, 7, 8] rfl (by kernel_rfl) (by show outs.length - (i + 1) < outs.length - i; omega) ⟨⟨by omega, take_all hia hx24 (by omega)⟩, H27⟩
    · skip
      have hb29f := of_decide_eq_true hb29
      refine G.yes rfl ?_
      refine G.seqK fun K31 hK32 => ?_
      refine G.region ?_
      refine GL.run (j := 2) 2 [4] [(4, .int .i64 (i : Int))] (by kernel_rfl) rfl ?_
      refine GL.k rfl hK32 (fun _ _ h => h) ?_
      refine G.ret ?_
      intro F_ hF_ hM_
      refine hRet _ _ (bodyPost_1 rfl (RV.tmp rfl) ?_ F_ hF_ hM_)
      exact ⟨_, rfl, ⟨fun _ => ⟨x23, List.mem_of_getElem? hx24, by omega⟩, fun _ => by omega⟩, H27.sub (List.nil_sublist _)⟩
theorem ContainsO_calls (outs : List TOut) (B : Option Addr) (cb : Nat) (w : World) (hOuts : RdS w B (outsC outs)) (hO : ∀ x ∈ outs, x.Ok w []) (hno : outs.length ≤ maxLen) : Calls Try.prog 49 #[.slice B outs.length cb, .func (.func 50) #[] #[]] w fun e w' => e = .returned (.bool (decide (∃ x ∈ outs, 4611686018427387904 < x.pv))) ∧ Hp w [] [] w' := by
  refine calls_G (args := [.slice B outs.length cb, .func (.func 50) #[] #[]]) Try.func49 rfl Try.ntmps49 rfl ?_
  intro Q0 hRet hNor hPan
  have H := Hp.start w
  have H : Hp w [] [] w := H
  refine G.seqK fun K1 hK2 => ?_
  refine G.region ?_
  refine GL.run (j := 1) 1 [0, 1] [(0, .slice B outs.length cb), (1, .func (.func 50) #[] #[])] (by kernel_rfl) rfl ?_
  refine GL.k rfl hK2 (fun _ _ h => h) ?_
  refine G.seqK fun K3 hK4 => ?_
  refine G.region ?_
  refine GL.run (j := 2) 2 [5, 6] [(5, .slice B outs.length cb), (6, .func (.func 50) #[] #[])] (by kernel_rfl) rfl ?_
  refine GL.call (j := 3) (IndexO_calls outs B cb w (hOuts.hp H) (oksO_mid hO H) hno) (by kernel_rfl) rfl (fun e_ w9 hR => ?_)
  obtain ⟨r5, rfl, hr6, H8⟩ := hR
  have H7 : Hp w [] [] w9 := H.callNil H8
  refine ⟨_, rfl, [7], [(7, .int .i64 r5)], by kernel_rfl, ?_⟩
  refine GL.run (j := 5) 2 [4] [(4, .bool (decide (0 ≤ r5)))] (by kernel_rfl) rfl ?_
  refine GL.k rfl hK4 (fun _ _ h => h) ?_
  refine G.ret ?_
  intro F_ hF_ hM_
  refine hRet _ _ (bodyPost_1 rfl (RV.tmp rfl) ?_ F_ hF_ hM_)
  have e0 : ((decide (0 ≤ r5)) : Bool) = (decide (∃ x ∈ outs, 4611686018427387904 < x.pv)) := by
    rw [Bool.eq_iff_iff]; simp only [decide_eq_true_eq]; exact hr6
  rw [e0]
  exact ⟨rfl, H7.sub (List.nil_sublist _)⟩
def txE (v : Nat) (ins : List TIn) (outs : List TOut) (lt : Nat) : Nat := if txK ins outs ≠ 0 then txK ins outs else if 4096 < (txB v ins outs lt).length ∨ (txB v ins outs lt).length = 64 then 3 else if ∃ x ∈ outs, 4611686018427387904 < x.pv then 4 else 0
def txO (v : Nat) (ins : List TIn) (outs : List TOut) (lt : Nat) : List UInt8 := if txE v ins outs lt = 0 then txB v ins outs lt else []
theorem TBytes_calls (v : Nat) (ins : List TIn) (A : Option Addr) (ca : Nat) (outs : List TOut) (B : Option Addr) (cb : Nat) (lt : Nat) (w : World) (hv : v < 4294967296) (hlt : lt < 4294967296) (hIns : RdS w A (insC ins)) (hI : ∀ x ∈ ins, x.Ok w []) (hOuts : RdS w B (outsC outs)) (hO : ∀ x ∈ outs, x.Ok w []) (hni : ins.length ≤ maxLen) (hno : outs.length ≤ maxLen) : Calls Try.prog 21 #[.agg #[.int .u32 (v : Int), .slice A ins.length ca, .slice B outs.length cb, .int .u32 (lt : Int)]] w fun e w' => ∃ A' n' c', e = .returned (.tuple #[.slice A' n' c', .int .i64 ((txE v ins outs lt : Nat) : Int)]) ∧ Hp w [] [.row A' n' c' 5 1 (by8 (txO v ins outs lt))] w' := by
  have hni_ : ins.length ≤ 9223372036854775807 := hni
  have hno_ : outs.length ≤ 9223372036854775807 := hno
  refine calls_G (args := [.agg #[.int .u32 (v : Int), .slice A ins.length ca, .slice B outs.length cb, .int .u32 (lt : Int)]]) Try.func21 rfl Try.ntmps21 rfl ?_
  intro Q0 hRet hNor hPan
  have H := Hp.start w
  have H : Hp w [] [] w := H
  refine G.seqK fun K1 hK2 => ?_
  refine G.region ?_
  obtain ⟨p3, w4, r5, H6⟩ := H.box (P := Try.prog) 26 [.int .u32 (v : Int), .slice A ins.length ca, .slice B outs.length cb, .int .u32 (lt : Int)] (.agg #[.int .u32 (v : Int), .slice A ins.length ca, .slice B outs.length cb, .int .u32 (lt : Int)]) rfl
  have H6 : Hp w [] [.blk p3 [.int .u32 (v : Int), .slice A ins.length ca, .slice B outs.length cb, .int .u32 (lt : Int)] 26] w4 := H6
  refine GL.sem (j := 1) (r5) [1] [(1, pt p3 0)] (by kernel_rfl) (by kernel_rfl) rfl ?_
  refine GL.run (j := 3) 2 [1] [(1, pt p3 0)] (by kernel_rfl) rfl ?_
  refine GL.k rfl hK2 (fun _ _ h => h) ?_
  refine G.seqK fun K7 hK8 => ?_
  refine G.seqK fun K9 hK10 => ?_
  refine G.region ?_
  refine GL.sem (j := 1) (H6.ldA (o := 0) (ty := 26) (m := 4) (sub := [.int .u32 (v : Int), .slice A ins.length ca, .slice B outs.length cb, .int .u32 (lt : Int)]) 0 rfl (by kernel_rfl) rfl rfl) [1, 6] [(1, pt p3 0), (6, .agg #[.int .u32 (v : Int), .slice A ins.length ca, .slice B outs.length cb, .int .u32 (lt : Int)])] (by kernel_rfl) (by kernel_rfl) rfl ?_
  refine GL.call (j := 2) (check_calls v ins A ca outs B cb lt w4 hv hlt (hIns.hp H6) (oks_mid hI H6) (hOuts.hp H6) (oksO_mid hO H6) hni hno) (by kernel_rfl) rfl (fun e_ w11 hR => ?_)
  obtain ⟨rfl, H13⟩ := hR
  have H12 : Hp w [] [.blk p3 [.int .u32 (v : Int), .slice A ins.length ca, .slice B outs.length cb, .int .u32 (lt : Int)] 26] w11 := H6.callNil H13
  refine ⟨_, rfl, [1, 7], [(1, pt p3 0), (7, .int .i64 (((txK ins outs) : Nat) : Int))], by kernel_rfl, ?_⟩
  refine GL.run (j := 3) 1 [1, 4] [(1, pt p3 0), (4, .int .i64 (((txK ins outs) : Nat) : Int))] (by kernel_rfl) rfl ?_
  refine GL.k rfl hK10 (fun _ _ h => h) ?_
  refine G.seqK fun K14 hK15 => ?_
  refine G.region ?_
  refine GL.run (j := 2) 2 [1, 4, 9] [(1, pt p3 0), (4, .int .i64 (((txK ins outs) : Nat) : Int)), (9, .bool ((((txK ins outs) : Nat) : Int) != 0))] (by kernel_rfl) rfl ?_
  refine GL.k rfl hK15 (fun _ _ h => h) ?_
  cases hb16 : ((((txK ins outs) : Nat) : Int) != 0)
  · skip
    have hb16f : (((txK ins outs) : Nat) : Int) = 0 := bne_eq_false_iff_eq.1 hb16
    have hK0 : txK ins outs = 0 := by omega
    refine G.no rfl ?_
    refine G.skipK hK8 (fun _ _ h => h) ?_
    refine G.seqK fun K17 hK18 => ?_
    refine G.region ?_
    refine GL.sem (j := 1) (H12.ldA (o := 0) (ty := 26) (m := 4) (sub := [.int .u32 (v : Int), .slice A ins.length ca, .slice B outs.length cb, .int .u32 (lt : Int)]) 0 rfl (by kernel_rfl) rfl rfl) [1, 11] [(1, pt p3 0), (11, .agg #[.int .u32 (v : Int), .slice A ins.length ca, .slice B outs.length cb, .int .u32 (lt : Int)])] (by kernel_rfl) (by kernel_rfl) rfl ?_
    refine GL.call (j := 2) (write_calls v ins A ca outs B cb lt w11 hv hlt (hIns.hp H12) (oks_mid hI H12) (hOuts.hp H12) (oksO_mid hO H12) hni hno hK0) (by kernel_rfl) rfl (fun e_ w22 hR => ?_)
    obtain ⟨A19, c20, c21, rfl, H24⟩ := hR
    have H23 : Hp w [] [.blk p3 [.int .u32 (v : Int), .slice A ins.length ca, .slice B outs.length cb, .int .u32 (lt : Int)] 26, .row A19 c20 c21 5 1 (by8 (txB v ins outs lt))] w22 := H12.callNew H24
    have hlA19 := (H23.rowLe 1 rfl).2.1
    rw [by8_length, Nat.mul_one] at hlA19
    refine ⟨_, rfl, [1, 12], [(1, pt p3 0), (12, .slice A19 c20 c21)], by kernel_rfl, ?_⟩
    refine GL.run (j := 3) 1 [1, 5] [(1, pt p3 0), (5, .slice A19 c20 c21)] (by kernel_rfl) rfl ?_
    refine GL.k rfl hK18 (fun _ _ h => h) ?_
    refine G.seqK fun K25 hK26 => ?_
    refine G.seqK fun K27 hK28 => ?_
    refine G.region ?_
    refine GL.run (j := 4) 4 [1, 5, 16] [(1, pt p3 0), (5, .slice A19 c20 c21), (16, .bool (decide (4096 < (c20 : Int))))] (by kernel_rfl) rfl ?_
    cases hb29 : (decide (4096 < (c20 : Int)))
    · skip
      have hb29f := of_decide_eq_false hb29
      refine GL.run (j := 8) 4 [1, 5, 20] [(1, pt p3 0), (5, .slice A19 c20 c21), (20, .bool ((c20 : Int) == 64))] (by kernel_rfl) rfl ?_
      refine GL.k rfl hK28 (fun _ _ h => h) ?_
      cases hb30 : ((c20 : Int) == 64)
      · skip
        have hb30f := ne_of_beq_false hb30
        refine G.no rfl ?_
        refine G.skipK hK26 (fun _ _ h => h) ?_
        refine G.seqK fun K31 hK32 => ?_
        refine G.seqK fun K33 hK34 => ?_
        refine G.region ?_
        refine GL.run (j := 1) 1 [5, 21] [(5, .slice A19 c20 c21), (21, pt p3 2)] (by kernel_rfl) rfl ?_
        refine GL.sem (j := 2) (H23.ld (o := 2) (ty := 24) (v := .slice B outs.length cb) 0 rfl (by kernel_rfl) rfl) [5, 22] [(5, .slice A19 c20 c21), (22, .slice B outs.length cb)] (by kernel_rfl) (by kernel_rfl) rfl ?_
        refine GL.call (j := 3) (ContainsO_calls outs B cb w22 (hOuts.hp H23) (oksO_mid hO H23) hno) (by kernel_rfl) rfl (fun e_ w35 hR => ?_)
        obtain ⟨rfl, H37⟩ := hR
        have H36 : Hp w [] [.blk p3 [.int .u32 (v : Int), .slice A ins.length ca, .slice B outs.length cb, .int .u32 (lt : Int)] 26, .row A19 c20 c21 5 1 (by8 (txB v ins outs lt))] w35 := H23.callNil H37
        refine ⟨_, rfl, [5, 23], [(5, .slice A19 c20 c21), (23, .bool (decide (∃ x ∈ outs, 4611686018427387904 < x.pv)))], by kernel_rfl, ?_⟩
        refine GL.k rfl hK34 (fun _ _ h => h) ?_
        cases hb38 : (decide (∃ x ∈ outs, 4611686018427387904 < x.pv))
        · skip
          have hb38f := of_decide_eq_false hb38
          have hex : ¬ (∃ x ∈ outs, 4611686018427387904 < x.pv) := of_decide_eq_false hb38
          refine G.no rfl ?_
          refine G.skipK hK32 (fun _ _ h => h) ?_
          refine G.seqK fun K39 hK40 => ?_
          refine G.region ?_
          refine GL.run (j := 3) 3 [2, 3] [(2, .slice A19 c20 c21), (3, .int .i64 0)] (by kernel_rfl) rfl ?_
          refine GL.k rfl hK40 (fun _ _ h => h) ?_
          refine G.ret ?_
          intro F_ hF_ hM_
          refine hRet _ _ (bodyPost_2 rfl (RV.tmp rfl) (RV.tmp rfl) ?_ F_ hF_ hM_)
          have e0 : txE v ins outs lt = 0 := by rw [txE, if_neg (by omega), if_neg (by omega), if_neg hex]
          have H41 : Hp w [] [.row A19 c20 c21 5 1 (by8 (txB v ins outs lt))] w35 := H36.sub (List.Sublist.cons _ (List.Sublist.cons_cons _ (List.Sublist.slnil)))
          rw [txO, e0, if_pos rfl]
          exact ⟨_, _, _, rfl, H41⟩
        · skip
          have hb38f := of_decide_eq_true hb38
          have hex : ∃ x ∈ outs, 4611686018427387904 < x.pv := of_decide_eq_true hb38
          refine G.yes rfl ?_
          refine G.seqK fun K42 hK43 => ?_
          refine G.region ?_
          refine GL.run (j := 2) 2 [2, 3] [(2, .slice none 0 0), (3, .int .i64 4)] (by kernel_rfl) rfl ?_
          refine GL.k rfl hK43 (fun _ _ h => h) ?_
          refine G.ret ?_
          intro F_ hF_ hM_
          refine hRet _ _ (bodyPost_2 rfl (RV.tmp rfl) (RV.tmp rfl) ?_ F_ hF_ hM_)
          have e0 : txE v ins outs lt = 4 := by rw [txE, if_neg (by omega), if_neg (by omega), if_pos hex]
          rw [txO, e0, if_neg (by omega)]
          exact ⟨none, 0, 0, rfl, (H36.sub (List.nil_sublist _)).rowNil 5 1⟩
      · skip
        have hb30f := eq_of_beq hb30
        refine G.yes rfl ?_
        refine G.seqK fun K44 hK45 => ?_
        refine G.region ?_
        refine GL.run (j := 2) 2 [2, 3] [(2, .slice none 0 0), (3, .int .i64 3)] (by kernel_rfl) rfl ?_
        refine GL.k rfl hK45 (fun _ _ h => h) ?_
        refine G.ret ?_
        intro F_ hF_ hM_
        refine hRet _ _ (bodyPost_2 rfl (RV.tmp rfl) (RV.tmp rfl) ?_ F_ hF_ hM_)
        have e0 : txE v ins outs lt = 3 := by rw [txE, if_neg (by omega), if_pos (by omega)]
        rw [txO, e0, if_neg (by omega)]
        exact ⟨none, 0, 0, rfl, (H23.sub (List.nil_sublist _)).rowNil 5 1⟩
    · skip
      have hb29f := of_decide_eq_true hb29
      refine GL.run (j := 8) 4 [1, 5, 20] [(1, pt p3 0), (5, .slice A19 c20 c21), (20, .bool true)] (by kernel_rfl) rfl ?_
      refine GL.k rfl hK28 (fun _ _ h => h) ?_
      refine G.yes rfl ?_
      refine G.seqK fun K46 hK47 => ?_
      refine G.region ?_
      refine GL.run (j := 2) 2 [2, 3] [(2, .slice none 0 0), (3, .int .i64 3)] (by kernel_rfl) rfl ?_
      refine GL.k rfl hK47 (fun _ _ h => h) ?_
      refine G.ret ?_
      intro F_ hF_ hM_
      refine hRet _ _ (bodyPost_2 rfl (RV.tmp rfl) (RV.tmp rfl) ?_ F_ hF_ hM_)
      have e0 : txE v ins outs lt = 3 := by rw [txE, if_neg (by omega), if_pos (by omega)]
      rw [txO, e0, if_neg (by omega)]
      exact ⟨none, 0, 0, rfl, (H23.sub (List.nil_sublist _)).rowNil 5 1⟩
  · skip
    have hb16f : (((txK ins outs) : Nat) : Int) ≠ 0 := bne_iff_ne.1 hb16
    refine G.yes rfl ?_
    refine G.seqK fun K48 hK49 => ?_
    refine G.region ?_
    refine GL.run (j := 3) 3 [2, 3] [(2, .slice none 0 0), (3, .int .i64 (((txK ins outs) : Nat) : Int))] (by kernel_rfl) rfl ?_
    refine GL.k rfl hK49 (fun _ _ h => h) ?_
    refine G.ret ?_
    intro F_ hF_ hM_
    refine hRet _ _ (bodyPost_2 rfl (RV.tmp rfl) (RV.tmp rfl) ?_ F_ hF_ hM_)
    have e0 : txE v ins outs lt = txK ins outs := if_pos (by omega)
    rw [txO, e0, if_neg (by omega)]
    exact ⟨none, 0, 0, rfl, (H12.sub (List.nil_sublist _)).rowNil 5 1⟩
end Go.Proofs.Ytcedmbdahbdmaaa
namespace Go.Proofs.Ytcedmbdahbdmaaa
open Go.RowKit
section
variable {P : Program} {w0 w : World} {S : List Nat} {L : List Ent}
theorem Hp.copyBlk (H : Hp w0 S L w) (i : Nat) {A : Option Addr} {b o n c m d t t2 ty e0 : Nat} {cs : List Value} {ys : List UInt8} (hL : L[i]? = some (.blk b cs e0)) (ht : slcOf P t = some 1) (hx : RdS w A (by8 ys)) (hm : ys.length = m) (hmn : m ≤ n) (hfit : o + m ≤ cs.length) :
    ∃ w', (Builtin.copy_ #[t, t2] ty #[.slice (some ⟨b, o, none⟩) n c, .slice A m d]).run P w = .ok (goInt m) w' ∧ Hp w0 S (L.set i (.blk b (cs.take o ++ by8 ys ++ cs.drop (o + m)) e0)) w' := by
  obtain ⟨e, hu, hs⟩ := slcOf_spec ht
  obtain ⟨w', hr, H'⟩ := Hp.stCells (P := P) i (b := b) (t := e0) o (by8 ys) 0 L w cs H hL (by rw [by8_length]; omega) (by8_one ys)
  rw [by8_length, hm, Nat.add_zero] at H'
  have hmin : Nat.min m n = m := Nat.min_eq_left hmn
  refine ⟨w', ?_, H'⟩
  rcases hx with h0 | ⟨a, hA, _, hc⟩
  · have hy : ys = [] := List.eq_nil_of_length_eq_zero (by rw [← by8_length, h0]; rfl)
    subst hy
    have hm0 : m = 0 := hm.symm
    subst hm0
    cases A with
    | none =>
      have hr0 : (storeCells ⟨b, o, none⟩ [] 0).run P w = .ok () w' := hr
      simp [Builtin.copy_, run_underlying hu, Builtin.lenOf, Builtin.firstCells, hs, hr0]
    | some a =>
      have hl := run_loadCells_list (P := P) w a [] (fun j v h => by simp at h)
      have hr0 : (storeCells ⟨b, o, none⟩ [] 0).run P w = .ok () w' := hr
      simp at hl
      simp [Builtin.copy_, run_underlying hu, Builtin.lenOf, Builtin.firstCells, hs, hl, hr0]
  · subst hA
    have hl := run_loadCells_list (P := P) w a (by8 ys) hc
    rw [by8_length, hm] at hl
    simp [Builtin.copy_, run_underlying hu, Builtin.lenOf, Builtin.firstCells, hs, hmin, hl, hr]
theorem copied_whole {cs : List Value} {ys : List UInt8} (h : cs.length = ys.length) : cs.take 0 ++ by8 ys ++ cs.drop (0 + ys.length) = by8 ys := by
  rw [List.take_zero, List.nil_append, List.drop_eq_nil_of_le (by omega), List.append_nil]
theorem copied_none {cs : List Value} (o : Nat) : cs.take o ++ by8 [] ++ cs.drop (o + 0) = cs := by
  show cs.take o ++ [] ++ _ = _
  rw [List.append_nil, Nat.add_zero, List.take_append_drop]
end
end Go.Proofs.Ytcedmbdahbdmaaa
namespace Go.Proofs.Ytcedmbdahbdmaaa
open Go.RowKit
section
variable {wr z : Bool} {rest q v : List UInt8} {n : Nat}
theorem rV_or (wr : Bool) (rest : List UInt8) (n : Nat) : (rV wr rest n).length = n ∨ (rV wr rest n).length = 0 := by
  rcases rOK_cases wr rest n with ⟨h1, h2, h3⟩ | ⟨_, h2, _⟩
  · left
    unfold rV
    rw [if_pos h1, List.length_take]
    omega
  · right
    rw [h2]
    rfl
theorem rd_back (hz : z = (!(rOK wr rest n))) (hq : q = rR wr rest n) (hv : v = rV wr rest n) (h : z = false) : wr = false ∧ n ≤ rest.length ∧ q = rest.drop n ∧ v = rest.take n := by
  rcases rOK_cases wr rest n with ⟨h1, h2, h3⟩ | ⟨h1, _, _⟩
  · subst h2
    obtain ⟨_, o2, o3⟩ := rOK_true (rest := rest) (n := n) h3
    exact ⟨rfl, h3, hq.trans o3, hv.trans o2⟩
  · rw [hz, h1] at h
    cases h
theorem rd_on (hz : z = (!(rOK wr rest n))) (hq : q = rR wr rest n) (hv : v = rV wr rest n) (h : wr = false) (hn : n ≤ rest.length) : z = false ∧ q = rest.drop n ∧ v = rest.take n := by
  subst h
  obtain ⟨o1, o2, o3⟩ := rOK_true (rest := rest) (n := n) hn
  exact ⟨by rw [hz, o1]; rfl, hq.trans o3, hv.trans o2⟩
end
def endB (z : Bool) (q : List UInt8) : Bool := !z && (q.length == 0)
theorem endB_true {z : Bool} {q : List UInt8} (h : endB z q = true) : z = false ∧ q.length = 0 := by
  unfold endB at h
  rw [Bool.and_eq_true, Bool.not_eq_true', beq_iff_eq] at h
  exact h
theorem endB_false {z : Bool} {q : List UInt8} (h : endB z q = false) (hz : z = false) (hq : q.length = 0) : False := by
  subst hz
  unfold endB at h
  rw [hq] at h
  cases h
def hsh (ys : List UInt8) : List UInt8 := if ys.length = 32 then ys else List.replicate 32 0
theorem hsh_length (ys : List UInt8) : (hsh ys).length = 32 := by
  unfold hsh
  split
  · assumption
  · rfl
theorem hsh_of {ys : List UInt8} (h : ys.length = 32) : hsh ys = ys := if_pos h
theorem hsh_copied {ys : List UInt8} (h : ys.length = 32 ∨ ys.length = 0) : (by8 (List.replicate 32 0)).take 0 ++ by8 ys ++ (by8 (List.replicate 32 0)).drop (0 + ys.length) = by8 (hsh ys) := by
  rcases h with h | h
  · rw [copied_whole (by rw [by8_length, h]; rfl), hsh_of h]
  · obtain rfl := List.eq_nil_of_length_eq_zero h
    rw [List.length_nil, copied_none]
    rfl
end Go.Proofs.Ytcedmbdahbdmaaa
namespace Go.Proofs.Ytcedmbdahbdmaaa
open Go.RowKit
def Stp (on : Prop) (n : Nat) (z : Bool) (q : List UInt8) (z' : Bool) (q' v : List UInt8) : Prop := (on → z' = (!(rOK z q n)) ∧ q' = rR z q n ∧ v = rV z q n) ∧ (¬ on → z' = z ∧ q' = q ∧ v = [])
def StpC (on : Prop) (m : Nat) (z : Bool) (q : List UInt8) (z' : Bool) (q' v : List UInt8) : Prop := (on → z' = (!(cdOK z q m)) ∧ q' = cdR z q m ∧ v = cdV z q m) ∧ (¬ on → z' = z ∧ q' = q ∧ v = [])
section
variable {on : Prop} {n m : Nat} {z z' : Bool} {q q' v : List UInt8}
theorem Stp.back (h : Stp on n z q z' q' v) (hz : z' = false) : z = false ∧ q = v ++ q' ∧ (on → v.length = n) ∧ (¬ on → v = []) := by
  by_cases ho : on
  · obtain ⟨h1, h2, h3⟩ := h.1 ho
    obtain ⟨f, hn, hd, ht⟩ := rd_back h1 h2 h3 hz
    exact ⟨f, by rw [ht, hd, List.take_append_drop], fun _ => by rw [ht, List.length_take]; omega, fun h => absurd ho h⟩
  · obtain ⟨h1, h2, h3⟩ := h.2 ho
    exact ⟨by rw [← h1]; exact hz, by rw [h2, h3]; rfl, fun h => absurd h ho, fun _ => h3⟩
theorem Stp.on_ (h : Stp on n z q z' q' v) (hz : z = false) {X T : List UInt8} (hq : q = X ++ T) (hX : on → X.length = n) (hX0 : ¬ on → X = []) : z' = false ∧ q' = T ∧ v = X := by
  by_cases ho : on
  · obtain ⟨h1, h2, h3⟩ := h.1 ho
    obtain ⟨f, hd, ht⟩ := rd_on h1 h2 h3 hz (by rw [hq, List.length_append, hX ho]; omega)
    exact ⟨f, by rw [hd, hq, List.drop_left' (hX ho)], by rw [ht, hq, List.take_left' (hX ho)]⟩
  · obtain ⟨h1, h2, h3⟩ := h.2 ho
    refine ⟨by rw [h1]; exact hz, ?_, ?_⟩
    · rw [h2, hq, hX0 ho]
      rfl
    · rw [h3, hX0 ho]
theorem ct_sound (h : ctOK z q m = true) : z = false ∧ q = cnt (ctV z q m) ++ ctR z q m ∧ ctV z q m ≤ m := by
  have h' := h
  simp only [ctOK, Bool.and_eq_true, Bool.not_eq_true', decide_eq_true_eq] at h'
  obtain ⟨hw, hsz, hm⟩ := h'
  have e1 : ctV z q m = ctX z q := by unfold ctV; rw [if_pos h]
  have e2 : ctR z q m = ctT z q := by unfold ctR; rw [if_pos h]
  have p : ∀ (l : List UInt8) (k : Nat), k ≤ l.length → putB (getB (l.take k)) k = l.take k := fun l k hk => by
    have := putB_get (l.take k)
    rwa [show (l.take k).length = k by rw [List.length_take]; omega] at this
  rw [e1, e2]
  by_cases h0 : ctN z q = 0
  · obtain ⟨x1, x2, x3⟩ := ct_short h0
    rcases rOK_cases z q 1 with ⟨g1, g2, g3⟩ | ⟨g1, _, _⟩
    · subst g2
      obtain ⟨_, o2, o3⟩ := rOK_true (rest := q) (n := 1) g3
      refine ⟨rfl, ?_, hm⟩
      rw [h0] at hsz
      rcases cnt_cases (ctX false q) with ⟨_, _, e⟩ | ⟨_, _, hs, _⟩ | ⟨_, _, hs, _⟩ | ⟨_, hs, _⟩
      · rw [e, x1, x3, o2, o3, p q 1 g3, List.take_append_drop]
      all_goals omega
    · rw [x2, g1] at hw
      cases hw
  · obtain ⟨x1, x2, x3⟩ := ct_long (n := ctN z q) rfl h0
    rw [x2] at hw
    rcases rOK_cases (!(rOK z q 1)) (rR z q 1) (ctN z q) with ⟨g1, g2, g3⟩ | ⟨g1, _, _⟩
    · rcases rOK_cases z q 1 with ⟨k1, k2, k3⟩ | ⟨k1, _, _⟩
      · subst k2
        obtain ⟨_, o2, o3⟩ := rOK_true (rest := q) (n := 1) k3
        rw [o3] at g3
        obtain ⟨_, r2, r3⟩ := rOK_true (rest := q.drop 1) (n := ctN false q) g3
        rw [k1, o3] at x1 x3
        change ctX false q = getB (rV false (q.drop 1) (ctN false q)) at x1
        change ctT false q = rR false (q.drop 1) (ctN false q) at x3
        rw [r2] at x1
        rw [r3] at x3
        have hN : (getB (rV false q 1) = 253 ∧ ctN false q = 2) ∨ (getB (rV false q 1) = 254 ∧ ctN false q = 4) ∨ (getB (rV false q 1) = 255 ∧ ctN false q = 8) := by
          unfold ctN at h0 ⊢
          by_cases a1 : getB (rV false q 1) = 253
          · exact .inl ⟨a1, by rw [if_pos a1]⟩
          · by_cases a2 : getB (rV false q 1) = 254
            · exact .inr (.inl ⟨a2, by rw [if_neg a1, if_pos a2]⟩)
            · by_cases a3 : getB (rV false q 1) = 255
              · exact .inr (.inr ⟨a3, by rw [if_neg a1, if_neg a2, if_pos a3]⟩)
              · rw [if_neg a1, if_neg a2, if_neg a3] at h0
                exact absurd rfl h0
        have hd : ∀ s, getB (rV false q 1) = s → q = putB s 1 ++ q.drop 1 := fun s hs => by
          rw [← hs, o2, p q 1 k3, List.take_append_drop]
        have hd2 : q.drop 1 = putB (ctX false q) (ctN false q) ++ ctT false q := by
          rw [x1, x3, p (q.drop 1) (ctN false q) g3, List.take_append_drop]
        refine ⟨rfl, ?_, hm⟩
        rcases hN with ⟨a, b⟩ | ⟨a, b⟩ | ⟨a, b⟩
        · rw [b] at hsz hd2
          rcases cnt_cases (ctX false q) with ⟨_, hs, _⟩ | ⟨_, _, _, e⟩ | ⟨_, _, hs, _⟩ | ⟨_, hs, _⟩
          · omega
          · rw [e, List.append_assoc, ← hd2]
            exact hd _ a
          all_goals omega
        · rw [b] at hsz hd2
          rcases cnt_cases (ctX false q) with ⟨_, hs, _⟩ | ⟨_, _, hs, _⟩ | ⟨_, _, _, e⟩ | ⟨_, hs, _⟩
          · omega
          · omega
          · rw [e, List.append_assoc, ← hd2]
            exact hd _ a
          · omega
        · rw [b] at hsz hd2
          rcases cnt_cases (ctX false q) with ⟨_, hs, _⟩ | ⟨_, _, hs, _⟩ | ⟨_, _, hs, _⟩ | ⟨_, _, e⟩
          · omega
          · omega
          · omega
          · rw [e, List.append_assoc, ← hd2]
            exact hd _ a
      · rw [k1] at g2
        cases g2
    · rw [g1] at hw
      cases hw
theorem cd_sound (h : cdOK z q m = true) : z = false ∧ q = cnt (cdV z q m).length ++ cdV z q m ++ cdR z q m ∧ (cdV z q m).length ≤ m := by
  unfold cdOK at h
  rcases rOK_cases (!(ctOK z q m)) (ctR z q m) (ctV z q m) with ⟨g1, g2, g3⟩ | ⟨g1, _, _⟩
  · have hc : ctOK z q m = true := by
      cases hh : ctOK z q m
      · rw [hh] at g2
        cases g2
      · rfl
    obtain ⟨a, b, c⟩ := ct_sound hc
    obtain ⟨_, o2, o3⟩ := rOK_true (rest := ctR z q m) (n := ctV z q m) g3
    have eV : cdV z q m = (ctR z q m).take (ctV z q m) := by unfold cdV; rw [hc]; exact o2
    have eR : cdR z q m = (ctR z q m).drop (ctV z q m) := by unfold cdR; rw [hc]; exact o3
    have hl : (cdV z q m).length = ctV z q m := by rw [eV, List.length_take]; omega
    refine ⟨a, ?_, by rw [hl]; exact c⟩
    rw [hl, List.append_assoc, eV, eR, List.take_append_drop]
    exact b
  · rw [g1] at h
    cases h
theorem ct_on (hm : n ≤ m) (hn : n < 18446744073709551616) (T : List UInt8) : ctOK false (cnt n ++ T) m = true ∧ ctV false (cnt n ++ T) m = n ∧ ctR false (cnt n ++ T) m = T := by
  obtain ⟨a, b, c⟩ := ct_cn (cnt n ++ T) m
  obtain ⟨x1, x2, x3, x4⟩ := cn_cnt hn T
  have hh : (cnOK (cnt n ++ T) && decide (cnX (cnt n ++ T) ≤ m)) = true := by rw [x1, x2, decide_eq_true hm]; rfl
  rw [hh] at a b c
  exact ⟨a, by rw [b, if_pos rfl, x2], by rw [c, if_pos rfl, x3]⟩
theorem cd_on {b T : List UInt8} (hm : b.length ≤ m) (hn : b.length < 18446744073709551616) : cdOK false (cnt b.length ++ b ++ T) m = true ∧ cdV false (cnt b.length ++ b ++ T) m = b ∧ cdR false (cnt b.length ++ b ++ T) m = T := by
  rw [List.append_assoc]
  obtain ⟨a, b', c⟩ := ct_on hm hn (b ++ T)
  obtain ⟨o1, o2, o3⟩ := rOK_true (rest := b ++ T) (n := b.length) (by rw [List.length_append]; omega)
  unfold cdOK cdV cdR
  rw [a, b', c]
  exact ⟨o1, o2.trans (List.take_left' rfl), o3.trans (List.drop_left' rfl)⟩
theorem StpC.back (h : StpC on m z q z' q' v) (hz : z' = false) : z = false ∧ (on → q = cnt v.length ++ v ++ q' ∧ v.length ≤ m) ∧ (¬ on → v = [] ∧ q = q') := by
  by_cases ho : on
  · obtain ⟨h1, h2, h3⟩ := h.1 ho
    have hc : cdOK z q m = true := by
      cases hh : cdOK z q m
      · rw [h1, hh] at hz
        cases hz
      · rfl
    obtain ⟨a, b, c⟩ := cd_sound hc
    exact ⟨a, fun _ => ⟨by rw [h2, h3]; exact b, by rw [h3]; exact c⟩, fun h => absurd ho h⟩
  · obtain ⟨h1, h2, h3⟩ := h.2 ho
    exact ⟨by rw [← h1]; exact hz, fun h => absurd h ho, fun _ => ⟨h3, h2.symm⟩⟩
theorem StpC.on_ (h : StpC on m z q z' q' v) (hz : z = false) {b T : List UInt8} (hq : on → q = cnt b.length ++ b ++ T ∧ b.length ≤ m) (hm : m < 18446744073709551616) (h0 : ¬ on → q = T ∧ b = []) : z' = false ∧ q' = T ∧ v = b := by
  by_cases ho : on
  · obtain ⟨h1, h2, h3⟩ := h.1 ho
    obtain ⟨e, hb⟩ := hq ho
    subst hz e
    obtain ⟨a, b', c⟩ := cd_on (T := T) hb (by omega)
    exact ⟨by rw [h1, a]; rfl, h2.trans c, h3.trans b'⟩
  · obtain ⟨h1, h2, h3⟩ := h.2 ho
    obtain ⟨e, eb⟩ := h0 ho
    exact ⟨by rw [h1]; exact hz, by rw [h2]; exact e, by rw [h3, eb]⟩
end
end Go.Proofs.Ytcedmbdahbdmaaa
namespace Go.Proofs.Ytcedmbdahbdmaaa
open Go.RowKit
section
variable {z z' : Bool} {q q' v : List UInt8} {n m : Nat}
theorem rq_back (hz : z' = (!(rOK z q n))) (hq : q' = rR z q n) (hv : v = rV z q n) (h : z' = false) : z = false ∧ q = v ++ q' ∧ v.length = n := by
  obtain ⟨f, hn, hd, ht⟩ := rd_back hz hq hv h
  exact ⟨f, by rw [ht, hd, List.take_append_drop], by rw [ht, List.length_take]; omega⟩
theorem rq_on (hz : z' = (!(rOK z q n))) (hq : q' = rR z q n) (hv : v = rV z q n) (h : z = false) {X T : List UInt8} (hX : q = X ++ T) (hl : X.length = n) : z' = false ∧ q' = T ∧ v = X := by
  obtain ⟨f, hd, ht⟩ := rd_on hz hq hv h (by rw [hX, List.length_append]; omega)
  exact ⟨f, by rw [hd, hX, List.drop_left' hl], by rw [ht, hX, List.take_left' hl]⟩
theorem cq_back (hz : z' = (!(cdOK z q m))) (hq : q' = cdR z q m) (hv : v = cdV z q m) (h : z' = false) : z = false ∧ q = (cnt v.length ++ v) ++ q' ∧ v.length ≤ m := by
  have hc : cdOK z q m = true := by
    cases hh : cdOK z q m
    · rw [hz, hh] at h
      cases h
    · rfl
  obtain ⟨a, b, c⟩ := cd_sound hc
  exact ⟨a, by rw [hv, hq]; exact b, by rw [hv]; exact c⟩
theorem cq_on (hz : z' = (!(cdOK z q m))) (hq : q' = cdR z q m) (hv : v = cdV z q m) (h : z = false) {b T : List UInt8} (hX : q = (cnt b.length ++ b) ++ T) (hl : b.length ≤ m) (hm : m < 18446744073709551616) : z' = false ∧ q' = T ∧ v = b := by
  subst h hX
  obtain ⟨a, b', c⟩ := cd_on (T := T) hl (by omega)
  exact ⟨by rw [hz, a]; rfl, by rw [hq, c], by rw [hv, b']⟩
theorem nq_back {x : Nat} (hz : z' = (!(ctOK z q m))) (hq : q' = ctR z q m) (hv : x = ctV z q m) (h : z' = false) : z = false ∧ q = cnt x ++ q' ∧ x ≤ m := by
  have hc : ctOK z q m = true := by
    cases hh : ctOK z q m
    · rw [hz, hh] at h
      cases h
    · rfl
  obtain ⟨a, b, c⟩ := ct_sound hc
  exact ⟨a, by rw [hv, hq]; exact b, by rw [hv]; exact c⟩
theorem nq_on {x y : Nat} (hz : z' = (!(ctOK z q m))) (hq : q' = ctR z q m) (hv : x = ctV z q m) (h : z = false) {T : List UInt8} (hX : q = cnt y ++ T) (hl : y ≤ m) (hm : m < 18446744073709551616) : z' = false ∧ q' = T ∧ x = y := by
  subst h hX
  obtain ⟨a, b', c⟩ := ct_on (T := T) hl (by omega)
  exact ⟨by rw [hz, a]; rfl, by rw [hq, c], by rw [hv, b']⟩
end
def VIn (y : TIn) : Prop := y.fr.length = 32 ∧ y.ix < 4294967296 ∧ y.sq < 4294967296 ∧ y.kb.length ≤ 520
def VOut (y : TOut) : Prop := y.pv < 18446744073709551616 ∧ y.lb.length ≤ 520
def RdIn (z : Bool) (q : List UInt8) (z' : Bool) (q' : List UInt8) (x : TIn) : Prop :=
  ∃ (z1 : Bool) (q1 v1 : List UInt8) (z2 : Bool) (q2 v2 : List UInt8) (z3 : Bool) (q3 v4 : List UInt8), z1 = (!(rOK z q 32)) ∧ q1 = rR z q 32 ∧ v1 = rV z q 32 ∧ z2 = (!(rOK z1 q1 4)) ∧ q2 = rR z1 q1 4 ∧ v2 = rV z1 q1 4 ∧
    z3 = (!(cdOK z2 q2 520)) ∧ q3 = cdR z2 q2 520 ∧ x.kb = cdV z2 q2 520 ∧ z' = (!(rOK z3 q3 4)) ∧ q' = rR z3 q3 4 ∧ v4 = rV z3 q3 4 ∧ x.fr = hsh v1 ∧ x.ix = getB v2 ∧ x.sq = getB v4
def RdOut (z : Bool) (q : List UInt8) (z' : Bool) (q' : List UInt8) (x : TOut) : Prop :=
  ∃ (z1 : Bool) (q1 v1 : List UInt8), z1 = (!(rOK z q 8)) ∧ q1 = rR z q 8 ∧ v1 = rV z q 8 ∧ z' = (!(cdOK z1 q1 520)) ∧ q' = cdR z1 q1 520 ∧ x.lb = cdV z1 q1 520 ∧ x.pv = getB v1
section
variable {z z' : Bool} {q q' T : List UInt8}
theorem put4 {l : List UInt8} {n : Nat} (h : l.length = n) : putB (getB l) n = l := by
  subst h
  exact putB_get l
theorem get_put {x n : Nat} (h : x < 256 ^ n) : getB (putB x n) = x := by rw [getB_put, Nat.mod_eq_of_lt h]
theorem RdIn.back {x : TIn} (h : RdIn z q z' q' x) (hz : z' = false) : z = false ∧ q = x.bytes ++ q' := by
  obtain ⟨z1, q1, v1, z2, q2, v2, z3, q3, v4, a1, a2, a3, b1, b2, b3, c1, c2, c3, d1, d2, d3, e1, e2, e3⟩ := h
  obtain ⟨f3, g3, l3⟩ := rq_back d1 d2 d3 hz
  obtain ⟨f2, g2, l2⟩ := cq_back c1 c2 c3 f3
  obtain ⟨f1, g1, l1⟩ := rq_back b1 b2 b3 f2
  obtain ⟨f0, g0, l0⟩ := rq_back a1 a2 a3 f1
  refine ⟨f0, ?_⟩
  rw [TIn.bytes, e1, e2, e3, hsh_of l0, put4 l1, put4 l3, g0, g1, g2, g3]
  simp only [List.append_assoc]
theorem RdIn.on_ {x y : TIn} (h : RdIn z q z' q' x) (hz : z = false) (hq : q = y.bytes ++ T) (hy : VIn y) : z' = false ∧ q' = T ∧ (x.fr = y.fr ∧ x.ix = y.ix ∧ x.sq = y.sq ∧ x.kb = y.kb) := by
  obtain ⟨z1, q1, v1, z2, q2, v2, z3, q3, v4, a1, a2, a3, b1, b2, b3, c1, c2, c3, d1, d2, d3, e1, e2, e3⟩ := h
  obtain ⟨y1, y2, y3, y4⟩ := hy
  obtain ⟨f1, g1, w1⟩ := rq_on a1 a2 a3 hz (X := y.fr) (by rw [hq, TIn.bytes, List.append_assoc]) y1
  obtain ⟨f2, g2, w2⟩ := rq_on b1 b2 b3 f1 (X := putB y.ix 4) (by rw [g1, List.append_assoc]) (putB_length _ _)
  obtain ⟨f3, g3, w3⟩ := cq_on c1 c2 c3 f2 (b := y.kb) (by rw [g2, List.append_assoc]) y4 (by decide)
  obtain ⟨f4, g4, w4⟩ := rq_on d1 d2 d3 f3 (X := putB y.sq 4) (by rw [g3]) (putB_length _ _)
  exact ⟨f4, g4, by rw [e1, w1, hsh_of y1], by rw [e2, w2, get_put y2], by rw [e3, w4, get_put y3], w3⟩
theorem RdOut.back {x : TOut} (h : RdOut z q z' q' x) (hz : z' = false) : z = false ∧ q = x.bytes ++ q' := by
  obtain ⟨z1, q1, v1, a1, a2, a3, c1, c2, c3, e1⟩ := h
  obtain ⟨f2, g2, l2⟩ := cq_back c1 c2 c3 hz
  obtain ⟨f0, g0, l0⟩ := rq_back a1 a2 a3 f2
  refine ⟨f0, ?_⟩
  rw [TOut.bytes, e1, put4 l0, g0, g2]
  simp only [List.append_assoc]
theorem RdOut.on_ {x y : TOut} (h : RdOut z q z' q' x) (hz : z = false) (hq : q = y.bytes ++ T) (hy : VOut y) : z' = false ∧ q' = T ∧ (x.pv = y.pv ∧ x.lb = y.lb) := by
  obtain ⟨z1, q1, v1, a1, a2, a3, c1, c2, c3, e1⟩ := h
  obtain ⟨f1, g1, w1⟩ := rq_on a1 a2 a3 hz (X := putB y.pv 8) (by rw [hq, TOut.bytes, List.append_assoc]) (putB_length _ _)
  obtain ⟨f3, g3, w3⟩ := cq_on c1 c2 c3 f1 (b := y.lb) (by rw [g1]) hy.2 (by decide)
  exact ⟨f3, g3, by rw [e1, w1, get_put hy.1], w3⟩
end
section
variable {α : Type} {f : α → List UInt8} {V : α → Prop} {g : α → Nat} {n k : Nat} {z0 z z' : Bool} {q0 q q' : List UInt8} {l : List α}
def LOf (f : α → List UInt8) (V : α → Prop) (g : α → Nat) (n : Nat) (z0 : Bool) (q0 : List UInt8) (k : Nat) (z : Bool) (q : List UInt8) (l : List α) : Prop :=
  l.length = k ∧ (z = false → z0 = false ∧ q0 = l.flatMap f ++ q) ∧ ∀ (l0 : List α) (T : List UInt8), (∀ y ∈ l0, V y) → l0.length = n → z0 = false → q0 = l0.flatMap f ++ T → z = false ∧ q = (l0.drop k).flatMap f ++ T ∧ l.map g = (l0.take k).map g
theorem LOf.zero : LOf f V g n z0 q0 0 z0 q0 [] := ⟨rfl, fun h => ⟨h, rfl⟩, fun l0 T _ _ h e => ⟨h, e, by simp⟩⟩
theorem LOf.step {x : α} (h : LOf f V g n z0 q0 k z q l) (hk : k < n) (hb : z' = false → z = false ∧ q = f x ++ q') (ho : ∀ y T, V y → z = false → q = f y ++ T → z' = false ∧ q' = T ∧ g x = g y) : LOf f V g n z0 q0 (k + 1) z' q' (l ++ [x]) := by
  obtain ⟨h1, h2, h3⟩ := h
  refine ⟨by simp [h1], fun hz => ?_, fun l0 T hV hl hz hq => ?_⟩
  · obtain ⟨e1, e2⟩ := hb hz
    obtain ⟨e3, e4⟩ := h2 e1
    refine ⟨e3, ?_⟩
    rw [e4, e2, List.flatMap_append]
    simp
  · obtain ⟨e1, e2, e3⟩ := h3 l0 T hV hl hz hq
    have hkl : k < l0.length := by omega
    have hd : l0.drop k = l0[k] :: l0.drop (k + 1) := List.drop_eq_getElem_cons hkl
    rw [hd, List.flatMap_cons, List.append_assoc] at e2
    obtain ⟨o1, o2, o3⟩ := ho _ _ (hV _ (List.getElem_mem hkl)) e1 e2
    refine ⟨o1, o2, ?_⟩
    rw [List.take_add_one, List.getElem?_eq_getElem hkl, List.map_append, List.map_append, e3]
    simp [o3]
end
section
variable {α : Type} {f : α → List UInt8} {V : α → Prop} {g : α → Nat} {n k : Nat} {z0 z : Bool} {q0 q : List UInt8} {l : List α}
def LDn (f : α → List UInt8) (V : α → Prop) (g : α → Nat) (n : Nat) (z0 : Bool) (q0 : List UInt8) (z : Bool) (q : List UInt8) (l : List α) : Prop :=
  (z = false → z0 = false ∧ q0 = l.flatMap f ++ q ∧ l.length = n) ∧ ∀ (l0 : List α) (T : List UInt8), (∀ y ∈ l0, V y) → l0.length = n → z0 = false → q0 = l0.flatMap f ++ T → z = false ∧ q = T ∧ l.map g = l0.map g ∧ l.length = n
theorem LOf.done (h : LOf f V g n z0 q0 k z q l) (hk : k = n ∨ z = true) : LDn f V g n z0 q0 z q l := by
  obtain ⟨h1, h2, h3⟩ := h
  refine ⟨fun hz => ?_, fun l0 T hV hl hz hq => ?_⟩
  · obtain ⟨a, b⟩ := h2 hz
    rcases hk with rfl | hk
    · exact ⟨a, b, h1⟩
    · rw [hz] at hk
      cases hk
  · obtain ⟨a, b, c⟩ := h3 l0 T hV hl hz hq
    rcases hk with rfl | hk
    · rw [← hl, List.drop_length, List.flatMap_nil, List.nil_append] at b
      rw [← hl, List.take_length] at c
      exact ⟨a, b, c, h1⟩
    · rw [a] at hk
      cases hk
end
def VTx (v : Nat) (ins : List TIn) (outs : List TOut) (lt : Nat) : Prop :=
  (v < 4294967296 ∧ lt < 4294967296 ∧ (∀ x ∈ ins, VIn x) ∧ ∀ x ∈ outs, VOut x) ∧ (0 < ins.length ∧ ins.length ≤ 64) ∧ (0 < outs.length ∧ outs.length ≤ 64) ∧ (∀ x ∈ outs, x.pv ≤ 4611686018427387904) ∧ (txB v ins outs lt).length ≤ 4096 ∧ (txB v ins outs lt).length ≠ 64
def NoTx (bs : List UInt8) : Prop := ∀ (v : Nat) (ins : List TIn) (outs : List TOut) (lt : Nat), VTx v ins outs lt → bs ≠ txB v ins outs lt
def Psd (bs : List UInt8) (v : Nat) (ins : List TIn) (outs : List TOut) (lt n1 n2 : Nat) (z : Bool) (q : List UInt8) : Prop :=
  ∃ (z1 : Bool) (q1 v1 : List UInt8) (z2 : Bool) (q2 : List UInt8) (z3 : Bool) (q3 : List UInt8) (z4 : Bool) (q4 : List UInt8) (z5 : Bool) (q5 v6 : List UInt8),
    z1 = (!(rOK false bs 4)) ∧ q1 = rR false bs 4 ∧ v1 = rV false bs 4 ∧ z2 = (!(ctOK z1 q1 64)) ∧ q2 = ctR z1 q1 64 ∧ n1 = ctV z1 q1 64 ∧ LDn TIn.bytes VIn (fun _ => 0) n1 z2 q2 z3 q3 ins ∧
    z4 = (!(ctOK z3 q3 64)) ∧ q4 = ctR z3 q3 64 ∧ n2 = ctV z3 q3 64 ∧ LDn TOut.bytes VOut TOut.pv n2 z4 q4 z5 q5 outs ∧ z = (!(rOK z5 q5 4)) ∧ q = rR z5 q5 4 ∧ v6 = rV z5 q5 4 ∧ v = getB v1 ∧ lt = getB v6
section
variable {bs q : List UInt8} {v lt n1 n2 : Nat} {ins : List TIn} {outs : List TOut} {z : Bool}
theorem Psd.back (h : Psd bs v ins outs lt n1 n2 z q) (hz : z = false) (hq : q.length = 0) : bs = txB v ins outs lt ∧ ins.length = n1 ∧ outs.length = n2 := by
  obtain ⟨z1, q1, v1, z2, q2, z3, q3, z4, q4, z5, q5, v6, a1, a2, a3, b1, b2, b3, L1, c1, c2, c3, L2, d1, d2, d3, e1, e2⟩ := h
  obtain ⟨f6, g6, l6⟩ := rq_back d1 d2 d3 hz
  obtain ⟨f5, g5, m2⟩ := L2.1 f6
  obtain ⟨f4, g4, _⟩ := nq_back c1 c2 c3 f5
  obtain ⟨f3, g3, m1⟩ := L1.1 f4
  obtain ⟨f2, g2, _⟩ := nq_back b1 b2 b3 f3
  obtain ⟨_, g1, l1⟩ := rq_back a1 a2 a3 f2
  have hq0 := List.eq_nil_of_length_eq_zero hq
  subst hq0
  refine ⟨?_, m1, m2⟩
  rw [txB, e1, e2, put4 l1, put4 l6, m1, m2, g1, g2, g3, g4, g5, g6, List.append_nil]
  rfl
theorem Psd.on_ (h : Psd bs v ins outs lt n1 n2 z q) {v0 lt0 : Nat} {ins0 : List TIn} {outs0 : List TOut} (hV : VTx v0 ins0 outs0 lt0) (hb : bs = txB v0 ins0 outs0 lt0) : z = false ∧ q.length = 0 ∧ (ins.length = n1 ∧ 0 < n1 ∧ n1 ≤ 64) ∧ (outs.length = n2 ∧ 0 < n2 ∧ n2 ≤ 64) ∧ ∀ x ∈ outs, x.pv ≤ 4611686018427387904 := by
  obtain ⟨z1, q1, v1, z2, q2, z3, q3, z4, q4, z5, q5, v6, a1, a2, a3, b1, b2, b3, L1, c1, c2, c3, L2, d1, d2, d3, e1, e2⟩ := h
  obtain ⟨⟨hv, hlt, hI, hO⟩, hn1, hn2, hpv, _, _⟩ := hV
  obtain ⟨f1, g1, w1⟩ := rq_on a1 a2 a3 rfl (X := putB v0 4) (by rw [hb, txB]) (putB_length _ _)
  obtain ⟨f2, g2, w2⟩ := nq_on b1 b2 b3 f1 g1 hn1.2 (by decide)
  obtain ⟨f3, g3, _, m1⟩ := L1.2 ins0 _ hI w2.symm f2 g2
  obtain ⟨f4, g4, w4⟩ := nq_on c1 c2 c3 f3 g3 hn2.2 (by decide)
  obtain ⟨f5, g5, w5, m2⟩ := L2.2 outs0 _ hO w4.symm f4 g4
  obtain ⟨f6, g6, w6⟩ := rq_on d1 d2 d3 f5 (X := putB lt0 4) (T := []) (by rw [g5, List.append_nil]) (putB_length _ _)
  refine ⟨f6, by rw [g6]; rfl, ⟨m1, by omega, by omega⟩, ⟨m2, by omega, by omega⟩, fun x hx => ?_⟩
  have hm : x.pv ∈ outs0.map TOut.pv := by
    rw [← w5]
    exact List.mem_map_of_mem hx
  obtain ⟨y, hy, he⟩ := List.mem_map.1 hm
  rw [← he]
  exact hpv y hy
end
section
variable {α : Type} {f : α → List UInt8} {V : α → Prop}
theorem flat_pre (hf : ∀ x y : α, V x → V y → ∀ S T, f x ++ S = f y ++ T → S = T) : ∀ (l m : List α), l.length = m.length → (∀ x ∈ l, V x) → (∀ y ∈ m, V y) → ∀ S T, l.flatMap f ++ S = m.flatMap f ++ T → S = T
  | [], [], _, _, _, _, _, h => h
  | x :: l, y :: m, hl, hx, hy, S, T, h => by
    rw [List.flatMap_cons, List.flatMap_cons, List.append_assoc, List.append_assoc] at h
    exact flat_pre hf l m (by simpa using hl) (fun a ha => hx a (List.mem_cons_of_mem _ ha)) (fun a ha => hy a (List.mem_cons_of_mem _ ha)) S T (hf x y (hx x List.mem_cons_self) (hy y List.mem_cons_self) _ _ h)
  | [], _ :: _, hl, _, _, _, _, _ => by simp at hl
  | _ :: _, [], hl, _, _, _, _, _ => by simp at hl
theorem app_pre {a b S T : List UInt8} (hl : a.length = b.length) (h : a ++ S = b ++ T) : a = b ∧ S = T := List.append_inj h hl
theorem cnt_pre {a b : Nat} (ha : a < 18446744073709551616) (hb : b < 18446744073709551616) {S T : List UInt8} (h : cnt a ++ S = cnt b ++ T) : a = b ∧ S = T := by
  obtain ⟨_, a2, a3⟩ := ct_on (n := a) (m := 18446744073709551615) (by omega) ha S
  obtain ⟨_, b2, b3⟩ := ct_on (n := b) (m := 18446744073709551615) (by omega) hb T
  rw [h] at a2 a3
  exact ⟨a2.symm.trans b2, a3.symm.trans b3⟩
theorem cb_pre {a b S T : List UInt8} (ha : a.length < 18446744073709551616) (hb : b.length < 18446744073709551616) (h : (cnt a.length ++ a) ++ S = (cnt b.length ++ b) ++ T) : a = b ∧ S = T := by
  rw [List.append_assoc, List.append_assoc] at h
  obtain ⟨h1, h2⟩ := cnt_pre ha hb h
  exact app_pre h1 h2
theorem in_pre (x y : TIn) (hx : VIn x) (hy : VIn y) (S T : List UInt8) (h : x.bytes ++ S = y.bytes ++ T) : S = T := by
  rw [TIn.bytes, TIn.bytes] at h
  simp only [List.append_assoc] at h
  obtain ⟨_, h⟩ := app_pre (hx.1.trans hy.1.symm) h
  obtain ⟨_, h⟩ := app_pre ((putB_length _ _).trans (putB_length _ _).symm) h
  rw [← List.append_assoc (cnt x.kb.length), ← List.append_assoc (cnt y.kb.length)] at h
  obtain ⟨_, h⟩ := cb_pre (Nat.lt_of_le_of_lt hx.2.2.2 (by decide)) (Nat.lt_of_le_of_lt hy.2.2.2 (by decide)) h
  exact (app_pre ((putB_length _ _).trans (putB_length _ _).symm) h).2
theorem out_pre (x y : TOut) (hx : VOut x) (hy : VOut y) (S T : List UInt8) (h : x.bytes ++ S = y.bytes ++ T) : S = T := by
  rw [TOut.bytes, TOut.bytes] at h
  simp only [List.append_assoc] at h
  obtain ⟨_, h⟩ := app_pre ((putB_length _ _).trans (putB_length _ _).symm) h
  rw [← List.append_assoc (cnt x.lb.length), ← List.append_assoc (cnt y.lb.length)] at h
  exact (cb_pre (Nat.lt_of_le_of_lt hx.2 (by decide)) (Nat.lt_of_le_of_lt hy.2 (by decide)) h).2
theorem tx_pre {v v' lt lt' : Nat} {ins ins' : List TIn} {outs outs' : List TOut} (h : VTx v ins outs lt) (h' : VTx v' ins' outs' lt') {S T : List UInt8} (e : txB v ins outs lt ++ S = txB v' ins' outs' lt' ++ T) : S = T ∧ ins.length = ins'.length ∧ outs.length = outs'.length := by
  obtain ⟨⟨_, _, hI, hO⟩, hn, hm, _⟩ := h
  obtain ⟨⟨_, _, hI', hO'⟩, hn', hm', _⟩ := h'
  rw [txB, txB] at e
  simp only [List.append_assoc] at e
  obtain ⟨_, e⟩ := app_pre ((putB_length _ _).trans (putB_length _ _).symm) e
  obtain ⟨e1, e⟩ := cnt_pre (by omega) (by omega) e
  have e := flat_pre in_pre ins ins' e1 hI hI' _ _ e
  obtain ⟨e2, e⟩ := cnt_pre (by omega) (by omega) e
  have e := flat_pre out_pre outs outs' e2 hO hO' _ _ e
  exact ⟨(app_pre ((putB_length _ _).trans (putB_length _ _).symm) e).2, e1, e2⟩
end
end Go.Proofs.Ytcedmbdahbdmaaa
namespace Go.Proofs.Ytcedmbdahbdmaaa
open Go.RowKit
section
variable {w0 w : World} {S : List Nat} {L R A' B' : List Ent} {Bs Cs : List (Option Addr × Nat × Nat × TypeId × List Value)}
theorem Hp.bagNil (H : Hp w0 S L w) : Hp w0 S (L ++ [.bag []]) w := by
  refine H.callNew (L' := [.bag []]) ⟨rfl, rfl, rfl, Nat.le_refl _, fun k hk _ => rfl, ?_, ?_, by simp [ids, Ent.ids]⟩
  · intro e he
    simp at he
    subst he
    exact fun p hp => by cases hp
  · intro k hk
    simp [ids, Ent.ids] at hk
theorem Hp.bagIn {A : Option Addr} {n c e : Nat} {xs : List Value} (H : Hp w0 S (.row A n c e 1 xs :: .bag Bs :: R) w) : Hp w0 S (.bag ((A, n, c, e, xs) :: Bs) :: R) w := by
  have hi : ids (.bag ((A, n, c, e, xs) :: Bs) :: R) = ids (.row A n c e 1 xs :: .bag Bs :: R) := by simp [ids, Ent.ids]
  refine ⟨H.os, H.tape, H.output, H.size, H.keep, ?_, by rw [hi]; exact H.old, by rw [hi]; exact H.nd⟩
  intro x hx
  rcases List.mem_cons.1 hx with rfl | h
  · intro p hp
    rcases List.mem_cons.1 hp with rfl | h
    · exact H.ents (.row A n c e 1 xs) (by simp)
    · exact H.ents (.bag Bs) (by simp) p h
  · exact H.ents x (by simp [h])
theorem RdO.bag (H : Hp w0 S (A' ++ B') w) (i : Nat) {r : Option Addr} {n c e : Nat} {xs : List Value} (hL : B'[i]? = some (.bag Bs)) (hm : (r, n, c, e, xs) ∈ Bs) : RdO w (ids A') r xs := by
  have hb : w.ownsRow 0 e 1 (.slice r n c) n xs := (H.ents _ (List.mem_append_right _ (List.mem_of_getElem? hL))) _ hm
  have hr : RdS w r xs := RdS.row hb
  have hnd := H.nd
  rw [ids_append] at hnd
  obtain ⟨_, _, n3⟩ := List.nodup_append.1 hnd
  intro W hs hk
  rcases hr with h | ⟨a, hA, ha, hc⟩
  · exact .inl h
  · refine .inr ⟨a, hA, Nat.lt_of_lt_of_le ha hs, fun j v hv => ?_⟩
    have hb : (a.add j).block = a.block := add_block a j
    rw [World.cell?_of_block (w := w) (hk (a.add j).block (by rw [hb]; exact ha) (fun hin => ?_))]
    · exact hc j v hv
    · rw [hb] at hin
      exact n3 _ hin _ (ids_mem (List.mem_of_getElem? hL) (by subst hA; exact List.mem_flatMap.2 ⟨_, hm, by simp⟩)) rfl
theorem Hp.bagRd (H : Hp w0 S L w) (i : Nat) {r : Option Addr} {n c e : Nat} {xs : List Value} (hL : L[i]? = some (.bag Bs)) (hm : (r, n, c, e, xs) ∈ Bs) : RdS w r xs := RdS.row ((H.ents _ (List.mem_of_getElem? hL)) _ hm)
theorem Hp.bagLe (H : Hp w0 S L w) (i : Nat) {r : Option Addr} {n c e : Nat} {xs : List Value} (hL : L[i]? = some (.bag Bs)) (hm : (r, n, c, e, xs) ∈ Bs) : n ≤ c ∧ xs.length = n ∧ c ≤ maxLen := by
  have h : w.ownsRow 0 e 1 (.slice r n c) n xs := (H.ents _ (List.mem_of_getElem? hL)) _ hm
  have h1 := h.1
  rw [Nat.mul_one] at h1
  rcases h.2 with ⟨h0, hn⟩ | ⟨g, cap, cur, hv, _, hh, hnc, hm, hsz, ht⟩
  · refine ⟨by omega, h1, ?_⟩
    injection h0 with _ _ hc
    subst hc
    exact Nat.zero_le _
  · injection hv with _ _ hc
    subst hc
    exact ⟨hnc, h1, hm⟩
end
end Go.Proofs.Ytcedmbdahbdmaaa
set_option maxRecDepth 100000
namespace Go.Proofs.Ytcedmbdahbdmaaa
open Go.RowKit
theorem RCount_calls (S : List Nat) (p : Nat) (A : Option Addr) (k cap : Nat) (wr : Bool) (R : Option Addr) (N C : Nat) (whole rest : List UInt8) (most : Nat) (w : World) (h0 : Hp w S [.blk p [.slice A k cap, .bool wr] 107, .row R N C 5 1 (by8 whole)] w) (hcut : Cut R whole A rest) (hk : k = rest.length) (hcap : k ≤ cap) (hN : k ≤ 1000000) : Calls Try.prog 37 #[pt p 0, .int .u64 (most : Int)] w fun e w' => ∃ B b, e = .returned (.int .u64 ((ctV wr rest most : Nat) : Int)) ∧ Hp w S [.blk p [.slice B (ctR wr rest most).length b, .bool (!(ctOK wr rest most))] 107, .row R N C 5 1 (by8 whole)] w' ∧ Cut R whole B (ctR wr rest most) ∧ (ctR wr rest most).length ≤ b := by
  refine calls_G (args := [pt p 0, .int .u64 (most : Int)]) Try.func37 rfl Try.ntmps37 rfl ?_
  intro Q0 hRet hNor hPan
  have H := h0
  have H : Hp w S [.blk p [.slice A k cap, .bool wr] 107, .row R N C 5 1 (by8 whole)] w := H
  refine G.seqK fun K1 hK2 => ?_
  refine G.region ?_
  refine GL.run (j := 1) 1 [0, 1] [(0, pt p 0), (1, .int .u64 (most : Int))] (by kernel_rfl) rfl ?_
  refine GL.k rfl hK2 (fun _ _ h => h) ?_
  refine G.seqK fun K3 hK4 => ?_
  refine G.region ?_
  refine GL.run (j := 1) 1 [0, 1, 7] [(0, pt p 0), (1, .int .u64 (most : Int)), (7, pt p 0)] (by kernel_rfl) rfl ?_
  refine GL.call (j := 2) (Get1_calls (ids [.blk p [.slice A k cap, .bool wr] 107, .row R N C 5 1 (by8 whole)]) p A k cap wr R N C whole rest w (Hp.startL (A := [.blk p [.slice A k cap, .bool wr] 107, .row R N C 5 1 (by8 whole)]) (B := []) H) hcut (hk) (hcap) (hN)) (by kernel_rfl) rfl (fun e_ w9 hR => ?_)
  obtain ⟨A5, c6, rfl, H11, hC7, hL8⟩ := hR
  have H10 : Hp w S [.blk p [.slice A5 ((rR wr rest 1).length) c6, .bool (!(rOK wr rest 1))] 107, .row R N C 5 1 (by8 whole)] w9 := Hp.callL (A := [.blk p [.slice A k cap, .bool wr] 107, .row R N C 5 1 (by8 whole)]) (B := []) H H11
  refine ⟨_, rfl, [0, 1, 8], [(0, pt p 0), (1, .int .u64 (most : Int)), (8, .int .u64 (((getB (rV wr rest 1)) : Nat) : Int))], by kernel_rfl, ?_⟩
  refine GL.run (j := 4) 2 [0, 1, 5, 6] [(0, pt p 0), (1, .int .u64 (most : Int)), (5, .int .u64 (((getB (rV wr rest 1)) : Nat) : Int)), (6, .int .i64 1)] (by kernel_rfl) rfl ?_
  refine GL.k rfl hK4 (fun _ _ h => h) ?_
  refine G.seqK fun K12 hK13 => ?_
  refine G.seqK fun K14 hK15 => ?_
  refine G.region ?_
  refine GL.run (j := 1) 1 [0, 1, 5, 6, 9] [(0, pt p 0), (1, .int .u64 (most : Int)), (5, .int .u64 (((getB (rV wr rest 1)) : Nat) : Int)), (6, .int .i64 1), (9, .int .u64 (((getB (rV wr rest 1)) : Nat) : Int))] (by kernel_rfl) rfl ?_
  refine GL.k rfl hK15 (fun _ _ h => h) ?_
  refine G.block ?_
  refine G.seqK fun K16 hK17 => ?_
  refine G.region ?_
  refine GL.run (j := 2) 2 [0, 1, 5, 6, 9, 10] [(0, pt p 0), (1, .int .u64 (most : Int)), (5, .int .u64 (((getB (rV wr rest 1)) : Nat) : Int)), (6, .int .i64 1), (9, .int .u64 (((getB (rV wr rest 1)) : Nat) : Int)), (10, .bool ((((getB (rV wr rest 1)) : Nat) : Int) == 253))] (by kernel_rfl) rfl ?_
  refine GL.k rfl hK17 (fun _ _ h => h) ?_
  cases hb18 : ((((getB (rV wr rest 1)) : Nat) : Int) == 253)
  · skip
    have hb18f := ne_of_beq_false hb18
    refine G.no rfl ?_
    refine G.seqK fun K19 hK20 => ?_
    refine G.region ?_
    refine GL.run (j := 2) 2 [0, 1, 5, 6, 9, 14] [(0, pt p 0), (1, .int .u64 (most : Int)), (5, .int .u64 (((getB (rV wr rest 1)) : Nat) : Int)), (6, .int .i64 1), (9, .int .u64 (((getB (rV wr rest 1)) : Nat) : Int)), (14, .bool ((((getB (rV wr rest 1)) : Nat) : Int) == 254))] (by kernel_rfl) rfl ?_
    refine GL.k rfl hK20 (fun _ _ h => h) ?_
    cases hb21 : ((((getB (rV wr rest 1)) : Nat) : Int) == 254)
    · skip
      have hb21f := ne_of_beq_false hb21
      refine G.no rfl ?_
      refine G.seqK fun K22 hK23 => ?_
      refine G.region ?_
      refine GL.run (j := 2) 2 [0, 1, 5, 6, 18] [(0, pt p 0), (1, .int .u64 (most : Int)), (5, .int .u64 (((getB (rV wr rest 1)) : Nat) : Int)), (6, .int .i64 1), (18, .bool ((((getB (rV wr rest 1)) : Nat) : Int) == 255))] (by kernel_rfl) rfl ?_
      refine GL.k rfl hK23 (fun _ _ h => h) ?_
      cases hb24 : ((((getB (rV wr rest 1)) : Nat) : Int) == 255)
      · skip
        have hb24f := ne_of_beq_false hb24
        refine G.no rfl ?_
        refine G.skipK hK13 (fun _ _ h => h) ?_
        refine G.seqK fun K25 hK26 => ?_
        refine G.seqK fun K27 hK28 => ?_
        refine G.region ?_
        refine GL.run (j := 1) 1 [0, 1, 5, 6, 22] [(0, pt p 0), (1, .int .u64 (most : Int)), (5, .int .u64 (((getB (rV wr rest 1)) : Nat) : Int)), (6, .int .i64 1), (22, pt p 0)] (by kernel_rfl) rfl ?_
        refine GL.call (j := 2) (Wrong_calls (ids [.blk p [.slice A5 ((rR wr rest 1).length) c6, .bool (!(rOK wr rest 1))] 107, .row R N C 5 1 (by8 whole)]) p A5 ((rR wr rest 1).length) c6 (!(rOK wr rest 1)) R N C whole w9 (Hp.startL (A := [.blk p [.slice A5 ((rR wr rest 1).length) c6, .bool (!(rOK wr rest 1))] 107, .row R N C 5 1 (by8 whole)]) (B := []) H10)) (by kernel_rfl) rfl (fun e_ w29 hR => ?_)
        obtain ⟨rfl, H31⟩ := hR
        have H30 : Hp w S [.blk p [.slice A5 ((rR wr rest 1).length) c6, .bool (!(rOK wr rest 1))] 107, .row R N C 5 1 (by8 whole)] w29 := Hp.callL (A := [.blk p [.slice A5 ((rR wr rest 1).length) c6, .bool (!(rOK wr rest 1))] 107, .row R N C 5 1 (by8 whole)]) (B := []) H10 H31
        refine ⟨_, rfl, [0, 1, 5, 6, 23], [(0, pt p 0), (1, .int .u64 (most : Int)), (5, .int .u64 (((getB (rV wr rest 1)) : Nat) : Int)), (6, .int .i64 1), (23, .bool (!(rOK wr rest 1)))], by kernel_rfl, ?_⟩
        refine GL.run (j := 3) 1 [0, 1, 5, 6, 24] [(0, pt p 0), (1, .int .u64 (most : Int)), (5, .int .u64 (((getB (rV wr rest 1)) : Nat) : Int)), (6, .int .i64 1), (24, .bool (!(rOK wr rest 1)))] (by kernel_rfl) rfl ?_
        cases hb32 : (rOK wr rest 1)
        · skip
          refine GL.run (j := 13) 10 [0, 5, 34] [(0, pt p 0), (5, .int .u64 (((getB (rV wr rest 1)) : Nat) : Int)), (34, .bool true)] (by kernel_rfl) rfl ?_
          refine GL.k rfl hK28 (fun _ _ h => h) ?_
          refine G.yes rfl ?_
          refine G.seqK fun K33 hK34 => ?_
          refine G.region ?_
          refine GL.run (j := 1) 1 [35] [(35, pt p 0)] (by kernel_rfl) rfl ?_
          refine GL.call (j := 2) (Fail_calls (ids [.blk p [.slice A5 ((rR wr rest 1).length) c6, .bool (!(rOK wr rest 1))] 107, .row R N C 5 1 (by8 whole)]) p A5 ((rR wr rest 1).length) c6 (!(rOK wr rest 1)) R N C whole w29 (Hp.startL (A := [.blk p [.slice A5 ((rR wr rest 1).length) c6, .bool (!(rOK wr rest 1))] 107, .row R N C 5 1 (by8 whole)]) (B := []) H30)) (by kernel_rfl) rfl (fun e_ w35 hR => ?_)
          obtain ⟨rfl, H37⟩ := hR
          have H36 : Hp w S [.blk p [.slice none 0 0, .bool true] 107, .row R N C 5 1 (by8 whole)] w35 := Hp.callL (A := [.blk p [.slice A5 ((rR wr rest 1).length) c6, .bool (!(rOK wr rest 1))] 107, .row R N C 5 1 (by8 whole)]) (B := []) H30 H37
          refine ⟨_, rfl, [], [], by kernel_rfl, ?_⟩
          refine GL.k rfl hK34 (fun _ _ h => h) ?_
          refine G.seqK fun K38 hK39 => ?_
          refine G.region ?_
          refine GL.run (j := 1) 1 [4] [(4, .int .u64 0)] (by kernel_rfl) rfl ?_
          refine GL.k rfl hK39 (fun _ _ h => h) ?_
          refine G.ret ?_
          intro F_ hF_ hM_
          refine hRet _ _ (bodyPost_1 rfl (RV.tmp rfl) ?_ F_ hF_ hM_)
          have hn : ctN wr rest = 0 := by unfold ctN; (repeat' split) <;> omega
          obtain ⟨eX, eW, eT⟩ := ct_short hn
          obtain ⟨o1, o2, o3⟩ := ct_bad (most := most) (.inl (by rw [eW, ‹(rOK wr rest 1) = false›]; rfl))
          rw [o1, o2, o3]
          exact ⟨none, 0, rfl, H36, Cut.nil _ _ _, Nat.le_refl _⟩
        · skip
          refine GL.run (j := 5) 2 [0, 1, 5, 24, 25, 26] [(0, pt p 0), (1, .int .u64 (most : Int)), (5, .int .u64 (((getB (rV wr rest 1)) : Nat) : Int)), (24, .bool false), (25, .int .i64 1), (26, .int .u64 (((getB (rV wr rest 1)) : Nat) : Int))] (by kernel_rfl) rfl ?_
          refine GL.call (j := 6) (CountSize_calls (getB (rV wr rest 1)) w29) (by kernel_rfl) rfl (fun e_ w40 hR => ?_)
          obtain ⟨rfl, H42⟩ := hR
          have H41 : Hp w S [.blk p [.slice A5 ((rR wr rest 1).length) c6, .bool (!(rOK wr rest 1))] 107, .row R N C 5 1 (by8 whole)] w40 := H30.callNil H42
          refine ⟨_, rfl, [0, 1, 5, 24, 25, 27], [(0, pt p 0), (1, .int .u64 (most : Int)), (5, .int .u64 (((getB (rV wr rest 1)) : Nat) : Int)), (24, .bool false), (25, .int .i64 1), (27, .int .i64 (((cntSz (getB (rV wr rest 1))) : Nat) : Int))], by kernel_rfl, ?_⟩
          refine GL.run (j := 9) 3 [0, 1, 5, 30] [(0, pt p 0), (1, .int .u64 (most : Int)), (5, .int .u64 (((getB (rV wr rest 1)) : Nat) : Int)), (30, .bool ((1 : Int) != (((cntSz (getB (rV wr rest 1))) : Nat) : Int)))] (by kernel_rfl) rfl ?_
          cases hb43 : ((1 : Int) != (((cntSz (getB (rV wr rest 1))) : Nat) : Int))
          · skip
            have hb43f : (1 : Int) = (((cntSz (getB (rV wr rest 1))) : Nat) : Int) := bne_eq_false_iff_eq.1 hb43
            refine GL.run (j := 13) 4 [0, 5, 34] [(0, pt p 0), (5, .int .u64 (((getB (rV wr rest 1)) : Nat) : Int)), (34, .bool (decide ((most : Int) < (((getB (rV wr rest 1)) : Nat) : Int))))] (by kernel_rfl) rfl ?_
            refine GL.k rfl hK28 (fun _ _ h => h) ?_
            cases hb44 : (decide ((most : Int) < (((getB (rV wr rest 1)) : Nat) : Int)))
            · skip
              have hb44f := of_decide_eq_false hb44
              refine G.no rfl ?_
              refine G.skipK hK26 (fun _ _ h => h) ?_
              refine G.seqK fun K45 hK46 => ?_
              refine G.region ?_
              refine GL.run (j := 2) 2 [4] [(4, .int .u64 (((getB (rV wr rest 1)) : Nat) : Int))] (by kernel_rfl) rfl ?_
              refine GL.k rfl hK46 (fun _ _ h => h) ?_
              refine G.ret ?_
              intro F_ hF_ hM_
              refine hRet _ _ (bodyPost_1 rfl (RV.tmp rfl) ?_ F_ hF_ hM_)
              have hn : ctN wr rest = 0 := by unfold ctN; (repeat' split) <;> omega
              obtain ⟨eX, eW, eT⟩ := ct_short hn
              obtain ⟨o1, o2, o3⟩ := ct_ok (most := most) (by rw [eW, ‹(rOK wr rest 1) = true›]; rfl) (by rw [eX, hn]; omega) (by rw [eX]; omega)
              rw [o1, o2, o3, eX, eT]
              have HF := H41
              rw [‹(rOK wr rest 1) = true›] at HF
              exact ⟨_, _, rfl, HF, hC7, hL8⟩
            · skip
              have hb44f := of_decide_eq_true hb44
              refine G.yes rfl ?_
              refine G.seqK fun K47 hK48 => ?_
              refine G.region ?_
              refine GL.run (j := 1) 1 [35] [(35, pt p 0)] (by kernel_rfl) rfl ?_
              refine GL.call (j := 2) (Fail_calls (ids [.blk p [.slice A5 ((rR wr rest 1).length) c6, .bool (!(rOK wr rest 1))] 107, .row R N C 5 1 (by8 whole)]) p A5 ((rR wr rest 1).length) c6 (!(rOK wr rest 1)) R N C whole w40 (Hp.startL (A := [.blk p [.slice A5 ((rR wr rest 1).length) c6, .bool (!(rOK wr rest 1))] 107, .row R N C 5 1 (by8 whole)]) (B := []) H41)) (by kernel_rfl) rfl (fun e_ w49 hR => ?_)
              obtain ⟨rfl, H51⟩ := hR
              have H50 : Hp w S [.blk p [.slice none 0 0, .bool true] 107, .row R N C 5 1 (by8 whole)] w49 := Hp.callL (A := [.blk p [.slice A5 ((rR wr rest 1).length) c6, .bool (!(rOK wr rest 1))] 107, .row R N C 5 1 (by8 whole)]) (B := []) H41 H51
              refine ⟨_, rfl, [], [], by kernel_rfl, ?_⟩
              refine GL.k rfl hK48 (fun _ _ h => h) ?_
              refine G.seqK fun K52 hK53 => ?_
              refine G.region ?_
              refine GL.run (j := 1) 1 [4] [(4, .int .u64 0)] (by kernel_rfl) rfl ?_
              refine GL.k rfl hK53 (fun _ _ h => h) ?_
              refine G.ret ?_
              intro F_ hF_ hM_
              refine hRet _ _ (bodyPost_1 rfl (RV.tmp rfl) ?_ F_ hF_ hM_)
              have hn : ctN wr rest = 0 := by unfold ctN; (repeat' split) <;> omega
              obtain ⟨eX, eW, eT⟩ := ct_short hn
              obtain ⟨o1, o2, o3⟩ := ct_bad (wr := wr) (rest := rest) (most := most) (.inr (.inr (by rw [eX]; omega)))
              rw [o1, o2, o3]
              exact ⟨none, 0, rfl, H50, Cut.nil _ _ _, Nat.le_refl _⟩
          · skip
            have hb43f : (1 : Int) ≠ (((cntSz (getB (rV wr rest 1))) : Nat) : Int) := bne_iff_ne.1 hb43
            refine GL.run (j := 13) 4 [0, 5, 34] [(0, pt p 0), (5, .int .u64 (((getB (rV wr rest 1)) : Nat) : Int)), (34, .bool true)] (by kernel_rfl) rfl ?_
            refine GL.k rfl hK28 (fun _ _ h => h) ?_
            refine G.yes rfl ?_
            refine G.seqK fun K54 hK55 => ?_
            refine G.region ?_
            refine GL.run (j := 1) 1 [35] [(35, pt p 0)] (by kernel_rfl) rfl ?_
            refine GL.call (j := 2) (Fail_calls (ids [.blk p [.slice A5 ((rR wr rest 1).length) c6, .bool (!(rOK wr rest 1))] 107, .row R N C 5 1 (by8 whole)]) p A5 ((rR wr rest 1).length) c6 (!(rOK wr rest 1)) R N C whole w40 (Hp.startL (A := [.blk p [.slice A5 ((rR wr rest 1).length) c6, .bool (!(rOK wr rest 1))] 107, .row R N C 5 1 (by8 whole)]) (B := []) H41)) (by kernel_rfl) rfl (fun e_ w56 hR => ?_)
            obtain ⟨rfl, H58⟩ := hR
            have H57 : Hp w S [.blk p [.slice none 0 0, .bool true] 107, .row R N C 5 1 (by8 whole)] w56 := Hp.callL (A := [.blk p [.slice A5 ((rR wr rest 1).length) c6, .bool (!(rOK wr rest 1))] 107, .row R N C 5 1 (by8 whole)]) (B := []) H41 H58
            refine ⟨_, rfl, [], [], by kernel_rfl, ?_⟩
            refine GL.k rfl hK55 (fun _ _ h => h) ?_
            refine G.seqK fun K59 hK60 => ?_
            refine G.region ?_
            refine GL.run (j := 1) 1 [4] [(4, .int .u64 0)] (by kernel_rfl) rfl ?_
            refine GL.k rfl hK60 (fun _ _ h => h) ?_
            refine G.ret ?_
            intro F_ hF_ hM_
            refine hRet _ _ (bodyPost_1 rfl (RV.tmp rfl) ?_ F_ hF_ hM_)
            have hn : ctN wr rest = 0 := by unfold ctN; (repeat' split) <;> omega
            obtain ⟨eX, eW, eT⟩ := ct_short hn
            obtain ⟨o1, o2, o3⟩ := ct_bad (wr := wr) (rest := rest) (most := most) (.inr (.inl (by rw [eX, hn]; omega)))
            rw [o1, o2, o3]
            exact ⟨none, 0, rfl, H57, Cut.nil _ _ _, Nat.le_refl _⟩
      · skip
        have hb24f := eq_of_beq hb24
        refine G.yes rfl ?_
        refine G.region ?_
        refine GL.run (j := 1) 1 [0, 1, 20] [(0, pt p 0), (1, .int .u64 (most : Int)), (20, pt p 0)] (by kernel_rfl) rfl ?_
        refine GL.call (j := 2) (Get8_calls (ids [.blk p [.slice A5 ((rR wr rest 1).length) c6, .bool (!(rOK wr rest 1))] 107, .row R N C 5 1 (by8 whole)]) p A5 ((rR wr rest 1).length) c6 (!(rOK wr rest 1)) R N C whole (rR wr rest 1) w9 (Hp.startL (A := [.blk p [.slice A5 ((rR wr rest 1).length) c6, .bool (!(rOK wr rest 1))] 107, .row R N C 5 1 (by8 whole)]) (B := []) H10) hC7 (rfl) (hL8) ((Nat.le_trans (rR_le _ _ _) (hk ▸ hN)))) (by kernel_rfl) rfl (fun e_ w65 hR => ?_)
        obtain ⟨A61, c62, rfl, H67, hC63, hL64⟩ := hR
        have H66 : Hp w S [.blk p [.slice A61 ((rR (!(rOK wr rest 1)) (rR wr rest 1) 8).length) c62, .bool (!(rOK (!(rOK wr rest 1)) (rR wr rest 1) 8))] 107, .row R N C 5 1 (by8 whole)] w65 := Hp.callL (A := [.blk p [.slice A5 ((rR wr rest 1).length) c6, .bool (!(rOK wr rest 1))] 107, .row R N C 5 1 (by8 whole)]) (B := []) H10 H67
        refine ⟨_, rfl, [0, 1, 21], [(0, pt p 0), (1, .int .u64 (most : Int)), (21, .int .u64 (((getB (rV (!(rOK wr rest 1)) (rR wr rest 1) 8)) : Nat) : Int))], by kernel_rfl, ?_⟩
        refine GL.run (j := 4) 2 [0, 1, 5, 6] [(0, pt p 0), (1, .int .u64 (most : Int)), (5, .int .u64 (((getB (rV (!(rOK wr rest 1)) (rR wr rest 1) 8)) : Nat) : Int)), (6, .int .i64 9)] (by kernel_rfl) rfl ?_
        refine GL.k rfl hK13 (fun _ _ h => h) ?_
        refine G.seqK fun K68 hK69 => ?_
        refine G.seqK fun K70 hK71 => ?_
        refine G.region ?_
        refine GL.run (j := 1) 1 [0, 1, 5, 6, 22] [(0, pt p 0), (1, .int .u64 (most : Int)), (5, .int .u64 (((getB (rV (!(rOK wr rest 1)) (rR wr rest 1) 8)) : Nat) : Int)), (6, .int .i64 9), (22, pt p 0)] (by kernel_rfl) rfl ?_
        refine GL.call (j := 2) (Wrong_calls (ids [.blk p [.slice A61 ((rR (!(rOK wr rest 1)) (rR wr rest 1) 8).length) c62, .bool (!(rOK (!(rOK wr rest 1)) (rR wr rest 1) 8))] 107, .row R N C 5 1 (by8 whole)]) p A61 ((rR (!(rOK wr rest 1)) (rR wr rest 1) 8).length) c62 (!(rOK (!(rOK wr rest 1)) (rR wr rest 1) 8)) R N C whole w65 (Hp.startL (A := [.blk p [.slice A61 ((rR (!(rOK wr rest 1)) (rR wr rest 1) 8).length) c62, .bool (!(rOK (!(rOK wr rest 1)) (rR wr rest 1) 8))] 107, .row R N C 5 1 (by8 whole)]) (B := []) H66)) (by kernel_rfl) rfl (fun e_ w72 hR => ?_)
        obtain ⟨rfl, H74⟩ := hR
        have H73 : Hp w S [.blk p [.slice A61 ((rR (!(rOK wr rest 1)) (rR wr rest 1) 8).length) c62, .bool (!(rOK (!(rOK wr rest 1)) (rR wr rest 1) 8))] 107, .row R N C 5 1 (by8 whole)] w72 := Hp.callL (A := [.blk p [.slice A61 ((rR (!(rOK wr rest 1)) (rR wr rest 1) 8).length) c62, .bool (!(rOK (!(rOK wr rest 1)) (rR wr rest 1) 8))] 107, .row R N C 5 1 (by8 whole)]) (B := []) H66 H74
        refine ⟨_, rfl, [0, 1, 5, 6, 23], [(0, pt p 0), (1, .int .u64 (most : Int)), (5, .int .u64 (((getB (rV (!(rOK wr rest 1)) (rR wr rest 1) 8)) : Nat) : Int)), (6, .int .i64 9), (23, .bool (!(rOK (!(rOK wr rest 1)) (rR wr rest 1) 8)))], by kernel_rfl, ?_⟩
        refine GL.run (j := 3) 1 [0, 1, 5, 6, 24] [(0, pt p 0), (1, .int .u64 (most : Int)), (5, .int .u64 (((getB (rV (!(rOK wr rest 1)) (rR wr rest 1) 8)) : Nat) : Int)), (6, .int .i64 9), (24, .bool (!(rOK (!(rOK wr rest 1)) (rR wr rest 1) 8)))] (by kernel_rfl) rfl ?_
        cases hb75 : (rOK (!(rOK wr rest 1)) (rR wr rest 1) 8)
        · skip
          refine GL.run (j := 13) 10 [0, 5, 34] [(0, pt p 0), (5, .int .u64 (((getB (rV (!(rOK wr rest 1)) (rR wr rest 1) 8)) : Nat) : Int)), (34, .bool true)] (by kernel_rfl) rfl ?_
          refine GL.k rfl hK71 (fun _ _ h => h) ?_
          refine G.yes rfl ?_
          refine G.seqK fun K76 hK77 => ?_
          refine G.region ?_
          refine GL.run (j := 1) 1 [35] [(35, pt p 0)] (by kernel_rfl) rfl ?_
          refine GL.call (j := 2) (Fail_calls (ids [.blk p [.slice A61 ((rR (!(rOK wr rest 1)) (rR wr rest 1) 8).length) c62, .bool (!(rOK (!(rOK wr rest 1)) (rR wr rest 1) 8))] 107, .row R N C 5 1 (by8 whole)]) p A61 ((rR (!(rOK wr rest 1)) (rR wr rest 1) 8).length) c62 (!(rOK (!(rOK wr rest 1)) (rR wr rest 1) 8)) R N C whole w72 (Hp.startL (A := [.blk p [.slice A61 ((rR (!(rOK wr rest 1)) (rR wr rest 1) 8).length) c62, .bool (!(rOK (!(rOK wr rest 1)) (rR wr rest 1) 8))] 107, .row R N C 5 1 (by8 whole)]) (B := []) H73)) (by kernel_rfl) rfl (fun e_ w78 hR => ?_)
          obtain ⟨rfl, H80⟩ := hR
          have H79 : Hp w S [.blk p [.slice none 0 0, .bool true] 107, .row R N C 5 1 (by8 whole)] w78 := Hp.callL (A := [.blk p [.slice A61 ((rR (!(rOK wr rest 1)) (rR wr rest 1) 8).length) c62, .bool (!(rOK (!(rOK wr rest 1)) (rR wr rest 1) 8))] 107, .row R N C 5 1 (by8 whole)]) (B := []) H73 H80
          refine ⟨_, rfl, [], [], by kernel_rfl, ?_⟩
          refine GL.k rfl hK77 (fun _ _ h => h) ?_
          refine G.seqK fun K81 hK82 => ?_
          refine G.region ?_
          refine GL.run (j := 1) 1 [4] [(4, .int .u64 0)] (by kernel_rfl) rfl ?_
          refine GL.k rfl hK82 (fun _ _ h => h) ?_
          refine G.ret ?_
          intro F_ hF_ hM_
          refine hRet _ _ (bodyPost_1 rfl (RV.tmp rfl) ?_ F_ hF_ hM_)
          have hn : ctN wr rest = 8 := by unfold ctN; (repeat' split) <;> omega
          obtain ⟨eX, eW, eT⟩ := ct_long hn (by decide)
          obtain ⟨o1, o2, o3⟩ := ct_bad (most := most) (.inl (by rw [eW, ‹(rOK (!(rOK wr rest 1)) (rR wr rest 1) 8) = false›]; rfl))
          rw [o1, o2, o3]
          exact ⟨none, 0, rfl, H79, Cut.nil _ _ _, Nat.le_refl _⟩
        · skip
          refine GL.run (j := 5) 2 [0, 1, 5, 24, 25, 26] [(0, pt p 0), (1, .int .u64 (most : Int)), (5, .int .u64 (((getB (rV (!(rOK wr rest 1)) (rR wr rest 1) 8)) : Nat) : Int)), (24, .bool false), (25, .int .i64 9), (26, .int .u64 (((getB (rV (!(rOK wr rest 1)) (rR wr rest 1) 8)) : Nat) : Int))] (by kernel_rfl) rfl ?_
          refine GL.call (j := 6) (CountSize_calls (getB (rV (!(rOK wr rest 1)) (rR wr rest 1) 8)) w72) (by kernel_rfl) rfl (fun e_ w83 hR => ?_)
          obtain ⟨rfl, H85⟩ := hR
          have H84 : Hp w S [.blk p [.slice A61 ((rR (!(rOK wr rest 1)) (rR wr rest 1) 8).length) c62, .bool (!(rOK (!(rOK wr rest 1)) (rR wr rest 1) 8))] 107, .row R N C 5 1 (by8 whole)] w83 := H73.callNil H85
          refine ⟨_, rfl, [0, 1, 5, 24, 25, 27], [(0, pt p 0), (1, .int .u64 (most : Int)), (5, .int .u64 (((getB (rV (!(rOK wr rest 1)) (rR wr rest 1) 8)) : Nat) : Int)), (24, .bool false), (25, .int .i64 9), (27, .int .i64 (((cntSz (getB (rV (!(rOK wr rest 1)) (rR wr rest 1) 8))) : Nat) : Int))], by kernel_rfl, ?_⟩
          refine GL.run (j := 9) 3 [0, 1, 5, 30] [(0, pt p 0), (1, .int .u64 (most : Int)), (5, .int .u64 (((getB (rV (!(rOK wr rest 1)) (rR wr rest 1) 8)) : Nat) : Int)), (30, .bool ((9 : Int) != (((cntSz (getB (rV (!(rOK wr rest 1)) (rR wr rest 1) 8))) : Nat) : Int)))] (by kernel_rfl) rfl ?_
          cases hb86 : ((9 : Int) != (((cntSz (getB (rV (!(rOK wr rest 1)) (rR wr rest 1) 8))) : Nat) : Int))
          · skip
            have hb86f : (9 : Int) = (((cntSz (getB (rV (!(rOK wr rest 1)) (rR wr rest 1) 8))) : Nat) : Int) := bne_eq_false_iff_eq.1 hb86
            refine GL.run (j := 13) 4 [0, 5, 34] [(0, pt p 0), (5, .int .u64 (((getB (rV (!(rOK wr rest 1)) (rR wr rest 1) 8)) : Nat) : Int)), (34, .bool (decide ((most : Int) < (((getB (rV (!(rOK wr rest 1)) (rR wr rest 1) 8)) : Nat) : Int))))] (by kernel_rfl) rfl ?_
            refine GL.k rfl hK71 (fun _ _ h => h) ?_
            cases hb87 : (decide ((most : Int) < (((getB (rV (!(rOK wr rest 1)) (rR wr rest 1) 8)) : Nat) : Int)))
            · skip
              have hb87f := of_decide_eq_false hb87
              refine G.no rfl ?_
              refine G.skipK hK69 (fun _ _ h => h) ?_
              refine G.seqK fun K88 hK89 => ?_
              refine G.region ?_
              refine GL.run (j := 2) 2 [4] [(4, .int .u64 (((getB (rV (!(rOK wr rest 1)) (rR wr rest 1) 8)) : Nat) : Int))] (by kernel_rfl) rfl ?_
              refine GL.k rfl hK89 (fun _ _ h => h) ?_
              refine G.ret ?_
              intro F_ hF_ hM_
              refine hRet _ _ (bodyPost_1 rfl (RV.tmp rfl) ?_ F_ hF_ hM_)
              have hn : ctN wr rest = 8 := by unfold ctN; (repeat' split) <;> omega
              obtain ⟨eX, eW, eT⟩ := ct_long hn (by decide)
              obtain ⟨o1, o2, o3⟩ := ct_ok (most := most) (by rw [eW, ‹(rOK (!(rOK wr rest 1)) (rR wr rest 1) 8) = true›]; rfl) (by rw [eX, hn]; omega) (by rw [eX]; omega)
              rw [o1, o2, o3, eX, eT]
              have HF := H84
              rw [‹(rOK (!(rOK wr rest 1)) (rR wr rest 1) 8) = true›] at HF
              exact ⟨_, _, rfl, HF, hC63, hL64⟩
            · skip
              have hb87f := of_decide_eq_true hb87
              refine G.yes rfl ?_
              refine G.seqK fun K90 hK91 => ?_
              refine G.region ?_
              refine GL.run (j := 1) 1 [35] [(35, pt p 0)] (by kernel_rfl) rfl ?_
              refine GL.call (j := 2) (Fail_calls (ids [.blk p [.slice A61 ((rR (!(rOK wr rest 1)) (rR wr rest 1) 8).length) c62, .bool (!(rOK (!(rOK wr rest 1)) (rR wr rest 1) 8))] 107, .row R N C 5 1 (by8 whole)]) p A61 ((rR (!(rOK wr rest 1)) (rR wr rest 1) 8).length) c62 (!(rOK (!(rOK wr rest 1)) (rR wr rest 1) 8)) R N C whole w83 (Hp.startL (A := [.blk p [.slice A61 ((rR (!(rOK wr rest 1)) (rR wr rest 1) 8).length) c62, .bool (!(rOK (!(rOK wr rest 1)) (rR wr rest 1) 8))] 107, .row R N C 5 1 (by8 whole)]) (B := []) H84)) (by kernel_rfl) rfl (fun e_ w92 hR => ?_)
              obtain ⟨rfl, H94⟩ := hR
              have H93 : Hp w S [.blk p [.slice none 0 0, .bool true] 107, .row R N C 5 1 (by8 whole)] w92 := Hp.callL (A := [.blk p [.slice A61 ((rR (!(rOK wr rest 1)) (rR wr rest 1) 8).length) c62, .bool (!(rOK (!(rOK wr rest 1)) (rR wr rest 1) 8))] 107, .row R N C 5 1 (by8 whole)]) (B := []) H84 H94
              refine ⟨_, rfl, [], [], by kernel_rfl, ?_⟩
              refine GL.k rfl hK91 (fun _ _ h => h) ?_
              refine G.seqK fun K95 hK96 => ?_
              refine G.region ?_
              refine GL.run (j := 1) 1 [4] [(4, .int .u64 0)] (by kernel_rfl) rfl ?_
              refine GL.k rfl hK96 (fun _ _ h => h) ?_
              refine G.ret ?_
              intro F_ hF_ hM_
              refine hRet _ _ (bodyPost_1 rfl (RV.tmp rfl) ?_ F_ hF_ hM_)
              have hn : ctN wr rest = 8 := by unfold ctN; (repeat' split) <;> omega
              obtain ⟨eX, eW, eT⟩ := ct_long hn (by decide)
              obtain ⟨o1, o2, o3⟩ := ct_bad (wr := wr) (rest := rest) (most := most) (.inr (.inr (by rw [eX]; omega)))
              rw [o1, o2, o3]
              exact ⟨none, 0, rfl, H93, Cut.nil _ _ _, Nat.le_refl _⟩
          · skip
            have hb86f : (9 : Int) ≠ (((cntSz (getB (rV (!(rOK wr rest 1)) (rR wr rest 1) 8))) : Nat) : Int) := bne_iff_ne.1 hb86
            refine GL.run (j := 13) 4 [0, 5, 34] [(0, pt p 0), (5, .int .u64 (((getB (rV (!(rOK wr rest 1)) (rR wr rest 1) 8)) : Nat) : Int)), (34, .bool true)] (by kernel_rfl) rfl ?_
            refine GL.k rfl hK71 (fun _ _ h => h) ?_
            refine G.yes rfl ?_
            refine G.seqK fun K97 hK98 => ?_
            refine G.region ?_
            refine GL.run (j := 1) 1 [35] [(35, pt p 0)] (by kernel_rfl) rfl ?_
            refine GL.call (j := 2) (Fail_calls (ids [.blk p [.slice A61 ((rR (!(rOK wr rest 1)) (rR wr rest 1) 8).length) c62, .bool (!(rOK (!(rOK wr rest 1)) (rR wr rest 1) 8))] 107, .row R N C 5 1 (by8 whole)]) p A61 ((rR (!(rOK wr rest 1)) (rR wr rest 1) 8).length) c62 (!(rOK (!(rOK wr rest 1)) (rR wr rest 1) 8)) R N C whole w83 (Hp.startL (A := [.blk p [.slice A61 ((rR (!(rOK wr rest 1)) (rR wr rest 1) 8).length) c62, .bool (!(rOK (!(rOK wr rest 1)) (rR wr rest 1) 8))] 107, .row R N C 5 1 (by8 whole)]) (B := []) H84)) (by kernel_rfl) rfl (fun e_ w99 hR => ?_)
            obtain ⟨rfl, H101⟩ := hR
            have H100 : Hp w S [.blk p [.slice none 0 0, .bool true] 107, .row R N C 5 1 (by8 whole)] w99 := Hp.callL (A := [.blk p [.slice A61 ((rR (!(rOK wr rest 1)) (rR wr rest 1) 8).length) c62, .bool (!(rOK (!(rOK wr rest 1)) (rR wr rest 1) 8))] 107, .row R N C 5 1 (by8 whole)]) (B := []) H84 H101
            refine ⟨_, rfl, [], [], by kernel_rfl, ?_⟩
            refine GL.k rfl hK98 (fun _ _ h => h) ?_
            refine G.seqK fun K102 hK103 => ?_
            refine G.region ?_
            refine GL.run (j := 1) 1 [4] [(4, .int .u64 0)] (by kernel_rfl) rfl ?_
            refine GL.k rfl hK103 (fun _ _ h => h) ?_
            refine G.ret ?_
            intro F_ hF_ hM_
            refine hRet _ _ (bodyPost_1 rfl (RV.tmp rfl) ?_ F_ hF_ hM_)
            have hn : ctN wr rest = 8 := by unfold ctN; (repeat' split) <;> omega
            obtain ⟨eX, eW, eT⟩ := ct_long hn (by decide)
            obtain ⟨o1, o2, o3⟩ := ct_bad (wr := wr) (rest := rest) (most := most) (.inr (.inl (by rw [eX, hn]; omega)))
            rw [o1, o2, o3]
            exact ⟨none, 0, rfl, H100, Cut.nil _ _ _, Nat.le_refl _⟩
    · skip
      have hb21f := eq_of_beq hb21
      refine G.yes rfl ?_
      refine G.region ?_
      refine GL.run (j := 1) 1 [0, 1, 16] [(0, pt p 0), (1, .int .u64 (most : Int)), (16, pt p 0)] (by kernel_rfl) rfl ?_
      refine GL.call (j := 2) (Get4_calls (ids [.blk p [.slice A5 ((rR wr rest 1).length) c6, .bool (!(rOK wr rest 1))] 107, .row R N C 5 1 (by8 whole)]) p A5 ((rR wr rest 1).length) c6 (!(rOK wr rest 1)) R N C whole (rR wr rest 1) w9 (Hp.startL (A := [.blk p [.slice A5 ((rR wr rest 1).length) c6, .bool (!(rOK wr rest 1))] 107, .row R N C 5 1 (by8 whole)]) (B := []) H10) hC7 (rfl) (hL8) ((Nat.le_trans (rR_le _ _ _) (hk ▸ hN)))) (by kernel_rfl) rfl (fun e_ w108 hR => ?_)
      obtain ⟨A104, c105, rfl, H110, hC106, hL107⟩ := hR
      have H109 : Hp w S [.blk p [.slice A104 ((rR (!(rOK wr rest 1)) (rR wr rest 1) 4).length) c105, .bool (!(rOK (!(rOK wr rest 1)) (rR wr rest 1) 4))] 107, .row R N C 5 1 (by8 whole)] w108 := Hp.callL (A := [.blk p [.slice A5 ((rR wr rest 1).length) c6, .bool (!(rOK wr rest 1))] 107, .row R N C 5 1 (by8 whole)]) (B := []) H10 H110
      refine ⟨_, rfl, [0, 1, 17], [(0, pt p 0), (1, .int .u64 (most : Int)), (17, .int .u64 (((getB (rV (!(rOK wr rest 1)) (rR wr rest 1) 4)) : Nat) : Int))], by kernel_rfl, ?_⟩
      refine GL.run (j := 4) 2 [0, 1, 5, 6] [(0, pt p 0), (1, .int .u64 (most : Int)), (5, .int .u64 (((getB (rV (!(rOK wr rest 1)) (rR wr rest 1) 4)) : Nat) : Int)), (6, .int .i64 5)] (by kernel_rfl) rfl ?_
      refine GL.k rfl hK13 (fun _ _ h => h) ?_
      refine G.seqK fun K111 hK112 => ?_
      refine G.seqK fun K113 hK114 => ?_
      refine G.region ?_
      refine GL.run (j := 1) 1 [0, 1, 5, 6, 22] [(0, pt p 0), (1, .int .u64 (most : Int)), (5, .int .u64 (((getB (rV (!(rOK wr rest 1)) (rR wr rest 1) 4)) : Nat) : Int)), (6, .int .i64 5), (22, pt p 0)] (by kernel_rfl) rfl ?_
      refine GL.call (j := 2) (Wrong_calls (ids [.blk p [.slice A104 ((rR (!(rOK wr rest 1)) (rR wr rest 1) 4).length) c105, .bool (!(rOK (!(rOK wr rest 1)) (rR wr rest 1) 4))] 107, .row R N C 5 1 (by8 whole)]) p A104 ((rR (!(rOK wr rest 1)) (rR wr rest 1) 4).length) c105 (!(rOK (!(rOK wr rest 1)) (rR wr rest 1) 4)) R N C whole w108 (Hp.startL (A := [.blk p [.slice A104 ((rR (!(rOK wr rest 1)) (rR wr rest 1) 4).length) c105, .bool (!(rOK (!(rOK wr rest 1)) (rR wr rest 1) 4))] 107, .row R N C 5 1 (by8 whole)]) (B := []) H109)) (by kernel_rfl) rfl (fun e_ w115 hR => ?_)
      obtain ⟨rfl, H117⟩ := hR
      have H116 : Hp w S [.blk p [.slice A104 ((rR (!(rOK wr rest 1)) (rR wr rest 1) 4).length) c105, .bool (!(rOK (!(rOK wr rest 1)) (rR wr rest 1) 4))] 107, .row R N C 5 1 (by8 whole)] w115 := Hp.callL (A := [.blk p [.slice A104 ((rR (!(rOK wr rest 1)) (rR wr rest 1) 4).length) c105, .bool (!(rOK (!(rOK wr rest 1)) (rR wr rest 1) 4))] 107, .row R N C 5 1 (by8 whole)]) (B := []) H109 H117
      refine ⟨_, rfl, [0, 1, 5, 6, 23], [(0, pt p 0), (1, .int .u64 (most : Int)), (5, .int .u64 (((getB (rV (!(rOK wr rest 1)) (rR wr rest 1) 4)) : Nat) : Int)), (6, .int .i64 5), (23, .bool (!(rOK (!(rOK wr rest 1)) (rR wr rest 1) 4)))], by kernel_rfl, ?_⟩
      refine GL.run (j := 3) 1 [0, 1, 5, 6, 24] [(0, pt p 0), (1, .int .u64 (most : Int)), (5, .int .u64 (((getB (rV (!(rOK wr rest 1)) (rR wr rest 1) 4)) : Nat) : Int)), (6, .int .i64 5), (24, .bool (!(rOK (!(rOK wr rest 1)) (rR wr rest 1) 4)))] (by kernel_rfl) rfl ?_
      cases hb118 : (rOK (!(rOK wr rest 1)) (rR wr rest 1) 4)
      · skip
        refine GL.run (j := 13) 10 [0, 5, 34] [(0, pt p 0), (5, .int .u64 (((getB (rV (!(rOK wr rest 1)) (rR wr rest 1) 4)) : Nat) : Int)), (34, .bool true)] (by kernel_rfl) rfl ?_
        refine GL.k rfl hK114 (fun _ _ h => h) ?_
        refine G.yes rfl ?_
        refine G.seqK fun K119 hK120 => ?_
        refine G.region ?_
        refine GL.run (j := 1) 1 [35] [(35, pt p 0)] (by kernel_rfl) rfl ?_
        refine GL.call (j := 2) (Fail_calls (ids [.blk p [.slice A104 ((rR (!(rOK wr rest 1)) (rR wr rest 1) 4).length) c105, .bool (!(rOK (!(rOK wr rest 1)) (rR wr rest 1) 4))] 107, .row R N C 5 1 (by8 whole)]) p A104 ((rR (!(rOK wr rest 1)) (rR wr rest 1) 4).length) c105 (!(rOK (!(rOK wr rest 1)) (rR wr rest 1) 4)) R N C whole w115 (Hp.startL (A := [.blk p [.slice A104 ((rR (!(rOK wr rest 1)) (rR wr rest 1) 4).length) c105, .bool (!(rOK (!(rOK wr rest 1)) (rR wr rest 1) 4))] 107, .row R N C 5 1 (by8 whole)]) (B := []) H116)) (by kernel_rfl) rfl (fun e_ w121 hR => ?_)
        obtain ⟨rfl, H123⟩ := hR
        have H122 : Hp w S [.blk p [.slice none 0 0, .bool true] 107, .row R N C 5 1 (by8 whole)] w121 := Hp.callL (A := [.blk p [.slice A104 ((rR (!(rOK wr rest 1)) (rR wr rest 1) 4).length) c105, .bool (!(rOK (!(rOK wr rest 1)) (rR wr rest 1) 4))] 107, .row R N C 5 1 (by8 whole)]) (B := []) H116 H123
        refine ⟨_, rfl, [], [], by kernel_rfl, ?_⟩
        refine GL.k rfl hK120 (fun _ _ h => h) ?_
        refine G.seqK fun K124 hK125 => ?_
        refine G.region ?_
        refine GL.run (j := 1) 1 [4] [(4, .int .u64 0)] (by kernel_rfl) rfl ?_
        refine GL.k rfl hK125 (fun _ _ h => h) ?_
        refine G.ret ?_
        intro F_ hF_ hM_
        refine hRet _ _ (bodyPost_1 rfl (RV.tmp rfl) ?_ F_ hF_ hM_)
        have hn : ctN wr rest = 4 := by unfold ctN; (repeat' split) <;> omega
        obtain ⟨eX, eW, eT⟩ := ct_long hn (by decide)
        obtain ⟨o1, o2, o3⟩ := ct_bad (most := most) (.inl (by rw [eW, ‹(rOK (!(rOK wr rest 1)) (rR wr rest 1) 4) = false›]; rfl))
        rw [o1, o2, o3]
        exact ⟨none, 0, rfl, H122, Cut.nil _ _ _, Nat.le_refl _⟩
      · skip
        refine GL.run (j := 5) 2 [0, 1, 5, 24, 25, 26] [(0, pt p 0), (1, .int .u64 (most : Int)), (5, .int .u64 (((getB (rV (!(rOK wr rest 1)) (rR wr rest 1) 4)) : Nat) : Int)), (24, .bool false), (25, .int .i64 5), (26, .int .u64 (((getB (rV (!(rOK wr rest 1)) (rR wr rest 1) 4)) : Nat) : Int))] (by kernel_rfl) rfl ?_
        refine GL.call (j := 6) (CountSize_calls (getB (rV (!(rOK wr rest 1)) (rR wr rest 1) 4)) w115) (by kernel_rfl) rfl (fun e_ w126 hR => ?_)
        obtain ⟨rfl, H128⟩ := hR
        have H127 : Hp w S [.blk p [.slice A104 ((rR (!(rOK wr rest 1)) (rR wr rest 1) 4).length) c105, .bool (!(rOK (!(rOK wr rest 1)) (rR wr rest 1) 4))] 107, .row R N C 5 1 (by8 whole)] w126 := H116.callNil H128
        refine ⟨_, rfl, [0, 1, 5, 24, 25, 27], [(0, pt p 0), (1, .int .u64 (most : Int)), (5, .int .u64 (((getB (rV (!(rOK wr rest 1)) (rR wr rest 1) 4)) : Nat) : Int)), (24, .bool false), (25, .int .i64 5), (27, .int .i64 (((cntSz (getB (rV (!(rOK wr rest 1)) (rR wr rest 1) 4))) : Nat) : Int))], by kernel_rfl, ?_⟩
        refine GL.run (j := 9) 3 [0, 1, 5, 30] [(0, pt p 0), (1, .int .u64 (most : Int)), (5, .int .u64 (((getB (rV (!(rOK wr rest 1)) (rR wr rest 1) 4)) : Nat) : Int)), (30, .bool ((5 : Int) != (((cntSz (getB (rV (!(rOK wr rest 1)) (rR wr rest 1) 4))) : Nat) : Int)))] (by kernel_rfl) rfl ?_
        cases hb129 : ((5 : Int) != (((cntSz (getB (rV (!(rOK wr rest 1)) (rR wr rest 1) 4))) : Nat) : Int))
        · skip
          have hb129f : (5 : Int) = (((cntSz (getB (rV (!(rOK wr rest 1)) (rR wr rest 1) 4))) : Nat) : Int) := bne_eq_false_iff_eq.1 hb129
          refine GL.run (j := 13) 4 [0, 5, 34] [(0, pt p 0), (5, .int .u64 (((getB (rV (!(rOK wr rest 1)) (rR wr rest 1) 4)) : Nat) : Int)), (34, .bool (decide ((most : Int) < (((getB (rV (!(rOK wr rest 1)) (rR wr rest 1) 4)) : Nat) : Int))))] (by kernel_rfl) rfl ?_
          refine GL.k rfl hK114 (fun _ _ h => h) ?_
          cases hb130 : (decide ((most : Int) < (((getB (rV (!(rOK wr rest 1)) (rR wr rest 1) 4)) : Nat) : Int)))
          · skip
            have hb130f := of_decide_eq_false hb130
            refine G.no rfl ?_
            refine G.skipK hK112 (fun _ _ h => h) ?_
            refine G.seqK fun K131 hK132 => ?_
            refine G.region ?_
            refine GL.run (j := 2) 2 [4] [(4, .int .u64 (((getB (rV (!(rOK wr rest 1)) (rR wr rest 1) 4)) : Nat) : Int))] (by kernel_rfl) rfl ?_
            refine GL.k rfl hK132 (fun _ _ h => h) ?_
            refine G.ret ?_
            intro F_ hF_ hM_
            refine hRet _ _ (bodyPost_1 rfl (RV.tmp rfl) ?_ F_ hF_ hM_)
            have hn : ctN wr rest = 4 := by unfold ctN; (repeat' split) <;> omega
            obtain ⟨eX, eW, eT⟩ := ct_long hn (by decide)
            obtain ⟨o1, o2, o3⟩ := ct_ok (most := most) (by rw [eW, ‹(rOK (!(rOK wr rest 1)) (rR wr rest 1) 4) = true›]; rfl) (by rw [eX, hn]; omega) (by rw [eX]; omega)
            rw [o1, o2, o3, eX, eT]
            have HF := H127
            rw [‹(rOK (!(rOK wr rest 1)) (rR wr rest 1) 4) = true›] at HF
            exact ⟨_, _, rfl, HF, hC106, hL107⟩
          · skip
            have hb130f := of_decide_eq_true hb130
            refine G.yes rfl ?_
            refine G.seqK fun K133 hK134 => ?_
            refine G.region ?_
            refine GL.run (j := 1) 1 [35] [(35, pt p 0)] (by kernel_rfl) rfl ?_
            refine GL.call (j := 2) (Fail_calls (ids [.blk p [.slice A104 ((rR (!(rOK wr rest 1)) (rR wr rest 1) 4).length) c105, .bool (!(rOK (!(rOK wr rest 1)) (rR wr rest 1) 4))] 107, .row R N C 5 1 (by8 whole)]) p A104 ((rR (!(rOK wr rest 1)) (rR wr rest 1) 4).length) c105 (!(rOK (!(rOK wr rest 1)) (rR wr rest 1) 4)) R N C whole w126 (Hp.startL (A := [.blk p [.slice A104 ((rR (!(rOK wr rest 1)) (rR wr rest 1) 4).length) c105, .bool (!(rOK (!(rOK wr rest 1)) (rR wr rest 1) 4))] 107, .row R N C 5 1 (by8 whole)]) (B := []) H127)) (by kernel_rfl) rfl (fun e_ w135 hR => ?_)
            obtain ⟨rfl, H137⟩ := hR
            have H136 : Hp w S [.blk p [.slice none 0 0, .bool true] 107, .row R N C 5 1 (by8 whole)] w135 := Hp.callL (A := [.blk p [.slice A104 ((rR (!(rOK wr rest 1)) (rR wr rest 1) 4).length) c105, .bool (!(rOK (!(rOK wr rest 1)) (rR wr rest 1) 4))] 107, .row R N C 5 1 (by8 whole)]) (B := []) H127 H137
            refine ⟨_, rfl, [], [], by kernel_rfl, ?_⟩
            refine GL.k rfl hK134 (fun _ _ h => h) ?_
            refine G.seqK fun K138 hK139 => ?_
            refine G.region ?_
            refine GL.run (j := 1) 1 [4] [(4, .int .u64 0)] (by kernel_rfl) rfl ?_
            refine GL.k rfl hK139 (fun _ _ h => h) ?_
            refine G.ret ?_
            intro F_ hF_ hM_
            refine hRet _ _ (bodyPost_1 rfl (RV.tmp rfl) ?_ F_ hF_ hM_)
            have hn : ctN wr rest = 4 := by unfold ctN; (repeat' split) <;> omega
            obtain ⟨eX, eW, eT⟩ := ct_long hn (by decide)
            obtain ⟨o1, o2, o3⟩ := ct_bad (wr := wr) (rest := rest) (most := most) (.inr (.inr (by rw [eX]; omega)))
            rw [o1, o2, o3]
            exact ⟨none, 0, rfl, H136, Cut.nil _ _ _, Nat.le_refl _⟩
        · skip
          have hb129f : (5 : Int) ≠ (((cntSz (getB (rV (!(rOK wr rest 1)) (rR wr rest 1) 4))) : Nat) : Int) := bne_iff_ne.1 hb129
          refine GL.run (j := 13) 4 [0, 5, 34] [(0, pt p 0), (5, .int .u64 (((getB (rV (!(rOK wr rest 1)) (rR wr rest 1) 4)) : Nat) : Int)), (34, .bool true)] (by kernel_rfl) rfl ?_
          refine GL.k rfl hK114 (fun _ _ h => h) ?_
          refine G.yes rfl ?_
          refine G.seqK fun K140 hK141 => ?_
          refine G.region ?_
          refine GL.run (j := 1) 1 [35] [(35, pt p 0)] (by kernel_rfl) rfl ?_
          refine GL.call (j := 2) (Fail_calls (ids [.blk p [.slice A104 ((rR (!(rOK wr rest 1)) (rR wr rest 1) 4).length) c105, .bool (!(rOK (!(rOK wr rest 1)) (rR wr rest 1) 4))] 107, .row R N C 5 1 (by8 whole)]) p A104 ((rR (!(rOK wr rest 1)) (rR wr rest 1) 4).length) c105 (!(rOK (!(rOK wr rest 1)) (rR wr rest 1) 4)) R N C whole w126 (Hp.startL (A := [.blk p [.slice A104 ((rR (!(rOK wr rest 1)) (rR wr rest 1) 4).length) c105, .bool (!(rOK (!(rOK wr rest 1)) (rR wr rest 1) 4))] 107, .row R N C 5 1 (by8 whole)]) (B := []) H127)) (by kernel_rfl) rfl (fun e_ w142 hR => ?_)
          obtain ⟨rfl, H144⟩ := hR
          have H143 : Hp w S [.blk p [.slice none 0 0, .bool true] 107, .row R N C 5 1 (by8 whole)] w142 := Hp.callL (A := [.blk p [.slice A104 ((rR (!(rOK wr rest 1)) (rR wr rest 1) 4).length) c105, .bool (!(rOK (!(rOK wr rest 1)) (rR wr rest 1) 4))] 107, .row R N C 5 1 (by8 whole)]) (B := []) H127 H144
          refine ⟨_, rfl, [], [], by kernel_rfl, ?_⟩
          refine GL.k rfl hK141 (fun _ _ h => h) ?_
          refine G.seqK fun K145 hK146 => ?_
          refine G.region ?_
          refine GL.run (j := 1) 1 [4] [(4, .int .u64 0)] (by kernel_rfl) rfl ?_
          refine GL.k rfl hK146 (fun _ _ h => h) ?_
          refine G.ret ?_
          intro F_ hF_ hM_
          refine hRet _ _ (bodyPost_1 rfl (RV.tmp rfl) ?_ F_ hF_ hM_)
          have hn : ctN wr rest = 4 := by unfold ctN; (repeat' split) <;> omega
          obtain ⟨eX, eW, eT⟩ := ct_long hn (by decide)
          obtain ⟨o1, o2, o3⟩ := ct_bad (wr := wr) (rest := rest) (most := most) (.inr (.inl (by rw [eX, hn]; omega)))
          rw [o1, o2, o3]
          exact ⟨none, 0, rfl, H143, Cut.nil _ _ _, Nat.le_refl _⟩
  · skip
    have hb18f := eq_of_beq hb18
    refine G.yes rfl ?_
    refine G.region ?_
    refine GL.run (j := 1) 1 [0, 1, 12] [(0, pt p 0), (1, .int .u64 (most : Int)), (12, pt p 0)] (by kernel_rfl) rfl ?_
    refine GL.call (j := 2) (Get2_calls (ids [.blk p [.slice A5 ((rR wr rest 1).length) c6, .bool (!(rOK wr rest 1))] 107, .row R N C 5 1 (by8 whole)]) p A5 ((rR wr rest 1).length) c6 (!(rOK wr rest 1)) R N C whole (rR wr rest 1) w9 (Hp.startL (A := [.blk p [.slice A5 ((rR wr rest 1).length) c6, .bool (!(rOK wr rest 1))] 107, .row R N C 5 1 (by8 whole)]) (B := []) H10) hC7 (rfl) (hL8) ((Nat.le_trans (rR_le _ _ _) (hk ▸ hN)))) (by kernel_rfl) rfl (fun e_ w151 hR => ?_)
    obtain ⟨A147, c148, rfl, H153, hC149, hL150⟩ := hR
    have H152 : Hp w S [.blk p [.slice A147 ((rR (!(rOK wr rest 1)) (rR wr rest 1) 2).length) c148, .bool (!(rOK (!(rOK wr rest 1)) (rR wr rest 1) 2))] 107, .row R N C 5 1 (by8 whole)] w151 := Hp.callL (A := [.blk p [.slice A5 ((rR wr rest 1).length) c6, .bool (!(rOK wr rest 1))] 107, .row R N C 5 1 (by8 whole)]) (B := []) H10 H153
    refine ⟨_, rfl, [0, 1, 13], [(0, pt p 0), (1, .int .u64 (most : Int)), (13, .int .u64 (((getB (rV (!(rOK wr rest 1)) (rR wr rest 1) 2)) : Nat) : Int))], by kernel_rfl, ?_⟩
    refine GL.run (j := 4) 2 [0, 1, 5, 6] [(0, pt p 0), (1, .int .u64 (most : Int)), (5, .int .u64 (((getB (rV (!(rOK wr rest 1)) (rR wr rest 1) 2)) : Nat) : Int)), (6, .int .i64 3)] (by kernel_rfl) rfl ?_
    refine GL.k rfl hK13 (fun _ _ h => h) ?_
    refine G.seqK fun K154 hK155 => ?_
    refine G.seqK fun K156 hK157 => ?_
    refine G.region ?_
    refine GL.run (j := 1) 1 [0, 1, 5, 6, 22] [(0, pt p 0), (1, .int .u64 (most : Int)), (5, .int .u64 (((getB (rV (!(rOK wr rest 1)) (rR wr rest 1) 2)) : Nat) : Int)), (6, .int .i64 3), (22, pt p 0)] (by kernel_rfl) rfl ?_
    refine GL.call (j := 2) (Wrong_calls (ids [.blk p [.slice A147 ((rR (!(rOK wr rest 1)) (rR wr rest 1) 2).length) c148, .bool (!(rOK (!(rOK wr rest 1)) (rR wr rest 1) 2))] 107, .row R N C 5 1 (by8 whole)]) p A147 ((rR (!(rOK wr rest 1)) (rR wr rest 1) 2).length) c148 (!(rOK (!(rOK wr rest 1)) (rR wr rest 1) 2)) R N C whole w151 (Hp.startL (A := [.blk p [.slice A147 ((rR (!(rOK wr rest 1)) (rR wr rest 1) 2).length) c148, .bool (!(rOK (!(rOK wr rest 1)) (rR wr rest 1) 2))] 107, .row R N C 5 1 (by8 whole)]) (B := []) H152)) (by kernel_rfl) rfl (fun e_ w158 hR => ?_)
    obtain ⟨rfl, H160⟩ := hR
    have H159 : Hp w S [.blk p [.slice A147 ((rR (!(rOK wr rest 1)) (rR wr rest 1) 2).length) c148, .bool (!(rOK (!(rOK wr rest 1)) (rR wr rest 1) 2))] 107, .row R N C 5 1 (by8 whole)] w158 := Hp.callL (A := [.blk p [.slice A147 ((rR (!(rOK wr rest 1)) (rR wr rest 1) 2).length) c148, .bool (!(rOK (!(rOK wr rest 1)) (rR wr rest 1) 2))] 107, .row R N C 5 1 (by8 whole)]) (B := []) H152 H160
    refine ⟨_, rfl, [0, 1, 5, 6, 23], [(0, pt p 0), (1, .int .u64 (most : Int)), (5, .int .u64 (((getB (rV (!(rOK wr rest 1)) (rR wr rest 1) 2)) : Nat) : Int)), (6, .int .i64 3), (23, .bool (!(rOK (!(rOK wr rest 1)) (rR wr rest 1) 2)))], by kernel_rfl, ?_⟩
    refine GL.run (j := 3) 1 [0, 1, 5, 6, 24] [(0, pt p 0), (1, .int .u64 (most : Int)), (5, .int .u64 (((getB (rV (!(rOK wr rest 1)) (rR wr rest 1) 2)) : Nat) : Int)), (6, .int .i64 3), (24, .bool (!(rOK (!(rOK wr rest 1)) (rR wr rest 1) 2)))] (by kernel_rfl) rfl ?_
    cases hb161 : (rOK (!(rOK wr rest 1)) (rR wr rest 1) 2)
    · skip
      refine GL.run (j := 13) 10 [0, 5, 34] [(0, pt p 0), (5, .int .u64 (((getB (rV (!(rOK wr rest 1)) (rR wr rest 1) 2)) : Nat) : Int)), (34, .bool true)] (by kernel_rfl) rfl ?_
      refine GL.k rfl hK157 (fun _ _ h => h) ?_
      refine G.yes rfl ?_
      refine G.seqK fun K162 hK163 => ?_
      refine G.region ?_
      refine GL.run (j := 1) 1 [35] [(35, pt p 0)] (by kernel_rfl) rfl ?_
      refine GL.call (j := 2) (Fail_calls (ids [.blk p [.slice A147 ((rR (!(rOK wr rest 1)) (rR wr rest 1) 2).length) c148, .bool (!(rOK (!(rOK wr rest 1)) (rR wr rest 1) 2))] 107, .row R N C 5 1 (by8 whole)]) p A147 ((rR (!(rOK wr rest 1)) (rR wr rest 1) 2).length) c148 (!(rOK (!(rOK wr rest 1)) (rR wr rest 1) 2)) R N C whole w158 (Hp.startL (A := [.blk p [.slice A147 ((rR (!(rOK wr rest 1)) (rR wr rest 1) 2).length) c148, .bool (!(rOK (!(rOK wr rest 1)) (rR wr rest 1) 2))] 107, .row R N C 5 1 (by8 whole)]) (B := []) H159)) (by kernel_rfl) rfl (fun e_ w164 hR => ?_)
      obtain ⟨rfl, H166⟩ := hR
      have H165 : Hp w S [.blk p [.slice none 0 0, .bool true] 107, .row R N C 5 1 (by8 whole)] w164 := Hp.callL (A := [.blk p [.slice A147 ((rR (!(rOK wr rest 1)) (rR wr rest 1) 2).length) c148, .bool (!(rOK (!(rOK wr rest 1)) (rR wr rest 1) 2))] 107, .row R N C 5 1 (by8 whole)]) (B := []) H159 H166
      refine ⟨_, rfl, [], [], by kernel_rfl, ?_⟩
      refine GL.k rfl hK163 (fun _ _ h => h) ?_
      refine G.seqK fun K167 hK168 => ?_
      refine G.region ?_
      refine GL.run (j := 1) 1 [4] [(4, .int .u64 0)] (by kernel_rfl) rfl ?_
      refine GL.k rfl hK168 (fun _ _ h => h) ?_
      refine G.ret ?_
      intro F_ hF_ hM_
      refine hRet _ _ (bodyPost_1 rfl (RV.tmp rfl) ?_ F_ hF_ hM_)
      have hn : ctN wr rest = 2 := by unfold ctN; (repeat' split) <;> omega
      obtain ⟨eX, eW, eT⟩ := ct_long hn (by decide)
      obtain ⟨o1, o2, o3⟩ := ct_bad (most := most) (.inl (by rw [eW, ‹(rOK (!(rOK wr rest 1)) (rR wr rest 1) 2) = false›]; rfl))
      rw [o1, o2, o3]
      exact ⟨none, 0, rfl, H165, Cut.nil _ _ _, Nat.le_refl _⟩
    · skip
      refine GL.run (j := 5) 2 [0, 1, 5, 24, 25, 26] [(0, pt p 0), (1, .int .u64 (most : Int)), (5, .int .u64 (((getB (rV (!(rOK wr rest 1)) (rR wr rest 1) 2)) : Nat) : Int)), (24, .bool false), (25, .int .i64 3), (26, .int .u64 (((getB (rV (!(rOK wr rest 1)) (rR wr rest 1) 2)) : Nat) : Int))] (by kernel_rfl) rfl ?_
      refine GL.call (j := 6) (CountSize_calls (getB (rV (!(rOK wr rest 1)) (rR wr rest 1) 2)) w158) (by kernel_rfl) rfl (fun e_ w169 hR => ?_)
      obtain ⟨rfl, H171⟩ := hR
      have H170 : Hp w S [.blk p [.slice A147 ((rR (!(rOK wr rest 1)) (rR wr rest 1) 2).length) c148, .bool (!(rOK (!(rOK wr rest 1)) (rR wr rest 1) 2))] 107, .row R N C 5 1 (by8 whole)] w169 := H159.callNil H171
      refine ⟨_, rfl, [0, 1, 5, 24, 25, 27], [(0, pt p 0), (1, .int .u64 (most : Int)), (5, .int .u64 (((getB (rV (!(rOK wr rest 1)) (rR wr rest 1) 2)) : Nat) : Int)), (24, .bool false), (25, .int .i64 3), (27, .int .i64 (((cntSz (getB (rV (!(rOK wr rest 1)) (rR wr rest 1) 2))) : Nat) : Int))], by kernel_rfl, ?_⟩
      refine GL.run (j := 9) 3 [0, 1, 5, 30] [(0, pt p 0), (1, .int .u64 (most : Int)), (5, .int .u64 (((getB (rV (!(rOK wr rest 1)) (rR wr rest 1) 2)) : Nat) : Int)), (30, .bool ((3 : Int) != (((cntSz (getB (rV (!(rOK wr rest 1)) (rR wr rest 1) 2))) : Nat) : Int)))] (by kernel_rfl) rfl ?_
      cases hb172 : ((3 : Int) != (((cntSz (getB (rV (!(rOK wr rest 1)) (rR wr rest 1) 2))) : Nat) : Int))
      · skip
        have hb172f : (3 : Int) = (((cntSz (getB (rV (!(rOK wr rest 1)) (rR wr rest 1) 2))) : Nat) : Int) := bne_eq_false_iff_eq.1 hb172
        refine GL.run (j := 13) 4 [0, 5, 34] [(0, pt p 0), (5, .int .u64 (((getB (rV (!(rOK wr rest 1)) (rR wr rest 1) 2)) : Nat) : Int)), (34, .bool (decide ((most : Int) < (((getB (rV (!(rOK wr rest 1)) (rR wr rest 1) 2)) : Nat) : Int))))] (by kernel_rfl) rfl ?_
        refine GL.k rfl hK157 (fun _ _ h => h) ?_
        cases hb173 : (decide ((most : Int) < (((getB (rV (!(rOK wr rest 1)) (rR wr rest 1) 2)) : Nat) : Int)))
        · skip
          have hb173f := of_decide_eq_false hb173
          refine G.no rfl ?_
          refine G.skipK hK155 (fun _ _ h => h) ?_
          refine G.seqK fun K174 hK175 => ?_
          refine G.region ?_
          refine GL.run (j := 2) 2 [4] [(4, .int .u64 (((getB (rV (!(rOK wr rest 1)) (rR wr rest 1) 2)) : Nat) : Int))] (by kernel_rfl) rfl ?_
          refine GL.k rfl hK175 (fun _ _ h => h) ?_
          refine G.ret ?_
          intro F_ hF_ hM_
          refine hRet _ _ (bodyPost_1 rfl (RV.tmp rfl) ?_ F_ hF_ hM_)
          have hn : ctN wr rest = 2 := by unfold ctN; (repeat' split) <;> omega
          obtain ⟨eX, eW, eT⟩ := ct_long hn (by decide)
          obtain ⟨o1, o2, o3⟩ := ct_ok (most := most) (by rw [eW, ‹(rOK (!(rOK wr rest 1)) (rR wr rest 1) 2) = true›]; rfl) (by rw [eX, hn]; omega) (by rw [eX]; omega)
          rw [o1, o2, o3, eX, eT]
          have HF := H170
          rw [‹(rOK (!(rOK wr rest 1)) (rR wr rest 1) 2) = true›] at HF
          exact ⟨_, _, rfl, HF, hC149, hL150⟩
        · skip
          have hb173f := of_decide_eq_true hb173
          refine G.yes rfl ?_
          refine G.seqK fun K176 hK177 => ?_
          refine G.region ?_
          refine GL.run (j := 1) 1 [35] [(35, pt p 0)] (by kernel_rfl) rfl ?_
          refine GL.call (j := 2) (Fail_calls (ids [.blk p [.slice A147 ((rR (!(rOK wr rest 1)) (rR wr rest 1) 2).length) c148, .bool (!(rOK (!(rOK wr rest 1)) (rR wr rest 1) 2))] 107, .row R N C 5 1 (by8 whole)]) p A147 ((rR (!(rOK wr rest 1)) (rR wr rest 1) 2).length) c148 (!(rOK (!(rOK wr rest 1)) (rR wr rest 1) 2)) R N C whole w169 (Hp.startL (A := [.blk p [.slice A147 ((rR (!(rOK wr rest 1)) (rR wr rest 1) 2).length) c148, .bool (!(rOK (!(rOK wr rest 1)) (rR wr rest 1) 2))] 107, .row R N C 5 1 (by8 whole)]) (B := []) H170)) (by kernel_rfl) rfl (fun e_ w178 hR => ?_)
          obtain ⟨rfl, H180⟩ := hR
          have H179 : Hp w S [.blk p [.slice none 0 0, .bool true] 107, .row R N C 5 1 (by8 whole)] w178 := Hp.callL (A := [.blk p [.slice A147 ((rR (!(rOK wr rest 1)) (rR wr rest 1) 2).length) c148, .bool (!(rOK (!(rOK wr rest 1)) (rR wr rest 1) 2))] 107, .row R N C 5 1 (by8 whole)]) (B := []) H170 H180
          refine ⟨_, rfl, [], [], by kernel_rfl, ?_⟩
          refine GL.k rfl hK177 (fun _ _ h => h) ?_
          refine G.seqK fun K181 hK182 => ?_
          refine G.region ?_
          refine GL.run (j := 1) 1 [4] [(4, .int .u64 0)] (by kernel_rfl) rfl ?_
          refine GL.k rfl hK182 (fun _ _ h => h) ?_
          refine G.ret ?_
          intro F_ hF_ hM_
          refine hRet _ _ (bodyPost_1 rfl (RV.tmp rfl) ?_ F_ hF_ hM_)
          have hn : ctN wr rest = 2 := by unfold ctN; (repeat' split) <;> omega
          obtain ⟨eX, eW, eT⟩ := ct_long hn (by decide)
          obtain ⟨o1, o2, o3⟩ := ct_bad (wr := wr) (rest := rest) (most := most) (.inr (.inr (by rw [eX]; omega)))
          rw [o1, o2, o3]
          exact ⟨none, 0, rfl, H179, Cut.nil _ _ _, Nat.le_refl _⟩
      · skip
        have hb172f : (3 : Int) ≠ (((cntSz (getB (rV (!(rOK wr rest 1)) (rR wr rest 1) 2))) : Nat) : Int) := bne_iff_ne.1 hb172
        refine GL.run (j := 13) 4 [0, 5, 34] [(0, pt p 0), (5, .int .u64 (((getB (rV (!(rOK wr rest 1)) (rR wr rest 1) 2)) : Nat) : Int)), (34, .bool true)] (by kernel_rfl) rfl ?_
        refine GL.k rfl hK157 (fun _ _ h => h) ?_
        refine G.yes rfl ?_
        refine G.seqK fun K183 hK184 => ?_
        refine G.region ?_
        refine GL.run (j := 1) 1 [35] [(35, pt p 0)] (by kernel_rfl) rfl ?_
        refine GL.call (j := 2) (Fail_calls (ids [.blk p [.slice A147 ((rR (!(rOK wr rest 1)) (rR wr rest 1) 2).length) c148, .bool (!(rOK (!(rOK wr rest 1)) (rR wr rest 1) 2))] 107, .row R N C 5 1 (by8 whole)]) p A147 ((rR (!(rOK wr rest 1)) (rR wr rest 1) 2).length) c148 (!(rOK (!(rOK wr rest 1)) (rR wr rest 1) 2)) R N C whole w169 (Hp.startL (A := [.blk p [.slice A147 ((rR (!(rOK wr rest 1)) (rR wr rest 1) 2).length) c148, .bool (!(rOK (!(rOK wr rest 1)) (rR wr rest 1) 2))] 107, .row R N C 5 1 (by8 whole)]) (B := []) H170)) (by kernel_rfl) rfl (fun e_ w185 hR => ?_)
        obtain ⟨rfl, H187⟩ := hR
        have H186 : Hp w S [.blk p [.slice none 0 0, .bool true] 107, .row R N C 5 1 (by8 whole)] w185 := Hp.callL (A := [.blk p [.slice A147 ((rR (!(rOK wr rest 1)) (rR wr rest 1) 2).length) c148, .bool (!(rOK (!(rOK wr rest 1)) (rR wr rest 1) 2))] 107, .row R N C 5 1 (by8 whole)]) (B := []) H170 H187
        refine ⟨_, rfl, [], [], by kernel_rfl, ?_⟩
        refine GL.k rfl hK184 (fun _ _ h => h) ?_
        refine G.seqK fun K188 hK189 => ?_
        refine G.region ?_
        refine GL.run (j := 1) 1 [4] [(4, .int .u64 0)] (by kernel_rfl) rfl ?_
        refine GL.k rfl hK189 (fun _ _ h => h) ?_
        refine G.ret ?_
        intro F_ hF_ hM_
        refine hRet _ _ (bodyPost_1 rfl (RV.tmp rfl) ?_ F_ hF_ hM_)
        have hn : ctN wr rest = 2 := by unfold ctN; (repeat' split) <;> omega
        obtain ⟨eX, eW, eT⟩ := ct_long hn (by decide)
        obtain ⟨o1, o2, o3⟩ := ct_bad (wr := wr) (rest := rest) (most := most) (.inr (.inl (by rw [eX, hn]; omega)))
        rw [o1, o2, o3]
        exact ⟨none, 0, rfl, H186, Cut.nil _ _ _, Nat.le_refl _⟩
theorem RCounted_calls (S : List Nat) (p : Nat) (A : Option Addr) (k cap : Nat) (wr : Bool) (R : Option Addr) (N C : Nat) (whole rest : List UInt8) (most : Nat) (w : World) (h0 : Hp w S [.blk p [.slice A k cap, .bool wr] 107, .row R N C 5 1 (by8 whole)] w) (hcut : Cut R whole A rest) (hk : k = rest.length) (hcap : k ≤ cap) (hN : k ≤ 1000000) (hmost : most ≤ 9223372036854775807) : Calls Try.prog 40 #[pt p 0, .int .i64 (most : Int)] w fun e w' => ∃ B b D d, e = .returned (.slice D (cdV wr rest most).length d) ∧ Hp w S [.blk p [.slice B (cdR wr rest most).length b, .bool (!(cdOK wr rest most))] 107, .row R N C 5 1 (by8 whole), .row D (cdV wr rest most).length d 5 1 (by8 (cdV wr rest most))] w' ∧ Cut R whole B (cdR wr rest most) ∧ (cdR wr rest most).length ≤ b := by
  refine calls_G (args := [pt p 0, .int .i64 (most : Int)]) Try.func40 rfl Try.ntmps40 rfl ?_
  intro Q0 hRet hNor hPan
  have H := h0
  have H : Hp w S [.blk p [.slice A k cap, .bool wr] 107, .row R N C 5 1 (by8 whole)] w := H
  refine G.seqK fun K1 hK2 => ?_
  refine G.region ?_
  refine GL.run (j := 1) 1 [0, 1] [(0, pt p 0), (1, .int .i64 (most : Int))] (by kernel_rfl) rfl ?_
  refine GL.k rfl hK2 (fun _ _ h => h) ?_
  refine G.seqK fun K3 hK4 => ?_
  refine G.seqK fun K5 hK6 => ?_
  refine G.region ?_
  refine GL.run (j := 2) 2 [0, 1, 7] [(0, pt p 0), (1, .int .i64 (most : Int)), (7, .bool (decide ((most : Int) < 0)))] (by kernel_rfl) rfl ?_
  refine GL.k rfl hK6 (fun _ _ h => h) ?_
  have hb7 : (decide ((most : Int) < 0)) = false := decide_eq_false (by omega)
  rw [hb7]
  refine G.no rfl ?_
  refine G.skipK hK4 (fun _ _ h => h) ?_
  refine G.seqK fun K8 hK9 => ?_
  refine G.region ?_
  refine GL.run (j := 4) 4 [0, 10, 13] [(0, pt p 0), (10, pt p 0), (13, .int .u64 (IntKind.u64.wrap (if (0 : Int) > (most : Int) then (0 : Int) else (most : Int))))] (by kernel_rfl) rfl ?_
  have e10 : (if (0 : Int) > (most : Int) then (0 : Int) else (most : Int)) = (most : Int) := by rw [if_neg (by omega)]
  have e11 : (IntKind.u64.wrap (most : Int)) = (most : Int) := in_u64 (by omega)
  refine GL.eq (M' := [(0, pt p 0), (10, pt p 0), (13, .int .u64 (most : Int))]) (by rw [e10, e11]) ?_
  clear e10 e11
  refine GL.call (j := 5) (RCount_calls (ids [.blk p [.slice A k cap, .bool wr] 107, .row R N C 5 1 (by8 whole)]) p A k cap wr R N C whole rest most w (Hp.startL (A := [.blk p [.slice A k cap, .bool wr] 107, .row R N C 5 1 (by8 whole)]) (B := []) H) hcut (hk) (hcap) (hN)) (by kernel_rfl) rfl (fun e_ w16 hR => ?_)
  obtain ⟨A12, c13, rfl, H18, hC14, hL15⟩ := hR
  have H17 : Hp w S [.blk p [.slice A12 ((ctR wr rest most).length) c13, .bool (!(ctOK wr rest most))] 107, .row R N C 5 1 (by8 whole)] w16 := Hp.callL (A := [.blk p [.slice A k cap, .bool wr] 107, .row R N C 5 1 (by8 whole)]) (B := []) H H18
  refine ⟨_, rfl, [0, 14], [(0, pt p 0), (14, .int .u64 (((ctV wr rest most) : Nat) : Int))], by kernel_rfl, ?_⟩
  refine GL.run (j := 6) 1 [0, 5] [(0, pt p 0), (5, .int .u64 (((ctV wr rest most) : Nat) : Int))] (by kernel_rfl) rfl ?_
  refine GL.k rfl hK9 (fun _ _ h => h) ?_
  refine G.seqK fun K19 hK20 => ?_
  refine G.region ?_
  refine GL.run (j := 3) 3 [15, 17] [(15, pt p 0), (17, .int .i64 (IntKind.i64.wrap (((ctV wr rest most) : Nat) : Int)))] (by kernel_rfl) rfl ?_
  have e21 : (IntKind.i64.wrap (((ctV wr rest most) : Nat) : Int)) = (((ctV wr rest most) : Nat) : Int) := in_i64 (by have := ctV_le wr rest most; omega)
  refine GL.eq (M' := [(15, pt p 0), (17, .int .i64 (((ctV wr rest most) : Nat) : Int))]) (by rw [e21]) ?_
  clear e21
  refine GL.call (j := 4) (Raw_calls (ids [.blk p [.slice A12 ((ctR wr rest most).length) c13, .bool (!(ctOK wr rest most))] 107, .row R N C 5 1 (by8 whole)]) p A12 ((ctR wr rest most).length) c13 (!(ctOK wr rest most)) R N C whole (ctR wr rest most) (ctV wr rest most) w16 (Hp.startL (A := [.blk p [.slice A12 ((ctR wr rest most).length) c13, .bool (!(ctOK wr rest most))] 107, .row R N C 5 1 (by8 whole)]) (B := []) H17) hC14 (rfl) (hL15) ((Nat.le_trans (ctR_le _ _ _) (hk ▸ hN)))) (by kernel_rfl) rfl (fun e_ w28 hR => ?_)
  obtain ⟨A22, c23, A24, c25, rfl, H30, hC26, hL27⟩ := hR
  have H29 : Hp w S [.blk p [.slice A22 ((rR (!(ctOK wr rest most)) (ctR wr rest most) (ctV wr rest most)).length) c23, .bool (!(rOK (!(ctOK wr rest most)) (ctR wr rest most) (ctV wr rest most)))] 107, .row R N C 5 1 (by8 whole), .row A24 ((rV (!(ctOK wr rest most)) (ctR wr rest most) (ctV wr rest most)).length) c25 5 1 (by8 (rV (!(ctOK wr rest most)) (ctR wr rest most) (ctV wr rest most)))] w28 := Hp.callL (A := [.blk p [.slice A12 ((ctR wr rest most).length) c13, .bool (!(ctOK wr rest most))] 107, .row R N C 5 1 (by8 whole)]) (B := []) H17 H30
  refine ⟨_, rfl, [18], [(18, .slice A24 ((rV (!(ctOK wr rest most)) (ctR wr rest most) (ctV wr rest most)).length) c25)], by kernel_rfl, ?_⟩
  refine GL.run (j := 5) 1 [4] [(4, .slice A24 ((rV (!(ctOK wr rest most)) (ctR wr rest most) (ctV wr rest most)).length) c25)] (by kernel_rfl) rfl ?_
  refine GL.k rfl hK20 (fun _ _ h => h) ?_
  refine G.ret ?_
  intro F_ hF_ hM_
  refine hRet _ _ (bodyPost_1 rfl (RV.tmp rfl) ?_ F_ hF_ hM_)
  exact ⟨_, _, _, _, rfl, H29, hC26, hL27⟩
end Go.Proofs.Ytcedmbdahbdmaaa
set_option maxRecDepth 100000
namespace Go.Proofs.Ytcedmbdahbdmaaa
open Go.RowKit
def InB (Bs : List (Option Addr × Nat × Nat × TypeId × List Value)) (x : TIn) : Prop := x.fr.length = 32 ∧ x.ix < 4294967296 ∧ x.sq < 4294967296 ∧ (x.B, x.kb.length, x.kc, (5 : TypeId), by8 x.kb) ∈ Bs ∧ x.kb.length ≤ 520
def OutB (Bs : List (Option Addr × Nat × Nat × TypeId × List Value)) (x : TOut) : Prop := x.pv < 18446744073709551616 ∧ (x.B, x.lb.length, x.lc, (5 : TypeId), by8 x.lb) ∈ Bs ∧ x.lb.length ≤ 520
section
variable {w0 w : World} {S : List Nat} {L A' B' : List Ent} {Bs : List (Option Addr × Nat × Nat × TypeId × List Value)}
theorem InB.ok {x : TIn} (h : InB Bs x) (H : Hp w0 S L w) (i : Nat) (hL : L[i]? = some (.bag Bs)) : x.Ok w [] := by
  obtain ⟨a, _, c⟩ := H.bagLe i hL h.2.2.2.1
  exact ⟨h.1, h.2.1, h.2.2.1, RdO.of (H.bagRd i hL h.2.2.2.1), a, c⟩
theorem OutB.ok {x : TOut} (h : OutB Bs x) (H : Hp w0 S L w) (i : Nat) (hL : L[i]? = some (.bag Bs)) : x.Ok w [] := by
  obtain ⟨a, _, c⟩ := H.bagLe i hL h.2.1
  exact ⟨h.1, RdO.of (H.bagRd i hL h.2.1), a, c⟩
theorem InB.more {x : TIn} {p : Option Addr × Nat × Nat × TypeId × List Value} (h : InB Bs x) : InB (p :: Bs) x := ⟨h.1, h.2.1, h.2.2.1, List.mem_cons_of_mem _ h.2.2.2.1, h.2.2.2.2⟩
theorem OutB.more {x : TOut} {p : Option Addr × Nat × Nat × TypeId × List Value} (h : OutB Bs x) : OutB (p :: Bs) x := ⟨h.1, List.mem_cons_of_mem _ h.2.1, h.2.2⟩
theorem insB_more {l : List TIn} {y : TIn} (h : ∀ x ∈ l, InB Bs x) (hy : y.fr.length = 32 ∧ y.ix < 4294967296 ∧ y.sq < 4294967296 ∧ y.kb.length ≤ 520) : ∀ x ∈ l ++ [y], InB ((y.B, y.kb.length, y.kc, 5, by8 y.kb) :: Bs) x := by
  intro x hx
  rcases List.mem_append.1 hx with hx | hx
  · exact (h x hx).more
  · simp only [List.mem_cons, List.not_mem_nil, or_false] at hx
    subst hx
    exact ⟨hy.1, hy.2.1, hy.2.2.1, List.mem_cons_self, hy.2.2.2⟩
theorem outsB_more {l : List TOut} {y : TOut} (h : ∀ x ∈ l, OutB Bs x) (hy : y.pv < 18446744073709551616 ∧ y.lb.length ≤ 520) : ∀ x ∈ l ++ [y], OutB ((y.B, y.lb.length, y.lc, 5, by8 y.lb) :: Bs) x := by
  intro x hx
  rcases List.mem_append.1 hx with hx | hx
  · exact (h x hx).more
  · simp only [List.mem_cons, List.not_mem_nil, or_false] at hx
    subst hx
    exact ⟨hy.1, List.mem_cons_self, hy.2⟩
end
theorem insC_snoc (l : List TIn) (x : TIn) : insC (l ++ [x]) = insC l ++ x.cells := by simp [insC]
theorem outsC_snoc (l : List TOut) (x : TOut) : outsC (l ++ [x]) = outsC l ++ x.cells := by simp [outsC]
theorem run_tinBuild {x : TIn} {X : List UInt8} {ix sq n c : Nat} {B : Option Addr} (h : x.fr.length = 32) (e : x.fr = X ∧ x.ix = ix ∧ x.B = B ∧ x.kb.length = n ∧ x.kc = c ∧ x.sq = sq) (w : World) : (Instr.build 53 #[(0, .agg (by8 X).toArray), (1, .int .u32 (ix : Int)), (2, .slice B n c), (3, .int .u32 (sq : Int))]).run Try.prog w = .ok (.agg x.cells.toArray) w := by
  obtain ⟨rfl, rfl, rfl, rfl, rfl, rfl⟩ := e
  obtain ⟨f, hf⟩ := fr_fun h
  rw [TIn.cells, hf]
  exact pev_run (by kernel_rfl) w
theorem Hp.madeTIn {w0 w : World} {S : List Nat} {L : List Ent} (H : Hp w0 S L w) (x : TIn) (h : x.fr.length = 32) :
    ∃ b w', (Instr.buildSlice 23 1 #[(0, .agg x.cells.toArray)]).run Try.prog w = .ok (.slice (some ⟨b, 0, none⟩) 1 1) w' ∧ Hp w0 S (L ++ [.blk b x.cells 53]) w' := by
  obtain ⟨f, hf⟩ := fr_fun h
  have e : x.cells = by8 ((List.range 32).map f) ++ [.int .u32 (x.ix : Int), .slice x.B x.kb.length x.kc, .int .u32 (x.sq : Int)] := by rw [TIn.cells, hf]
  rw [e]
  generalize x.ix = ix at *
  generalize x.sq = sq at *
  generalize x.kb.length = n at *
  generalize x.kc = c at *
  generalize x.B = B at *
  have hs : nev Try.prog (Instr.buildSlice 23 1 #[(0, Value.agg (by8 ((List.range 32).map f) ++ ([.int .u32 (ix : Int), .slice B n c, .int .u32 (sq : Int)] : List Value)).toArray)]) = some (Obj.cells (by8 ((List.range 32).map f) ++ ([.int .u32 (ix : Int), .slice B n c, .int .u32 (sq : Int)] : List Value)).toArray 53, fun r => some ((fun b_ => Value.slice (some ⟨b_, 0, none⟩) 1 1) r)) := by kernel_rfl
  obtain ⟨b, w', h1, h2⟩ := H.made _ (fun b_ => Value.slice (some ⟨b_, 0, none⟩) 1 1) _ _ hs
  exact ⟨b, w', h1, h2⟩
section
variable {bs q : List UInt8} {v lt n1 n2 : Nat} {ins : List TIn} {outs : List TOut} {z : Bool} {Bs Cs : List (Option Addr × Nat × Nat × TypeId × List Value)}
theorem psd_E (h : Psd bs v ins outs lt n1 n2 z q) (hI : ∀ x ∈ ins, InB Bs x) (hO : ∀ x ∈ outs, OutB Cs x) {v0 lt0 : Nat} {ins0 : List TIn} {outs0 : List TOut} (hV : VTx v0 ins0 outs0 lt0) (hb : bs = txB v0 ins0 outs0 lt0) : z = false ∧ q.length = 0 ∧ txE v ins outs lt = 0 := by
  obtain ⟨h1, h2, h3, h4, h5⟩ := h.on_ hV hb
  obtain ⟨_, hn, hm, _, hl1, hl2⟩ := hV
  have hx := (h.back h1 h2).1.symm.trans hb
  refine ⟨h1, h2, ?_⟩
  have hk : txK ins outs = 0 := txK_zero.2 ⟨by omega, by omega, by omega, fun x hx => (hI x hx).2.2.2.2, fun x hx => (hO x hx).2.2⟩
  rw [txE, if_neg (by omega), if_neg (by rw [hx]; omega), if_neg]
  rintro ⟨x, hx, hp⟩
  have := h5 x hx
  omega
theorem psd_ok (h : Psd bs v ins outs lt n1 n2 z q) (hv : v < 4294967296) (hlt : lt < 4294967296) (hI : ∀ x ∈ ins, InB Bs x) (hO : ∀ x ∈ outs, OutB Cs x) (hz : z = false) (hq : q.length = 0) (hE : txE v ins outs lt = 0) : bs = txB v ins outs lt ∧ VTx v ins outs lt := by
  have hk : txK ins outs = 0 := by
    unfold txE at hE
    split at hE
    · assumption
    · omega
  rw [txE, if_neg (by omega)] at hE
  obtain ⟨k1, k2, k3, k4, k5⟩ := txK_zero.1 hk
  have hl : ¬ (4096 < (txB v ins outs lt).length ∨ (txB v ins outs lt).length = 64) := fun hh => by rw [if_pos hh] at hE; cases hE
  rw [if_neg hl] at hE
  refine ⟨(h.back hz hq).1, ⟨hv, hlt, fun x hx => ⟨(hI x hx).1, (hI x hx).2.1, (hI x hx).2.2.1, k4 x hx⟩, fun x hx => ⟨(hO x hx).1, k5 x hx⟩⟩, by omega, by omega, fun x hx => ?_, by omega, by omega⟩
  refine Nat.not_lt.1 fun hp => ?_
  rw [if_pos ⟨x, hx, hp⟩] at hE
  cases hE
end
theorem Hash32_calls (A : Option Addr) (n c : Nat) (ys : List UInt8) (w : World) (hx : RdS w A (by8 ys)) (hn : n = ys.length) (ho : ys.length = 32 ∨ ys.length = 0) : Calls Try.prog 38 #[.slice A n c] w fun e w' => e = .returned (.agg (by8 (hsh ys)).toArray) ∧ Hp w [] [] w' := by
  subst hn
  refine calls_G (args := [.slice A ys.length c]) Try.func38 rfl Try.ntmps38 rfl ?_
  intro Q0 hRet hNor hPan
  have H := Hp.start w
  have H : Hp w [] [] w := H
  refine G.seqK fun K1 hK2 => ?_
  refine G.region ?_
  obtain ⟨p3, w4, r5, H6⟩ := H.alloc (P := Try.prog) 51 (by8 (List.replicate 32 0)) (by kernel_rfl)
  have H6 : Hp w [] [.blk p3 (by8 (List.replicate 32 0)) 51] w4 := H6
  refine GL.sem (j := 1) (r5) [0, 2] [(0, .slice A ys.length c), (2, pt p3 0)] (by kernel_rfl) (by kernel_rfl) rfl ?_
  refine GL.k rfl hK2 (fun _ _ h => h) ?_
  refine G.seqK fun K7 hK8 => ?_
  refine G.region ?_
  obtain ⟨p9, w10, r11, H12⟩ := H6.alloc (P := Try.prog) 51 (by8 (List.replicate 32 0)) (by kernel_rfl)
  have H12 : Hp w [] [.blk p3 (by8 (List.replicate 32 0)) 51, .blk p9 (by8 (List.replicate 32 0)) 51] w10 := H12
  refine GL.sem (j := 1) (r11) [0, 2, 3] [(0, .slice A ys.length c), (2, pt p3 0), (3, pt p9 0)] (by kernel_rfl) (by kernel_rfl) rfl ?_
  refine GL.k rfl hK8 (fun _ _ h => h) ?_
  refine G.seqK fun K13 hK14 => ?_
  refine G.region ?_
  refine GL.run (j := 2) 2 [2, 3, 4, 5] [(2, pt p3 0), (3, pt p9 0), (4, .slice (some ⟨p9, 0, none⟩) 32 32), (5, .slice A ys.length c)] (by kernel_rfl) rfl ?_
  obtain ⟨w15, r16, H17⟩ := H12.copyBlk (P := Try.prog) (o := 0) (n := 32) (c := 32) (m := ys.length) (d := c) (t := 38) (t2 := 38) (ty := 3) (ys := ys) 1 rfl (by kernel_rfl) (hx.hp H12) (rfl) (by omega) (by rw [by8_length, List.length_replicate]; omega)
  rw [hsh_copied ho] at H17
  have H17 : Hp w [] [.blk p3 (by8 (List.replicate 32 0)) 51, .blk p9 (by8 (hsh ys)) 51] w15 := H17
  refine GL.sem (j := 3) (r16) [2, 3] [(2, pt p3 0), (3, pt p9 0)] (by kernel_rfl) (by kernel_rfl) rfl ?_
  refine GL.k rfl hK14 (fun _ _ h => h) ?_
  refine G.seqK fun K18 hK19 => ?_
  refine G.region ?_
  refine GL.sem (j := 1) (H17.ldA (o := 0) (ty := 51) (m := 32) (sub := by8 (hsh ys)) 1 rfl (by kernel_rfl) (tx_sub (by rw [by8_length, hsh_length])) (by rw [by8_length, hsh_length])) [2, 7] [(2, pt p3 0), (7, .agg (by8 (hsh ys)).toArray)] (by kernel_rfl) (by kernel_rfl) rfl ?_
  obtain ⟨w20, r21, H22⟩ := H17.stA (P := Try.prog) (o := 0) (vs := by8 (hsh ys)) (ty := 51) (m := 32) 0 rfl (by kernel_rfl) (by rw [by8_length, hsh_length]) (Nat.le_of_eq (by rw [Nat.zero_add]; exact ((show (by8 (List.replicate 32 0)).length = 32 from by rw [by8_length]; rfl)).symm)) (by8_one _)
  rw [tx_whole (by rw [by8_length]; rfl)] at H22
  have H22 : Hp w [] [.blk p3 (by8 (hsh ys)) 51, .blk p9 (by8 (hsh ys)) 51] w20 := H22
  refine GL.semU (j := 2) r21 [2] [(2, pt p3 0)] (by kernel_rfl) rfl rfl rfl ?_
  refine GL.k rfl hK19 (fun _ _ h => h) ?_
  refine G.ret ?_
  intro F_ hF_ hM_
  refine hRet _ _ (bodyPost_1 rfl (RV.cell rfl (H22.ldA (o := 0) (ty := 51) (m := 32) (sub := by8 (hsh ys)) 0 rfl (by kernel_rfl) (tx_sub (by rw [by8_length, hsh_length])) (by rw [by8_length, hsh_length]))) ?_ F_ hF_ hM_)
  exact ⟨rfl, H22.sub (List.nil_sublist _)⟩
theorem TParse_calls (xs : List UInt8) (A : Option Addr) (n c : Nat) (w : World) (hx : RdS w A (by8 xs)) (hn : n = xs.length) (hb : xs.length ≤ 1000000) : Calls Try.prog 17 #[.slice A n c] w fun e w' => ∃ (v : Nat) (ins : List TIn) (A' : Option Addr) (ca : Nat) (outs : List TOut) (B' : Option Addr) (cb lt : Nat) (Bs Cs : List (Option Addr × Nat × Nat × TypeId × List Value)) (err : Nat), e = .returned (.tuple #[.agg #[.int .u32 (v : Int), .slice A' ins.length ca, .slice B' outs.length cb, .int .u32 (lt : Int)], .int .i64 (err : Int)]) ∧ Hp w [] [.row A' ins.length ca 53 35 (insC ins), .row B' outs.length cb 40 2 (outsC outs), .bag Bs, .bag Cs] w' ∧ (∀ x ∈ ins, InB Bs x) ∧ (∀ x ∈ outs, OutB Cs x) ∧ ((err = 0 ∧ xs = txB v ins outs lt ∧ VTx v ins outs lt) ∨ (err = 2 ∧ ins = [] ∧ outs = [] ∧ v = 0 ∧ lt = 0 ∧ NoTx xs)) := by
  subst hn
  refine calls_G (args := [.slice A xs.length c]) Try.func17 rfl Try.ntmps17 rfl ?_
  intro Q0 hRet hNor hPan
  have H := Hp.start w
  have H : Hp w [] [] w := H
  refine G.seqK fun K1 hK2 => ?_
  refine G.region ?_
  obtain ⟨p3, w4, r5, H6⟩ := H.alloc (P := Try.prog) 26 [.int .u32 0, .slice none 0 0, .slice none 0 0, .int .u32 0] (by kernel_rfl)
  have H6 : Hp w [] [.blk p3 [.int .u32 0, .slice none 0 0, .slice none 0 0, .int .u32 0] 26] w4 := H6
  refine GL.sem (j := 1) (r5) [0, 2] [(0, .slice A xs.length c), (2, pt p3 0)] (by kernel_rfl) (by kernel_rfl) rfl ?_
  refine GL.run (j := 2) 1 [0, 2] [(0, .slice A xs.length c), (2, pt p3 0)] (by kernel_rfl) rfl ?_
  refine GL.k rfl hK2 (fun _ _ h => h) ?_
  refine G.seqK fun K7 hK8 => ?_
  refine G.seqK fun K9 hK10 => ?_
  refine G.region ?_
  refine GL.run (j := 3) 3 [0, 2, 10] [(0, .slice A xs.length c), (2, pt p3 0), (10, .bool (decide (4096 < (xs.length : Int))))] (by kernel_rfl) rfl ?_
  refine GL.k rfl hK10 (fun _ _ h => h) ?_
  cases hb11 : (decide (4096 < (xs.length : Int)))
  · skip
    have hb11f := of_decide_eq_false hb11
    refine G.no rfl ?_
    refine G.skipK hK8 (fun _ _ h => h) ?_
    refine G.seqK fun K12 hK13 => ?_
    refine G.region ?_
    refine GL.run (j := 1) 1 [2, 12] [(2, pt p3 0), (12, .slice A xs.length c)] (by kernel_rfl) rfl ?_
    refine GL.call (j := 2) (Read_calls xs A xs.length c w4 (hx.hp H6) (rfl) (by omega)) (by kernel_rfl) rfl (fun e_ w19 hR => ?_)
    obtain ⟨p14, A15, c16, rfl, H18⟩ := hR
    have H17 : Hp w [] [.blk p3 [.int .u32 0, .slice none 0 0, .slice none 0 0, .int .u32 0] 26, .row A15 xs.length c16 5 1 (by8 xs), .blk p14 [.slice A15 xs.length c16, .bool false] 107] w19 := H6.callNew H18
    have hk20 : xs.length = xs.length := rfl
    have hc21 := (H17.rowLe 1 rfl).1
    refine ⟨_, rfl, [2, 13], [(2, pt p3 0), (13, pt p14 0)], by kernel_rfl, ?_⟩
    refine GL.run (j := 3) 1 [2, 4] [(2, pt p3 0), (4, pt p14 0)] (by kernel_rfl) rfl ?_
    refine GL.k rfl hK13 (fun _ _ h => h) ?_
    refine G.seqK fun K22 hK23 => ?_
    refine G.region ?_
    refine GL.run (j := 1) 1 [2, 4, 14] [(2, pt p3 0), (4, pt p14 0), (14, pt p14 0)] (by kernel_rfl) rfl ?_
    obtain ⟨z30, hz30⟩ : ∃ z_ : Bool, z_ = (!(rOK false xs 4)) := ⟨_, rfl⟩
    obtain ⟨q31, hq31⟩ : ∃ q_ : List UInt8, q_ = rR false xs 4 := ⟨_, rfl⟩
    obtain ⟨v32, hv32⟩ : ∃ v_ : List UInt8, v_ = rV false xs 4 := ⟨_, rfl⟩
    have h6q31 : q31.length ≤ 1000000 := by rw [hq31]; refine Nat.le_trans (rR_le _ _ _) ?_; first | exact (by omega) | (rw [← hk20]; exact (by omega))
    have hlv32 : v32.length ≤ 4 := by rw [hv32]; exact rV_le _ _ _
    have hbv32 : getB v32 < 4294967296 := Nat.lt_of_lt_of_le (getB_lt v32) (Nat.le_trans (Nat.pow_le_pow_right (by decide) hlv32) (by decide))
    have H33 := (Hp.reorder (L' := [.blk p14 [.slice A15 xs.length c16, .bool false] 107, .row A15 xs.length c16 5 1 (by8 xs), .blk p3 [.int .u32 0, .slice none 0 0, .slice none 0 0, .int .u32 0] 26]) H17 (List.Perm.trans (List.Perm.cons _ (List.Perm.swap _ _ _)) (List.Perm.trans (List.Perm.swap _ _ _) (List.Perm.cons _ (List.Perm.trans (List.Perm.swap _ _ _) (List.Perm.refl _))))))
    refine GL.call (j := 2) (Get4_calls (ids [.blk p14 [.slice A15 xs.length c16, .bool false] 107, .row A15 xs.length c16 5 1 (by8 xs)]) p14 A15 xs.length c16 false A15 xs.length c16 xs xs w19 (Hp.startL (A := [.blk p14 [.slice A15 xs.length c16, .bool false] 107, .row A15 xs.length c16 5 1 (by8 xs)]) (B := [.blk p3 [.int .u32 0, .slice none 0 0, .slice none 0 0, .int .u32 0] 26]) H33) (Cut.refl _ _) (hk20) (hc21) ((by omega))) (by kernel_rfl) rfl (fun e_ w34 hR => ?_)
    obtain ⟨A24, c25, rfl, H36, hC28, hL29⟩ := hR
    simp only [← hz30, ← hq31, ← hv32] at H36 hC28 hL29 ⊢
    have H35 : Hp w [] [.blk p14 [.slice A24 q31.length c25, .bool z30] 107, .row A15 xs.length c16 5 1 (by8 xs), .blk p3 [.int .u32 0, .slice none 0 0, .slice none 0 0, .int .u32 0] 26] w34 := Hp.callL (A := [.blk p14 [.slice A15 xs.length c16, .bool false] 107, .row A15 xs.length c16 5 1 (by8 xs)]) (B := [.blk p3 [.int .u32 0, .slice none 0 0, .slice none 0 0, .int .u32 0] 26]) H33 H36
    refine ⟨_, rfl, [2, 4, 15], [(2, pt p3 0), (4, pt p14 0), (15, .int .u64 (((getB v32) : Nat) : Int))], by kernel_rfl, ?_⟩
    refine GL.run (j := 4) 2 [2, 4, 17] [(2, pt p3 0), (4, pt p14 0), (17, .agg #[.int .u32 (IntKind.u32.wrap (((getB v32) : Nat) : Int)), .slice none 0 0, .slice none 0 0, .int .u32 0])] (by kernel_rfl) rfl ?_
    have e37 : (IntKind.u32.wrap (((getB v32) : Nat) : Int)) = (((getB v32) : Nat) : Int) := in_u32 (by omega)
    refine GL.eq (M' := [(2, pt p3 0), (4, pt p14 0), (17, .agg #[.int .u32 (((getB v32) : Nat) : Int), .slice none 0 0, .slice none 0 0, .int .u32 0])]) (by rw [e37]) ?_
    clear e37
    obtain ⟨p38, w39, r40, H41⟩ := H35.alloc (P := Try.prog) 26 [.int .u32 0, .slice none 0 0, .slice none 0 0, .int .u32 0] (by kernel_rfl)
    have H41 : Hp w [] [.blk p14 [.slice A24 q31.length c25, .bool z30] 107, .row A15 xs.length c16 5 1 (by8 xs), .blk p3 [.int .u32 0, .slice none 0 0, .slice none 0 0, .int .u32 0] 26, .blk p38 [.int .u32 0, .slice none 0 0, .slice none 0 0, .int .u32 0] 26] w39 := H41
    refine GL.sem (j := 5) (r40) [2, 4, 5, 17] [(2, pt p3 0), (4, pt p14 0), (5, pt p38 0), (17, .agg #[.int .u32 (((getB v32) : Nat) : Int), .slice none 0 0, .slice none 0 0, .int .u32 0])] (by kernel_rfl) (by kernel_rfl) rfl ?_
    obtain ⟨w42, r43, H44⟩ := H41.stA (P := Try.prog) (o := 0) (vs := [.int .u32 (((getB v32) : Nat) : Int), .slice none 0 0, .slice none 0 0, .int .u32 0]) (ty := 26) (m := 4) 3 rfl (by kernel_rfl) rfl (by simp) (by simp [Value.oneCell'])
    have H44 : Hp w [] [.blk p14 [.slice A24 q31.length c25, .bool z30] 107, .row A15 xs.length c16 5 1 (by8 xs), .blk p3 [.int .u32 0, .slice none 0 0, .slice none 0 0, .int .u32 0] 26, .blk p38 [.int .u32 (((getB v32) : Nat) : Int), .slice none 0 0, .slice none 0 0, .int .u32 0] 26] w42 := H44
    refine GL.semU (j := 6) r43 [2, 4, 5] [(2, pt p3 0), (4, pt p14 0), (5, pt p38 0)] (by kernel_rfl) rfl rfl rfl ?_
    refine GL.k rfl hK23 (fun _ _ h => h) ?_
    refine G.seqK fun K45 hK46 => ?_
    refine G.seqK fun K47 hK48 => ?_
    refine G.region ?_
    refine GL.run (j := 1) 1 [2, 4, 5, 18] [(2, pt p3 0), (4, pt p14 0), (5, pt p38 0), (18, pt p14 0)] (by kernel_rfl) rfl ?_
    obtain ⟨z55, hz55⟩ : ∃ z_ : Bool, z_ = (!(ctOK z30 q31 64)) := ⟨_, rfl⟩
    obtain ⟨q56, hq56⟩ : ∃ q_ : List UInt8, q_ = ctR z30 q31 64 := ⟨_, rfl⟩
    obtain ⟨v57, hv57⟩ : ∃ v_ : Nat, v_ = ctV z30 q31 64 := ⟨_, rfl⟩
    have h6q56 : q56.length ≤ 1000000 := by rw [hq56]; refine Nat.le_trans (ctR_le _ _ _) ?_; first | exact h6q31 | (rw [← rfl]; exact h6q31)
    have hlv57 : v57 ≤ 64 := by rw [hv57]; exact ctV_le _ _ _
    refine GL.call (j := 2) (RCount_calls (ids [.blk p14 [.slice A24 q31.length c25, .bool z30] 107, .row A15 xs.length c16 5 1 (by8 xs)]) p14 A24 q31.length c25 z30 A15 xs.length c16 xs q31 64 w42 (Hp.startL (A := [.blk p14 [.slice A24 q31.length c25, .bool z30] 107, .row A15 xs.length c16 5 1 (by8 xs)]) (B := [.blk p3 [.int .u32 0, .slice none 0 0, .slice none 0 0, .int .u32 0] 26, .blk p38 [.int .u32 (((getB v32) : Nat) : Int), .slice none 0 0, .slice none 0 0, .int .u32 0] 26]) H44) hC28 (rfl) (hL29) (h6q31)) (by kernel_rfl) rfl (fun e_ w58 hR => ?_)
    obtain ⟨A49, c50, rfl, H60, hC53, hL54⟩ := hR
    simp only [← hz55, ← hq56, ← hv57] at H60 hC53 hL54 ⊢
    have H59 : Hp w [] [.blk p14 [.slice A49 q56.length c50, .bool z55] 107, .row A15 xs.length c16 5 1 (by8 xs), .blk p3 [.int .u32 0, .slice none 0 0, .slice none 0 0, .int .u32 0] 26, .blk p38 [.int .u32 (((getB v32) : Nat) : Int), .slice none 0 0, .slice none 0 0, .int .u32 0] 26] w58 := Hp.callL (A := [.blk p14 [.slice A24 q31.length c25, .bool z30] 107, .row A15 xs.length c16 5 1 (by8 xs)]) (B := [.blk p3 [.int .u32 0, .slice none 0 0, .slice none 0 0, .int .u32 0] 26, .blk p38 [.int .u32 (((getB v32) : Nat) : Int), .slice none 0 0, .slice none 0 0, .int .u32 0] 26]) H44 H60
    refine ⟨_, rfl, [2, 4, 5, 19], [(2, pt p3 0), (4, pt p14 0), (5, pt p38 0), (19, .int .u64 (v57 : Int))], by kernel_rfl, ?_⟩
    refine GL.run (j := 3) 1 [2, 4, 5, 19, 20] [(2, pt p3 0), (4, pt p14 0), (5, pt p38 0), (19, .int .u64 (v57 : Int)), (20, .int .u64 0)] (by kernel_rfl) rfl ?_
    refine GL.k rfl hK48 (fun _ _ h => h) ?_
    refine G.block ?_
    have H61 := (H59.rowNil 53 35).bagNil
    have H61 : Hp w [] [.blk p14 [.slice A49 q56.length c50, .bool z55] 107, .row A15 xs.length c16 5 1 (by8 xs), .blk p3 [.int .u32 0, .slice none 0 0, .slice none 0 0, .int .u32 0] 26, .blk p38 [.int .u32 (((getB v32) : Nat) : Int), .slice none 0 0, .slice none 0 0, .int .u32 0] 26, .row none 0 0 53 35 (insC ([] : List TIn)), .bag ([] : List (Option Addr × Nat × Nat × TypeId × List Value))] w58 := H61
    have hi64 : v57 ≤ 64 := hlv57
    refine G.fit [2, 4, 5, 19, 20] (M' := [(2, pt p3 0), (4, pt p14 0), (5, pt p38 0), (19, .int .u64 (v57 : Int)), (20, .int .u64 0)]) (by kernel_rfl) ?_
    refine G.loop (X := Nat × Bool × List UInt8 × Option Addr × Nat × Option Addr × Nat × List TIn × List (Option Addr × Nat × Nat × TypeId × List Value)) (fun ⟨ki, zi, qi, Bi, bi, Ai, ci, ins, Gi⟩ => [(2, pt p3 0), (4, pt p14 0), (5, pt p38 0), (19, .int .u64 (v57 : Int)), (20, .int .u64 (ki : Int))]) (fun ⟨ki, zi, qi, Bi, bi, Ai, ci, ins, Gi⟩ w_ => ((ki ≤ v57 ∧ LOf TIn.bytes VIn (fun _ => 0) v57 z55 q56 ki zi qi ins) ∧ (∀ x ∈ ins, InB Gi x) ∧ Cut A15 xs Bi qi ∧ qi.length ≤ bi ∧ qi.length ≤ 1000000) ∧ Hp w [] [.blk p14 [.slice Bi qi.length bi, .bool zi] 107, .row A15 xs.length c16 5 1 (by8 xs), .blk p3 [.int .u32 0, .slice none 0 0, .slice none 0 0, .int .u32 0] 26, .blk p38 [.int .u32 (((getB v32) : Nat) : Int), .slice Ai ki ci, .slice none 0 0, .int .u32 0] 26, .row Ai ki ci 53 35 (insC ins), .bag Gi] w_) (fun ⟨ki, zi, qi, Bi, bi, Ai, ci, ins, Gi⟩ => v57 - ki) ⟨0, z55, q56, A49, c50, none, 0, ([] : List TIn), ([] : List (Option Addr × Nat × Nat × TypeId × List Value))⟩ [2, 4, 5, 19, 20] (by kernel_rfl) ⟨⟨⟨Nat.zero_le _, LOf.zero⟩, (fun x_ h_ => by simp at h_), hC53, hL54, h6q56⟩, H61⟩ ?_
    rintro ⟨ki, zi, qi, Bi, bi, Ai, ci, ins, Gi⟩ w62 ⟨hi63, H64⟩
    refine G.eq (M' := [(2, pt p3 0), (4, pt p14 0), (5, pt p38 0), (19, .int .u64 (v57 : Int)), (20, .int .u64 (ki : Int))]) rfl ?_
    have H64 : Hp w [] [.blk p14 [.slice Bi qi.length bi, .bool zi] 107, .row A15 xs.length c16 5 1 (by8 xs), .blk p3 [.int .u32 0, .slice none 0 0, .slice none 0 0, .int .u32 0] 26, .blk p38 [.int .u32 (((getB v32) : Nat) : Int), .slice Ai ki ci, .slice none 0 0, .int .u32 0] 26, .row Ai ki ci 53 35 (insC ins), .bag Gi] w62 := H64
    obtain ⟨⟨hin, hiL⟩, hiB, hiC, hic, hi6⟩ := hi63
    have hiLl := hiL.1
    refine G.seqK fun K65 hK66 => ?_
    refine G.region ?_
    refine GL.run (j := 1) 1 [2, 4, 5, 19, 20, 21] [(2, pt p3 0), (4, pt p14 0), (5, pt p38 0), (19, .int .u64 (v57 : Int)), (20, .int .u64 (ki : Int)), (21, .bool (decide ((ki : Int) < (v57 : Int))))] (by kernel_rfl) rfl ?_
    refine GL.k rfl hK66 (fun _ _ h => h) ?_
    refine G.seqK fun K67 hK68 => ?_
    cases hb69 : (decide ((ki : Int) < (v57 : Int)))
    · skip
      have hb69f := of_decide_eq_false hb69
      subst hiLl
      have hiN : ins.length = v57 := by omega
      have hiP := hiL.done (.inl (by omega))
      refine G.no rfl ?_
      refine G.exitK hK46 (fun _ _ h => h) ?_
      refine G.seqK fun K70 hK71 => ?_
      refine G.seqK fun K72 hK73 => ?_
      refine G.region ?_
      refine GL.run (j := 1) 1 [2, 4, 5, 40] [(2, pt p3 0), (4, pt p14 0), (5, pt p38 0), (40, pt p14 0)] (by kernel_rfl) rfl ?_
      obtain ⟨z80, hz80⟩ : ∃ z_ : Bool, z_ = (!(ctOK zi qi 64)) := ⟨_, rfl⟩
      obtain ⟨q81, hq81⟩ : ∃ q_ : List UInt8, q_ = ctR zi qi 64 := ⟨_, rfl⟩
      obtain ⟨v82, hv82⟩ : ∃ v_ : Nat, v_ = ctV zi qi 64 := ⟨_, rfl⟩
      have h6q81 : q81.length ≤ 1000000 := by rw [hq81]; refine Nat.le_trans (ctR_le _ _ _) ?_; first | exact hi6 | (rw [← rfl]; exact hi6)
      have hlv82 : v82 ≤ 64 := by rw [hv82]; exact ctV_le _ _ _
      refine GL.call (j := 2) (RCount_calls (ids [.blk p14 [.slice Bi qi.length bi, .bool zi] 107, .row A15 xs.length c16 5 1 (by8 xs)]) p14 Bi qi.length bi zi A15 xs.length c16 xs qi 64 w62 (Hp.startL (A := [.blk p14 [.slice Bi qi.length bi, .bool zi] 107, .row A15 xs.length c16 5 1 (by8 xs)]) (B := [.blk p3 [.int .u32 0, .slice none 0 0, .slice none 0 0, .int .u32 0] 26, .blk p38 [.int .u32 (((getB v32) : Nat) : Int), .slice Ai ins.length ci, .slice none 0 0, .int .u32 0] 26, .row Ai ins.length ci 53 35 (insC ins), .bag Gi]) H64) hiC (rfl) (hic) (hi6)) (by kernel_rfl) rfl (fun e_ w83 hR => ?_)
      obtain ⟨A74, c75, rfl, H85, hC78, hL79⟩ := hR
      simp only [← hz80, ← hq81, ← hv82] at H85 hC78 hL79 ⊢
      have H84 : Hp w [] [.blk p14 [.slice A74 q81.length c75, .bool z80] 107, .row A15 xs.length c16 5 1 (by8 xs), .blk p3 [.int .u32 0, .slice none 0 0, .slice none 0 0, .int .u32 0] 26, .blk p38 [.int .u32 (((getB v32) : Nat) : Int), .slice Ai ins.length ci, .slice none 0 0, .int .u32 0] 26, .row Ai ins.length ci 53 35 (insC ins), .bag Gi] w83 := Hp.callL (A := [.blk p14 [.slice Bi qi.length bi, .bool zi] 107, .row A15 xs.length c16 5 1 (by8 xs)]) (B := [.blk p3 [.int .u32 0, .slice none 0 0, .slice none 0 0, .int .u32 0] 26, .blk p38 [.int .u32 (((getB v32) : Nat) : Int), .slice Ai ins.length ci, .slice none 0 0, .int .u32 0] 26, .row Ai ins.length ci 53 35 (insC ins), .bag Gi]) H64 H85
      refine ⟨_, rfl, [2, 4, 5, 41], [(2, pt p3 0), (4, pt p14 0), (5, pt p38 0), (41, .int .u64 (v82 : Int))], by kernel_rfl, ?_⟩
      refine GL.run (j := 3) 1 [2, 4, 5, 41, 42] [(2, pt p3 0), (4, pt p14 0), (5, pt p38 0), (41, .int .u64 (v82 : Int)), (42, .int .u64 0)] (by kernel_rfl) rfl ?_
      refine GL.k rfl hK73 (fun _ _ h => h) ?_
      refine G.block ?_
      have H86 := (H84.rowNil 40 2).bagNil
      have H86 : Hp w [] [.blk p14 [.slice A74 q81.length c75, .bool z80] 107, .row A15 xs.length c16 5 1 (by8 xs), .blk p3 [.int .u32 0, .slice none 0 0, .slice none 0 0, .int .u32 0] 26, .blk p38 [.int .u32 (((getB v32) : Nat) : Int), .slice Ai ins.length ci, .slice none 0 0, .int .u32 0] 26, .row Ai ins.length ci 53 35 (insC ins), .bag Gi, .row none 0 0 40 2 (outsC ([] : List TOut)), .bag ([] : List (Option Addr × Nat × Nat × TypeId × List Value))] w83 := H86
      have ho64 : v82 ≤ 64 := hlv82
      refine G.fit [2, 4, 5, 41, 42] (M' := [(2, pt p3 0), (4, pt p14 0), (5, pt p38 0), (41, .int .u64 (v82 : Int)), (42, .int .u64 0)]) (by kernel_rfl) ?_
      refine G.loop (X := Nat × Bool × List UInt8 × Option Addr × Nat × Option Addr × Nat × List TOut × List (Option Addr × Nat × Nat × TypeId × List Value)) (fun ⟨ko, zo, qo, Bo, bo, Ao, co, outs, Go⟩ => [(2, pt p3 0), (4, pt p14 0), (5, pt p38 0), (41, .int .u64 (v82 : Int)), (42, .int .u64 (ko : Int))]) (fun ⟨ko, zo, qo, Bo, bo, Ao, co, outs, Go⟩ w_ => ((ko ≤ v82 ∧ LOf TOut.bytes VOut TOut.pv v82 z80 q81 ko zo qo outs) ∧ (∀ x ∈ outs, OutB Go x) ∧ Cut A15 xs Bo qo ∧ qo.length ≤ bo ∧ qo.length ≤ 1000000) ∧ Hp w [] [.blk p14 [.slice Bo qo.length bo, .bool zo] 107, .row A15 xs.length c16 5 1 (by8 xs), .blk p3 [.int .u32 0, .slice none 0 0, .slice none 0 0, .int .u32 0] 26, .blk p38 [.int .u32 (((getB v32) : Nat) : Int), .slice Ai ins.length ci, .slice Ao ko co, .int .u32 0] 26, .row Ai ins.length ci 53 35 (insC ins), .bag Gi, .row Ao ko co 40 2 (outsC outs), .bag Go] w_) (fun ⟨ko, zo, qo, Bo, bo, Ao, co, outs, Go⟩ => v82 - ko) ⟨0, z80, q81, A74, c75, none, 0, ([] : List TOut), ([] : List (Option Addr × Nat × Nat × TypeId × List Value))⟩ [2, 4, 5, 41, 42] (by kernel_rfl) ⟨⟨⟨Nat.zero_le _, LOf.zero⟩, (fun x_ h_ => by simp at h_), hC78, hL79, h6q81⟩, H86⟩ ?_
      rintro ⟨ko, zo, qo, Bo, bo, Ao, co, outs, Go⟩ w87 ⟨hi88, H89⟩
      refine G.eq (M' := [(2, pt p3 0), (4, pt p14 0), (5, pt p38 0), (41, .int .u64 (v82 : Int)), (42, .int .u64 (ko : Int))]) rfl ?_
      have H89 : Hp w [] [.blk p14 [.slice Bo qo.length bo, .bool zo] 107, .row A15 xs.length c16 5 1 (by8 xs), .blk p3 [.int .u32 0, .slice none 0 0, .slice none 0 0, .int .u32 0] 26, .blk p38 [.int .u32 (((getB v32) : Nat) : Int), .slice Ai ins.length ci, .slice Ao ko co, .int .u32 0] 26, .row Ai ins.length ci 53 35 (insC ins), .bag Gi, .row Ao ko co 40 2 (outsC outs), .bag Go] w87 := H89
      obtain ⟨⟨hon, hoL⟩, hoB, hoC, hoc, ho6⟩ := hi88
      have hoLl := hoL.1
      refine G.seqK fun K90 hK91 => ?_
      refine G.region ?_
      refine GL.run (j := 1) 1 [2, 4, 5, 41, 42, 43] [(2, pt p3 0), (4, pt p14 0), (5, pt p38 0), (41, .int .u64 (v82 : Int)), (42, .int .u64 (ko : Int)), (43, .bool (decide ((ko : Int) < (v82 : Int))))] (by kernel_rfl) rfl ?_
      refine GL.k rfl hK91 (fun _ _ h => h) ?_
      refine G.seqK fun K92 hK93 => ?_
      cases hb94 : (decide ((ko : Int) < (v82 : Int)))
      · skip
        have hb94f := of_decide_eq_false hb94
        subst hoLl
        have hoN : outs.length = v82 := by omega
        have hoP := hoL.done (.inl (by omega))
        refine G.no rfl ?_
        refine G.exitK hK71 (fun _ _ h => h) ?_
        refine G.seqK fun K95 hK96 => ?_
        refine G.region ?_
        refine GL.run (j := 1) 1 [2, 4, 5, 55] [(2, pt p3 0), (4, pt p14 0), (5, pt p38 0), (55, pt p14 0)] (by kernel_rfl) rfl ?_
        obtain ⟨z103, hz103⟩ : ∃ z_ : Bool, z_ = (!(rOK zo qo 4)) := ⟨_, rfl⟩
        obtain ⟨q104, hq104⟩ : ∃ q_ : List UInt8, q_ = rR zo qo 4 := ⟨_, rfl⟩
        obtain ⟨v105, hv105⟩ : ∃ v_ : List UInt8, v_ = rV zo qo 4 := ⟨_, rfl⟩
        have h6q104 : q104.length ≤ 1000000 := by rw [hq104]; refine Nat.le_trans (rR_le _ _ _) ?_; first | exact ho6 | (rw [← rfl]; exact ho6)
        have hlv105 : v105.length ≤ 4 := by rw [hv105]; exact rV_le _ _ _
        have hbv105 : getB v105 < 4294967296 := Nat.lt_of_lt_of_le (getB_lt v105) (Nat.le_trans (Nat.pow_le_pow_right (by decide) hlv105) (by decide))
        refine GL.call (j := 2) (Get4_calls (ids [.blk p14 [.slice Bo qo.length bo, .bool zo] 107, .row A15 xs.length c16 5 1 (by8 xs)]) p14 Bo qo.length bo zo A15 xs.length c16 xs qo w87 (Hp.startL (A := [.blk p14 [.slice Bo qo.length bo, .bool zo] 107, .row A15 xs.length c16 5 1 (by8 xs)]) (B := [.blk p3 [.int .u32 0, .slice none 0 0, .slice none 0 0, .int .u32 0] 26, .blk p38 [.int .u32 (((getB v32) : Nat) : Int), .slice Ai ins.length ci, .slice Ao outs.length co, .int .u32 0] 26, .row Ai ins.length ci 53 35 (insC ins), .bag Gi, .row Ao outs.length co 40 2 (outsC outs), .bag Go]) H89) hoC (rfl) (hoc) (ho6)) (by kernel_rfl) rfl (fun e_ w106 hR => ?_)
        obtain ⟨A97, c98, rfl, H108, hC101, hL102⟩ := hR
        simp only [← hz103, ← hq104, ← hv105] at H108 hC101 hL102 ⊢
        have H107 : Hp w [] [.blk p14 [.slice A97 q104.length c98, .bool z103] 107, .row A15 xs.length c16 5 1 (by8 xs), .blk p3 [.int .u32 0, .slice none 0 0, .slice none 0 0, .int .u32 0] 26, .blk p38 [.int .u32 (((getB v32) : Nat) : Int), .slice Ai ins.length ci, .slice Ao outs.length co, .int .u32 0] 26, .row Ai ins.length ci 53 35 (insC ins), .bag Gi, .row Ao outs.length co 40 2 (outsC outs), .bag Go] w106 := Hp.callL (A := [.blk p14 [.slice Bo qo.length bo, .bool zo] 107, .row A15 xs.length c16 5 1 (by8 xs)]) (B := [.blk p3 [.int .u32 0, .slice none 0 0, .slice none 0 0, .int .u32 0] 26, .blk p38 [.int .u32 (((getB v32) : Nat) : Int), .slice Ai ins.length ci, .slice Ao outs.length co, .int .u32 0] 26, .row Ai ins.length ci 53 35 (insC ins), .bag Gi, .row Ao outs.length co 40 2 (outsC outs), .bag Go]) H89 H108
        refine ⟨_, rfl, [2, 4, 5, 56], [(2, pt p3 0), (4, pt p14 0), (5, pt p38 0), (56, .int .u64 (((getB v105) : Nat) : Int))], by kernel_rfl, ?_⟩
        refine GL.run (j := 4) 2 [2, 4, 5, 57, 58] [(2, pt p3 0), (4, pt p14 0), (5, pt p38 0), (57, .int .u32 (IntKind.u32.wrap (((getB v105) : Nat) : Int))), (58, pt p38 3)] (by kernel_rfl) rfl ?_
        have e109 : (IntKind.u32.wrap (((getB v105) : Nat) : Int)) = (((getB v105) : Nat) : Int) := in_u32 (by omega)
        refine GL.eq (M' := [(2, pt p3 0), (4, pt p14 0), (5, pt p38 0), (57, .int .u32 (((getB v105) : Nat) : Int)), (58, pt p38 3)]) (by rw [e109]) ?_
        clear e109
        obtain ⟨w110, r111, H112⟩ := H107.st (P := Try.prog) (o := 3) (ty := 22) (v := .int .u32 (((getB v105) : Nat) : Int)) 3 rfl (by kernel_rfl) (by simp) rfl
        have H112 : Hp w [] [.blk p14 [.slice A97 q104.length c98, .bool z103] 107, .row A15 xs.length c16 5 1 (by8 xs), .blk p3 [.int .u32 0, .slice none 0 0, .slice none 0 0, .int .u32 0] 26, .blk p38 [.int .u32 (((getB v32) : Nat) : Int), .slice Ai ins.length ci, .slice Ao outs.length co, .int .u32 (((getB v105) : Nat) : Int)] 26, .row Ai ins.length ci 53 35 (insC ins), .bag Gi, .row Ao outs.length co 40 2 (outsC outs), .bag Go] w110 := H112
        refine GL.semU (j := 5) r111 [2, 4, 5] [(2, pt p3 0), (4, pt p14 0), (5, pt p38 0)] (by kernel_rfl) rfl rfl rfl ?_
        refine GL.k rfl hK96 (fun _ _ h => h) ?_
        refine G.seqK fun K113 hK114 => ?_
        refine G.seqK fun K115 hK116 => ?_
        refine G.region ?_
        refine GL.sem (j := 1) (H112.ldA (o := 0) (ty := 26) (m := 4) (sub := [.int .u32 (((getB v32) : Nat) : Int), .slice Ai ins.length ci, .slice Ao outs.length co, .int .u32 (((getB v105) : Nat) : Int)]) 3 rfl (by kernel_rfl) rfl rfl) [2, 4, 5, 60] [(2, pt p3 0), (4, pt p14 0), (5, pt p38 0), (60, .agg #[.int .u32 (((getB v32) : Nat) : Int), .slice Ai ins.length ci, .slice Ao outs.length co, .int .u32 (((getB v105) : Nat) : Int)])] (by kernel_rfl) (by kernel_rfl) rfl ?_
        refine GL.call (j := 2) (TBytes_calls (getB v32) ins Ai ci outs Ao co (getB v105) w110 (by omega) (by omega) (H112.rdRowN 4 rfl) (fun x_ h_ => (hiB x_ h_).ok H112 5 rfl) (H112.rdRowN 6 rfl) (fun x_ h_ => (hoB x_ h_).ok H112 7 rfl) (by simp only [maxLen]; omega) (by simp only [maxLen]; omega)) (by kernel_rfl) rfl (fun e_ w120 hR => ?_)
        obtain ⟨A117, n118, c119, rfl, H122⟩ := hR
        have H121 : Hp w [] [.blk p14 [.slice A97 q104.length c98, .bool z103] 107, .row A15 xs.length c16 5 1 (by8 xs), .blk p3 [.int .u32 0, .slice none 0 0, .slice none 0 0, .int .u32 0] 26, .blk p38 [.int .u32 (((getB v32) : Nat) : Int), .slice Ai ins.length ci, .slice Ao outs.length co, .int .u32 (((getB v105) : Nat) : Int)] 26, .row Ai ins.length ci 53 35 (insC ins), .bag Gi, .row Ao outs.length co 40 2 (outsC outs), .bag Go, .row A117 n118 c119 5 1 (by8 (txO (getB v32) ins outs (getB v105)))] w120 := H112.callNew H122
        refine ⟨_, rfl, [2, 4, 5, 61], [(2, pt p3 0), (4, pt p14 0), (5, pt p38 0), (61, .tuple #[.slice A117 n118 c119, .int .i64 (((txE (getB v32) ins outs (getB v105)) : Nat) : Int)])], by kernel_rfl, ?_⟩
        refine GL.run (j := 7) 5 [2, 4, 5, 7] [(2, pt p3 0), (4, pt p14 0), (5, pt p38 0), (7, .int .i64 (((txE (getB v32) ins outs (getB v105)) : Nat) : Int))] (by kernel_rfl) rfl ?_
        refine GL.k rfl hK116 (fun _ _ h => h) ?_
        refine G.seqK fun K123 hK124 => ?_
        refine G.region ?_
        refine GL.run (j := 1) 1 [2, 5, 7, 64] [(2, pt p3 0), (5, pt p38 0), (7, .int .i64 (((txE (getB v32) ins outs (getB v105)) : Nat) : Int)), (64, pt p14 0)] (by kernel_rfl) rfl ?_
        refine GL.call (j := 2) (End_calls (ids [.blk p14 [.slice A97 q104.length c98, .bool z103] 107, .row A15 xs.length c16 5 1 (by8 xs)]) p14 A97 q104.length c98 z103 A15 xs.length c16 xs q104 w120 (Hp.startL (A := [.blk p14 [.slice A97 q104.length c98, .bool z103] 107, .row A15 xs.length c16 5 1 (by8 xs)]) (B := [.blk p3 [.int .u32 0, .slice none 0 0, .slice none 0 0, .int .u32 0] 26, .blk p38 [.int .u32 (((getB v32) : Nat) : Int), .slice Ai ins.length ci, .slice Ao outs.length co, .int .u32 (((getB v105) : Nat) : Int)] 26, .row Ai ins.length ci 53 35 (insC ins), .bag Gi, .row Ao outs.length co 40 2 (outsC outs), .bag Go, .row A117 n118 c119 5 1 (by8 (txO (getB v32) ins outs (getB v105)))]) H121) (rfl)) (by kernel_rfl) rfl (fun e_ w125 hR => ?_)
        obtain ⟨rfl, H127⟩ := hR
        have H126 : Hp w [] [.blk p14 [.slice A97 q104.length c98, .bool z103] 107, .row A15 xs.length c16 5 1 (by8 xs), .blk p3 [.int .u32 0, .slice none 0 0, .slice none 0 0, .int .u32 0] 26, .blk p38 [.int .u32 (((getB v32) : Nat) : Int), .slice Ai ins.length ci, .slice Ao outs.length co, .int .u32 (((getB v105) : Nat) : Int)] 26, .row Ai ins.length ci 53 35 (insC ins), .bag Gi, .row Ao outs.length co 40 2 (outsC outs), .bag Go, .row A117 n118 c119 5 1 (by8 (txO (getB v32) ins outs (getB v105)))] w125 := Hp.callL (A := [.blk p14 [.slice A97 q104.length c98, .bool z103] 107, .row A15 xs.length c16 5 1 (by8 xs)]) (B := [.blk p3 [.int .u32 0, .slice none 0 0, .slice none 0 0, .int .u32 0] 26, .blk p38 [.int .u32 (((getB v32) : Nat) : Int), .slice Ai ins.length ci, .slice Ao outs.length co, .int .u32 (((getB v105) : Nat) : Int)] 26, .row Ai ins.length ci 53 35 (insC ins), .bag Gi, .row Ao outs.length co 40 2 (outsC outs), .bag Go, .row A117 n118 c119 5 1 (by8 (txO (getB v32) ins outs (getB v105)))]) H121 H127
        refine ⟨_, rfl, [2, 5, 7, 65], [(2, pt p3 0), (5, pt p38 0), (7, .int .i64 (((txE (getB v32) ins outs (getB v105)) : Nat) : Int)), (65, .bool (endB z103 q104))], by kernel_rfl, ?_⟩
        refine GL.run (j := 4) 2 [2, 5, 7, 67] [(2, pt p3 0), (5, pt p38 0), (7, .int .i64 (((txE (getB v32) ins outs (getB v105)) : Nat) : Int)), (67, .bool (!(endB z103 q104)))] (by kernel_rfl) rfl ?_
        cases hb128 : (endB z103 q104)
        · skip
          refine GL.run (j := 7) 3 [2, 5, 70] [(2, pt p3 0), (5, pt p38 0), (70, .bool true)] (by kernel_rfl) rfl ?_
          refine GL.k rfl hK124 (fun _ _ h => h) ?_
          refine G.yes rfl ?_
          refine G.seqK fun K129 hK130 => ?_
          refine G.region ?_
          refine GL.run (j := 1) 1 [2, 71] [(2, pt p3 0), (71, .agg #[.int .u32 0, .slice none 0 0, .slice none 0 0, .int .u32 0])] (by kernel_rfl) rfl ?_
          obtain ⟨w131, r132, H133⟩ := H126.stA (P := Try.prog) (o := 0) (vs := [.int .u32 0, .slice none 0 0, .slice none 0 0, .int .u32 0]) (ty := 26) (m := 4) 2 rfl (by kernel_rfl) rfl (by simp) (by simp [Value.oneCell'])
          have H133 : Hp w [] [.blk p14 [.slice A97 q104.length c98, .bool z103] 107, .row A15 xs.length c16 5 1 (by8 xs), .blk p3 [.int .u32 0, .slice none 0 0, .slice none 0 0, .int .u32 0] 26, .blk p38 [.int .u32 (((getB v32) : Nat) : Int), .slice Ai ins.length ci, .slice Ao outs.length co, .int .u32 (((getB v105) : Nat) : Int)] 26, .row Ai ins.length ci 53 35 (insC ins), .bag Gi, .row Ao outs.length co 40 2 (outsC outs), .bag Go, .row A117 n118 c119 5 1 (by8 (txO (getB v32) ins outs (getB v105)))] w131 := H133
          refine GL.semU (j := 2) r132 [2] [(2, pt p3 0)] (by kernel_rfl) rfl rfl rfl ?_
          refine GL.run (j := 3) 1 [2, 3] [(2, pt p3 0), (3, .int .i64 2)] (by kernel_rfl) rfl ?_
          refine GL.k rfl hK130 (fun _ _ h => h) ?_
          refine G.ret ?_
          intro F_ hF_ hM_
          refine hRet _ _ (bodyPost_2 rfl (RV.cell rfl (H133.ldA (o := 0) (ty := 26) (m := 4) (sub := [.int .u32 0, .slice none 0 0, .slice none 0 0, .int .u32 0]) 2 rfl (by kernel_rfl) rfl rfl)) (RV.tmp rfl) ?_ F_ hF_ hM_)
          have hP : Psd xs (getB v32) ins outs (getB v105) v57 v82 z103 q104 := ⟨_, _, _, _, _, _, _, _, _, _, _, _, hz30, hq31, hv32, hz55, hq56, hv57, hiP, hz80, hq81, hv82, hoP, hz103, hq104, hv105, rfl, rfl⟩
          have hno : NoTx xs := fun v0 ins0 outs0 lt0 hV he => by obtain ⟨n1, n2, n3⟩ := psd_E hP hiB hoB hV he; exact endB_false hb128 n1 n2
          exact ⟨0, [], none, 0, [], none, 0, 0, [], [], 2, rfl, ((((H133.sub (List.nil_sublist _)).rowNil 53 35).rowNil 40 2).bagNil).bagNil, (fun x_ h_ => by simp at h_), (fun x_ h_ => by simp at h_), .inr ⟨rfl, rfl, rfl, rfl, rfl, hno⟩⟩
        · skip
          have hend := endB_true hb128
          refine GL.run (j := 7) 3 [2, 5, 70] [(2, pt p3 0), (5, pt p38 0), (70, .bool ((((txE (getB v32) ins outs (getB v105)) : Nat) : Int) != 0))] (by kernel_rfl) rfl ?_
          refine GL.k rfl hK124 (fun _ _ h => h) ?_
          cases hb134 : ((((txE (getB v32) ins outs (getB v105)) : Nat) : Int) != 0)
          · skip
            have hb134f : (((txE (getB v32) ins outs (getB v105)) : Nat) : Int) = 0 := bne_eq_false_iff_eq.1 hb134
            have hE : txE (getB v32) ins outs (getB v105) = 0 := by omega
            refine G.no rfl ?_
            refine G.skipK hK114 (fun _ _ h => h) ?_
            refine G.seqK fun K135 hK136 => ?_
            refine G.region ?_
            refine GL.sem (j := 1) (H126.ldA (o := 0) (ty := 26) (m := 4) (sub := [.int .u32 (((getB v32) : Nat) : Int), .slice Ai ins.length ci, .slice Ao outs.length co, .int .u32 (((getB v105) : Nat) : Int)]) 3 rfl (by kernel_rfl) rfl rfl) [2, 72] [(2, pt p3 0), (72, .agg #[.int .u32 (((getB v32) : Nat) : Int), .slice Ai ins.length ci, .slice Ao outs.length co, .int .u32 (((getB v105) : Nat) : Int)])] (by kernel_rfl) (by kernel_rfl) rfl ?_
            obtain ⟨w137, r138, H139⟩ := H126.stA (P := Try.prog) (o := 0) (vs := [.int .u32 (((getB v32) : Nat) : Int), .slice Ai ins.length ci, .slice Ao outs.length co, .int .u32 (((getB v105) : Nat) : Int)]) (ty := 26) (m := 4) 2 rfl (by kernel_rfl) rfl (by simp) (by simp [Value.oneCell'])
            have H139 : Hp w [] [.blk p14 [.slice A97 q104.length c98, .bool z103] 107, .row A15 xs.length c16 5 1 (by8 xs), .blk p3 [.int .u32 (((getB v32) : Nat) : Int), .slice Ai ins.length ci, .slice Ao outs.length co, .int .u32 (((getB v105) : Nat) : Int)] 26, .blk p38 [.int .u32 (((getB v32) : Nat) : Int), .slice Ai ins.length ci, .slice Ao outs.length co, .int .u32 (((getB v105) : Nat) : Int)] 26, .row Ai ins.length ci 53 35 (insC ins), .bag Gi, .row Ao outs.length co 40 2 (outsC outs), .bag Go, .row A117 n118 c119 5 1 (by8 (txO (getB v32) ins outs (getB v105)))] w137 := H139
            refine GL.semU (j := 2) r138 [2] [(2, pt p3 0)] (by kernel_rfl) rfl rfl rfl ?_
            refine GL.run (j := 3) 1 [2, 3] [(2, pt p3 0), (3, .int .i64 0)] (by kernel_rfl) rfl ?_
            refine GL.k rfl hK136 (fun _ _ h => h) ?_
            refine G.ret ?_
            intro F_ hF_ hM_
            refine hRet _ _ (bodyPost_2 rfl (RV.cell rfl (H139.ldA (o := 0) (ty := 26) (m := 4) (sub := [.int .u32 (((getB v32) : Nat) : Int), .slice Ai ins.length ci, .slice Ao outs.length co, .int .u32 (((getB v105) : Nat) : Int)]) 2 rfl (by kernel_rfl) rfl rfl)) (RV.tmp rfl) ?_ F_ hF_ hM_)
            have hP : Psd xs (getB v32) ins outs (getB v105) v57 v82 z103 q104 := ⟨_, _, _, _, _, _, _, _, _, _, _, _, hz30, hq31, hv32, hz55, hq56, hv57, hiP, hz80, hq81, hv82, hoP, hz103, hq104, hv105, rfl, rfl⟩
            obtain ⟨hX, hV⟩ := psd_ok hP (by omega) (by omega) hiB hoB hend.1 hend.2 hE
            have H140 : Hp w [] [.row Ai ins.length ci 53 35 (insC ins), .bag Gi, .row Ao outs.length co 40 2 (outsC outs), .bag Go] w137 := H139.sub (List.Sublist.cons _ (List.Sublist.cons _ (List.Sublist.cons _ (List.Sublist.cons _ (List.Sublist.cons_cons _ (List.Sublist.cons_cons _ (List.Sublist.cons_cons _ (List.Sublist.cons_cons _ (List.Sublist.cons _ (List.Sublist.slnil))))))))))
            exact ⟨_, ins, _, _, outs, _, _, _, _, _, 0, rfl, (Hp.reorder (L' := [.row Ai ins.length ci 53 35 (insC ins), .row Ao outs.length co 40 2 (outsC outs), .bag Gi, .bag Go]) H140 (List.Perm.cons _ (List.Perm.trans (List.Perm.swap _ _ _) (List.Perm.refl _)))), hiB, hoB, .inl ⟨rfl, hX, hV⟩⟩
          · skip
            have hb134f : (((txE (getB v32) ins outs (getB v105)) : Nat) : Int) ≠ 0 := bne_iff_ne.1 hb134
            have hE : txE (getB v32) ins outs (getB v105) ≠ 0 := by omega
            refine G.yes rfl ?_
            refine G.seqK fun K141 hK142 => ?_
            refine G.region ?_
            refine GL.run (j := 1) 1 [2, 71] [(2, pt p3 0), (71, .agg #[.int .u32 0, .slice none 0 0, .slice none 0 0, .int .u32 0])] (by kernel_rfl) rfl ?_
            obtain ⟨w143, r144, H145⟩ := H126.stA (P := Try.prog) (o := 0) (vs := [.int .u32 0, .slice none 0 0, .slice none 0 0, .int .u32 0]) (ty := 26) (m := 4) 2 rfl (by kernel_rfl) rfl (by simp) (by simp [Value.oneCell'])
            have H145 : Hp w [] [.blk p14 [.slice A97 q104.length c98, .bool z103] 107, .row A15 xs.length c16 5 1 (by8 xs), .blk p3 [.int .u32 0, .slice none 0 0, .slice none 0 0, .int .u32 0] 26, .blk p38 [.int .u32 (((getB v32) : Nat) : Int), .slice Ai ins.length ci, .slice Ao outs.length co, .int .u32 (((getB v105) : Nat) : Int)] 26, .row Ai ins.length ci 53 35 (insC ins), .bag Gi, .row Ao outs.length co 40 2 (outsC outs), .bag Go, .row A117 n118 c119 5 1 (by8 (txO (getB v32) ins outs (getB v105)))] w143 := H145
            refine GL.semU (j := 2) r144 [2] [(2, pt p3 0)] (by kernel_rfl) rfl rfl rfl ?_
            refine GL.run (j := 3) 1 [2, 3] [(2, pt p3 0), (3, .int .i64 2)] (by kernel_rfl) rfl ?_
            refine GL.k rfl hK142 (fun _ _ h => h) ?_
            refine G.ret ?_
            intro F_ hF_ hM_
            refine hRet _ _ (bodyPost_2 rfl (RV.cell rfl (H145.ldA (o := 0) (ty := 26) (m := 4) (sub := [.int .u32 0, .slice none 0 0, .slice none 0 0, .int .u32 0]) 2 rfl (by kernel_rfl) rfl rfl)) (RV.tmp rfl) ?_ F_ hF_ hM_)
            have hP : Psd xs (getB v32) ins outs (getB v105) v57 v82 z103 q104 := ⟨_, _, _, _, _, _, _, _, _, _, _, _, hz30, hq31, hv32, hz55, hq56, hv57, hiP, hz80, hq81, hv82, hoP, hz103, hq104, hv105, rfl, rfl⟩
            have hno : NoTx xs := fun v0 ins0 outs0 lt0 hV he => by obtain ⟨n1, n2, n3⟩ := psd_E hP hiB hoB hV he; exact absurd n3 hE
            exact ⟨0, [], none, 0, [], none, 0, 0, [], [], 2, rfl, ((((H145.sub (List.nil_sublist _)).rowNil 53 35).rowNil 40 2).bagNil).bagNil, (fun x_ h_ => by simp at h_), (fun x_ h_ => by simp at h_), .inr ⟨rfl, rfl, rfl, rfl, rfl, hno⟩⟩
      · skip
        have hb94f := of_decide_eq_true hb94
        refine G.yes rfl ?_
        refine G.skipK hK93 (fun _ _ h => h) ?_
        refine G.seqK fun K146 hK147 => ?_
        refine G.block ?_
        refine G.heldP (Hp w [] [.row A15 xs.length c16 5 1 (by8 xs), .blk p3 [.int .u32 0, .slice none 0 0, .slice none 0 0, .int .u32 0] 26, .blk p38 [.int .u32 (((getB v32) : Nat) : Int), .slice Ai ins.length ci, .slice Ao ko co, .int .u32 0] 26, .row Ai ins.length ci 53 35 (insC ins), .bag Gi, .bag Go]) (by kernel_rfl) (by kernel_rfl) (fun c_ a_ d_ v_ w_ h_ => hPan c_ a_ d_ v_ w_ h_) ?_
        have H148 := H89.drew
        generalize ({ w87 with drawn := w87.drawn + 1 } : World) = w149 at H148 ⊢
        have hS150 : Hp w [] [.row A15 xs.length c16 5 1 (by8 xs), .blk p3 [.int .u32 0, .slice none 0 0, .slice none 0 0, .int .u32 0] 26, .blk p38 [.int .u32 (((getB v32) : Nat) : Int), .slice Ai ins.length ci, .slice Ao ko co, .int .u32 0] 26, .row Ai ins.length ci 53 35 (insC ins), .bag Gi, .bag Go] w149 := H148.sub (List.Sublist.cons _ (List.Sublist.cons_cons _ (List.Sublist.cons_cons _ (List.Sublist.cons_cons _ (List.Sublist.cons_cons _ (List.Sublist.cons_cons _ (List.Sublist.cons _ (List.Sublist.cons_cons _ (List.Sublist.slnil)))))))))
        refine GP.run [0] [2, 4, 5, 41, 42, 44] [(2, pt p3 0), (4, pt p14 0), (5, pt p38 0), (41, .int .u64 (v82 : Int)), (42, .int .u64 (ko : Int)), (44, pt p38 2)] [0] (by kernel_rfl) rfl hS150 ?_
        refine GP.sem 1 (fun w_ H_ => H_.ld (o := 2) (ty := 24) (v := .slice Ao ko co) 2 rfl (by kernel_rfl) rfl) [2, 4, 5, 41, 42, 45] [(2, pt p3 0), (4, pt p14 0), (5, pt p38 0), (41, .int .u64 (v82 : Int)), (42, .int .u64 (ko : Int)), (45, .slice Ao ko co)] (by kernel_rfl) (by kernel_rfl) (by kernel_rfl) hS150 ?_
        refine GP.run [2, 4] [2, 4, 5, 41, 42, 45, 46, 48] [(2, pt p3 0), (4, pt p14 0), (5, pt p38 0), (41, .int .u64 (v82 : Int)), (42, .int .u64 (ko : Int)), (45, .slice Ao ko co), (46, pt p14 0), (48, pt p14 0)] [0, 1, 2, 4] (by kernel_rfl) rfl hS150 ?_
        obtain ⟨z157, hz157⟩ : ∃ z_ : Bool, z_ = (!(rOK zo qo 8)) := ⟨_, rfl⟩
        obtain ⟨q158, hq158⟩ : ∃ q_ : List UInt8, q_ = rR zo qo 8 := ⟨_, rfl⟩
        obtain ⟨v159, hv159⟩ : ∃ v_ : List UInt8, v_ = rV zo qo 8 := ⟨_, rfl⟩
        have h6q158 : q158.length ≤ 1000000 := by rw [hq158]; refine Nat.le_trans (rR_le _ _ _) ?_; first | exact ho6 | (rw [← rfl]; exact ho6)
        have hlv159 : v159.length ≤ 8 := by rw [hv159]; exact rV_le _ _ _
        have hbv159 : getB v159 < 18446744073709551616 := Nat.lt_of_lt_of_le (getB_lt v159) (Nat.le_trans (Nat.pow_le_pow_right (by decide) hlv159) (by decide))
        refine GP.call 3 (Get8_calls (ids [.blk p14 [.slice Bo qo.length bo, .bool zo] 107, .row A15 xs.length c16 5 1 (by8 xs)]) p14 Bo qo.length bo zo A15 xs.length c16 xs qo w149 (Hp.startL (A := [.blk p14 [.slice Bo qo.length bo, .bool zo] 107, .row A15 xs.length c16 5 1 (by8 xs)]) (B := [.blk p3 [.int .u32 0, .slice none 0 0, .slice none 0 0, .int .u32 0] 26, .blk p38 [.int .u32 (((getB v32) : Nat) : Int), .slice Ai ins.length ci, .slice Ao ko co, .int .u32 0] 26, .row Ai ins.length ci 53 35 (insC ins), .bag Gi, .row Ao ko co 40 2 (outsC outs), .bag Go]) H148) hoC (rfl) (hoc) (ho6)) (by kernel_rfl) (by kernel_rfl) (fun e_ w160 hR => ?_)
        obtain ⟨A151, c152, rfl, H162, hC155, hL156⟩ := hR
        simp only [← hz157, ← hq158, ← hv159] at H162 hC155 hL156 ⊢
        have H161 : Hp w [] [.blk p14 [.slice A151 q158.length c152, .bool z157] 107, .row A15 xs.length c16 5 1 (by8 xs), .blk p3 [.int .u32 0, .slice none 0 0, .slice none 0 0, .int .u32 0] 26, .blk p38 [.int .u32 (((getB v32) : Nat) : Int), .slice Ai ins.length ci, .slice Ao ko co, .int .u32 0] 26, .row Ai ins.length ci 53 35 (insC ins), .bag Gi, .row Ao ko co 40 2 (outsC outs), .bag Go] w160 := Hp.callL (A := [.blk p14 [.slice Bo qo.length bo, .bool zo] 107, .row A15 xs.length c16 5 1 (by8 xs)]) (B := [.blk p3 [.int .u32 0, .slice none 0 0, .slice none 0 0, .int .u32 0] 26, .blk p38 [.int .u32 (((getB v32) : Nat) : Int), .slice Ai ins.length ci, .slice Ao ko co, .int .u32 0] 26, .row Ai ins.length ci 53 35 (insC ins), .bag Gi, .row Ao ko co 40 2 (outsC outs), .bag Go]) H148 H162
        have hS163 : Hp w [] [.row A15 xs.length c16 5 1 (by8 xs), .blk p3 [.int .u32 0, .slice none 0 0, .slice none 0 0, .int .u32 0] 26, .blk p38 [.int .u32 (((getB v32) : Nat) : Int), .slice Ai ins.length ci, .slice Ao ko co, .int .u32 0] 26, .row Ai ins.length ci 53 35 (insC ins), .bag Gi, .bag Go] w160 := H161.sub (List.Sublist.cons _ (List.Sublist.cons_cons _ (List.Sublist.cons_cons _ (List.Sublist.cons_cons _ (List.Sublist.cons_cons _ (List.Sublist.cons_cons _ (List.Sublist.cons _ (List.Sublist.cons_cons _ (List.Sublist.slnil)))))))))
        refine ⟨_, rfl, hS163, [2, 4, 5, 41, 42, 45, 47, 48], [(2, pt p3 0), (4, pt p14 0), (5, pt p38 0), (41, .int .u64 (v82 : Int)), (42, .int .u64 (ko : Int)), (45, .slice Ao ko co), (47, .int .u64 (((getB v159) : Nat) : Int)), (48, pt p14 0)], by kernel_rfl, ?_⟩
        obtain ⟨z170, hz170⟩ : ∃ z_ : Bool, z_ = (!(cdOK z157 q158 520)) := ⟨_, rfl⟩
        obtain ⟨q171, hq171⟩ : ∃ q_ : List UInt8, q_ = cdR z157 q158 520 := ⟨_, rfl⟩
        obtain ⟨v172, hv172⟩ : ∃ v_ : List UInt8, v_ = cdV z157 q158 520 := ⟨_, rfl⟩
        have h6q171 : q171.length ≤ 1000000 := by rw [hq171]; refine Nat.le_trans (cdR_le _ _ _) ?_; first | exact h6q158 | (rw [← rfl]; exact h6q158)
        refine GP.call 5 (RCounted_calls (ids [.blk p14 [.slice A151 q158.length c152, .bool z157] 107, .row A15 xs.length c16 5 1 (by8 xs)]) p14 A151 q158.length c152 z157 A15 xs.length c16 xs q158 520 w160 (Hp.startL (A := [.blk p14 [.slice A151 q158.length c152, .bool z157] 107, .row A15 xs.length c16 5 1 (by8 xs)]) (B := [.blk p3 [.int .u32 0, .slice none 0 0, .slice none 0 0, .int .u32 0] 26, .blk p38 [.int .u32 (((getB v32) : Nat) : Int), .slice Ai ins.length ci, .slice Ao ko co, .int .u32 0] 26, .row Ai ins.length ci 53 35 (insC ins), .bag Gi, .row Ao ko co 40 2 (outsC outs), .bag Go]) H161) hC155 (rfl) (hL156) (h6q158) (by decide)) (by kernel_rfl) (by kernel_rfl) (fun e_ w173 hR => ?_)
        obtain ⟨A164, c165, A166, c167, rfl, H175, hC168, hL169⟩ := hR
        simp only [← hz170, ← hq171, ← hv172] at H175 hC168 hL169 ⊢
        have H174 : Hp w [] [.blk p14 [.slice A164 q171.length c165, .bool z170] 107, .row A15 xs.length c16 5 1 (by8 xs), .row A166 v172.length c167 5 1 (by8 v172), .blk p3 [.int .u32 0, .slice none 0 0, .slice none 0 0, .int .u32 0] 26, .blk p38 [.int .u32 (((getB v32) : Nat) : Int), .slice Ai ins.length ci, .slice Ao ko co, .int .u32 0] 26, .row Ai ins.length ci 53 35 (insC ins), .bag Gi, .row Ao ko co 40 2 (outsC outs), .bag Go] w173 := Hp.callL (A := [.blk p14 [.slice A151 q158.length c152, .bool z157] 107, .row A15 xs.length c16 5 1 (by8 xs)]) (B := [.blk p3 [.int .u32 0, .slice none 0 0, .slice none 0 0, .int .u32 0] 26, .blk p38 [.int .u32 (((getB v32) : Nat) : Int), .slice Ai ins.length ci, .slice Ao ko co, .int .u32 0] 26, .row Ai ins.length ci 53 35 (insC ins), .bag Gi, .row Ao ko co 40 2 (outsC outs), .bag Go]) H161 H175
        have hS176 : Hp w [] [.row A15 xs.length c16 5 1 (by8 xs), .blk p3 [.int .u32 0, .slice none 0 0, .slice none 0 0, .int .u32 0] 26, .blk p38 [.int .u32 (((getB v32) : Nat) : Int), .slice Ai ins.length ci, .slice Ao ko co, .int .u32 0] 26, .row Ai ins.length ci 53 35 (insC ins), .bag Gi, .bag Go] w173 := H174.sub (List.Sublist.cons _ (List.Sublist.cons_cons _ (List.Sublist.cons _ (List.Sublist.cons_cons _ (List.Sublist.cons_cons _ (List.Sublist.cons_cons _ (List.Sublist.cons_cons _ (List.Sublist.cons _ (List.Sublist.cons_cons _ (List.Sublist.slnil))))))))))
        refine ⟨_, rfl, hS176, [2, 4, 5, 41, 42, 45, 47, 49], [(2, pt p3 0), (4, pt p14 0), (5, pt p38 0), (41, .int .u64 (v82 : Int)), (42, .int .u64 (ko : Int)), (45, .slice Ao ko co), (47, .int .u64 (((getB v159) : Nat) : Int)), (49, .slice A166 v172.length c167)], by kernel_rfl, ?_⟩
        refine GP.run [6] [2, 4, 5, 41, 42, 45, 50] [(2, pt p3 0), (4, pt p14 0), (5, pt p38 0), (41, .int .u64 (v82 : Int)), (42, .int .u64 (ko : Int)), (45, .slice Ao ko co), (50, .agg #[.int .u64 (((getB v159) : Nat) : Int), .slice A166 v172.length c167])] [0, 1, 2, 4, 3, 5, 6] (by kernel_rfl) rfl hS176 ?_
        obtain ⟨p177, w178, r179, H180⟩ := H174.made (P := Try.prog) (Instr.buildSlice 24 1 #[(0, .agg #[.int .u64 (((getB v159) : Nat) : Int), .slice A166 v172.length c167])]) (fun b_ => .slice (some ⟨b_, 0, none⟩) 1 1) [.int .u64 (((getB v159) : Nat) : Int), .slice A166 v172.length c167] 40 (by kernel_rfl)
        have H180 : Hp w [] [.blk p14 [.slice A164 q171.length c165, .bool z170] 107, .row A15 xs.length c16 5 1 (by8 xs), .row A166 v172.length c167 5 1 (by8 v172), .blk p3 [.int .u32 0, .slice none 0 0, .slice none 0 0, .int .u32 0] 26, .blk p38 [.int .u32 (((getB v32) : Nat) : Int), .slice Ai ins.length ci, .slice Ao ko co, .int .u32 0] 26, .row Ai ins.length ci 53 35 (insC ins), .bag Gi, .row Ao ko co 40 2 (outsC outs), .bag Go, .blk p177 [.int .u64 (((getB v159) : Nat) : Int), .slice A166 v172.length c167] 40] w178 := H180
        have hS181 : Hp w [] [.row A15 xs.length c16 5 1 (by8 xs), .blk p3 [.int .u32 0, .slice none 0 0, .slice none 0 0, .int .u32 0] 26, .blk p38 [.int .u32 (((getB v32) : Nat) : Int), .slice Ai ins.length ci, .slice Ao ko co, .int .u32 0] 26, .row Ai ins.length ci 53 35 (insC ins), .bag Gi, .bag Go] w178 := H180.sub (List.Sublist.cons _ (List.Sublist.cons_cons _ (List.Sublist.cons _ (List.Sublist.cons_cons _ (List.Sublist.cons_cons _ (List.Sublist.cons_cons _ (List.Sublist.cons_cons _ (List.Sublist.cons _ (List.Sublist.cons_cons _ (List.Sublist.cons _ (List.Sublist.slnil)))))))))))
        refine GP.made 7 r179 [2, 4, 5, 41, 42, 45, 51] [(2, pt p3 0), (4, pt p14 0), (5, pt p38 0), (41, .int .u64 (v82 : Int)), (42, .int .u64 (ko : Int)), (45, .slice Ao ko co), (51, .slice (some ⟨p177, 0, none⟩) 1 1)] (by kernel_rfl) (by kernel_rfl) (by kernel_rfl) hS181 ?_
        obtain ⟨A182, c183, w184, r185, H186⟩ := H180.append (P := Try.prog) (e := 40) (sz := 2) (by_ := 32) (n := ko) (c := co) (m := 1) (d := 1) (t := 24) (ty := 24) (xs := outsC outs) (news := [.int .u64 (((getB v159) : Nat) : Int), .slice A166 v172.length c167]) 7 rfl (by kernel_rfl) (H180.rdBlk (o := 0) (xs := [.int .u64 (((getB v159) : Nat) : Int), .slice A166 v172.length c167]) 9 2 rfl rfl) (by simp) (by simp [Value.oneCell']) (by omega) (by simp only [maxLen]; omega)
        have H186 : Hp w [] [.blk p14 [.slice A164 q171.length c165, .bool z170] 107, .row A15 xs.length c16 5 1 (by8 xs), .row A166 v172.length c167 5 1 (by8 v172), .blk p3 [.int .u32 0, .slice none 0 0, .slice none 0 0, .int .u32 0] 26, .blk p38 [.int .u32 (((getB v32) : Nat) : Int), .slice Ai ins.length ci, .slice Ao ko co, .int .u32 0] 26, .row Ai ins.length ci 53 35 (insC ins), .bag Gi, .row A182 (ko + 1) c183 40 2 (outsC outs ++ [.int .u64 (((getB v159) : Nat) : Int), .slice A166 v172.length c167]), .bag Go, .blk p177 [.int .u64 (((getB v159) : Nat) : Int), .slice A166 v172.length c167] 40] w184 := H186
        have hS187 : Hp w [] [.row A15 xs.length c16 5 1 (by8 xs), .blk p3 [.int .u32 0, .slice none 0 0, .slice none 0 0, .int .u32 0] 26, .blk p38 [.int .u32 (((getB v32) : Nat) : Int), .slice Ai ins.length ci, .slice Ao ko co, .int .u32 0] 26, .row Ai ins.length ci 53 35 (insC ins), .bag Gi, .bag Go] w184 := H186.sub (List.Sublist.cons _ (List.Sublist.cons_cons _ (List.Sublist.cons _ (List.Sublist.cons_cons _ (List.Sublist.cons_cons _ (List.Sublist.cons_cons _ (List.Sublist.cons_cons _ (List.Sublist.cons _ (List.Sublist.cons_cons _ (List.Sublist.cons _ (List.Sublist.slnil)))))))))))
        refine GP.made 8 r185 [2, 4, 5, 41, 42, 52] [(2, pt p3 0), (4, pt p14 0), (5, pt p38 0), (41, .int .u64 (v82 : Int)), (42, .int .u64 (ko : Int)), (52, .slice A182 (ko + 1) c183)] (by kernel_rfl) (by kernel_rfl) (by kernel_rfl) hS187 ?_
        refine GP.run [9] [2, 4, 5, 41, 42, 52, 53] [(2, pt p3 0), (4, pt p14 0), (5, pt p38 0), (41, .int .u64 (v82 : Int)), (42, .int .u64 (ko : Int)), (52, .slice A182 (ko + 1) c183), (53, pt p38 2)] [0, 1, 2, 4, 3, 5, 6, 7, 8, 9] (by kernel_rfl) rfl hS187 ?_
        obtain ⟨w188, r189, H190⟩ := H186.st (P := Try.prog) (o := 2) (ty := 24) (v := .slice A182 (ko + 1) c183) 4 rfl (by kernel_rfl) (by simp) rfl
        have H190 : Hp w [] [.blk p14 [.slice A164 q171.length c165, .bool z170] 107, .row A15 xs.length c16 5 1 (by8 xs), .row A166 v172.length c167 5 1 (by8 v172), .blk p3 [.int .u32 0, .slice none 0 0, .slice none 0 0, .int .u32 0] 26, .blk p38 [.int .u32 (((getB v32) : Nat) : Int), .slice Ai ins.length ci, .slice A182 (ko + 1) c183, .int .u32 0] 26, .row Ai ins.length ci 53 35 (insC ins), .bag Gi, .row A182 (ko + 1) c183 40 2 (outsC outs ++ [.int .u64 (((getB v159) : Nat) : Int), .slice A166 v172.length c167]), .bag Go, .blk p177 [.int .u64 (((getB v159) : Nat) : Int), .slice A166 v172.length c167] 40] w188 := H190
        refine GP.semUL 10 r189 [2, 4, 5, 41, 42] [(2, pt p3 0), (4, pt p14 0), (5, pt p38 0), (41, .int .u64 (v82 : Int)), (42, .int .u64 (ko : Int))] (by kernel_rfl) rfl rfl (by kernel_rfl) (by kernel_rfl) ?_
        refine GP.k (by kernel_rfl) hK147 (fun _ _ h => h) ?_
        refine G.region ?_
        refine GL.run (j := 2) 2 [2, 4, 5, 41, 42] [(2, pt p3 0), (4, pt p14 0), (5, pt p38 0), (41, .int .u64 (v82 : Int)), (42, .int .u64 (IntKind.u64.wrap ((ko : Int) + 1)))] (by kernel_rfl) rfl ?_
        have e191 : (IntKind.u64.wrap ((ko : Int) + 1)) = ((ko + 1 : Nat) : Int) := by rw [in_u64 (by omega)]; omega
        refine GL.eq (M' := [(2, pt p3 0), (4, pt p14 0), (5, pt p38 0), (41, .int .u64 (v82 : Int)), (42, .int .u64 ((ko + 1 : Nat) : Int))]) (by rw [e191]) ?_
        clear e191
        obtain ⟨x192, hx193⟩ : ∃ x_ : TOut, x_.pv = getB v159 ∧ x_.B = A166 ∧ x_.lb = v172 ∧ x_.lc = c167 := ⟨⟨getB v159, A166, v172, c167⟩, rfl, rfl, rfl, rfl⟩
        have H194 : Hp w [] [.blk p14 [.slice A164 q171.length c165, .bool z170] 107, .row A15 xs.length c16 5 1 (by8 xs), .row A166 v172.length c167 5 1 (by8 v172), .blk p3 [.int .u32 0, .slice none 0 0, .slice none 0 0, .int .u32 0] 26, .blk p38 [.int .u32 (((getB v32) : Nat) : Int), .slice Ai ins.length ci, .slice A182 (ko + 1) c183, .int .u32 0] 26, .row Ai ins.length ci 53 35 (insC ins), .bag Gi, .row A182 (ko + 1) c183 40 2 (outsC outs ++ [.int .u64 (((getB v159) : Nat) : Int), .slice A166 v172.length c167]), .bag Go] w188 := H190.sub (List.Sublist.cons_cons _ (List.Sublist.cons_cons _ (List.Sublist.cons_cons _ (List.Sublist.cons_cons _ (List.Sublist.cons_cons _ (List.Sublist.cons_cons _ (List.Sublist.cons_cons _ (List.Sublist.cons_cons _ (List.Sublist.cons_cons _ (List.Sublist.cons _ (List.Sublist.slnil)))))))))))
        have H195 := ((Hp.reorder (L' := [.row A166 v172.length c167 5 1 (by8 v172), .bag Go, .blk p14 [.slice A164 q171.length c165, .bool z170] 107, .row A15 xs.length c16 5 1 (by8 xs), .blk p3 [.int .u32 0, .slice none 0 0, .slice none 0 0, .int .u32 0] 26, .blk p38 [.int .u32 (((getB v32) : Nat) : Int), .slice Ai ins.length ci, .slice A182 (ko + 1) c183, .int .u32 0] 26, .row Ai ins.length ci 53 35 (insC ins), .bag Gi, .row A182 (ko + 1) c183 40 2 (outsC outs ++ [.int .u64 (((getB v159) : Nat) : Int), .slice A166 v172.length c167])]) H194 (List.Perm.trans (List.Perm.cons _ (List.Perm.swap _ _ _)) (List.Perm.trans (List.Perm.swap _ _ _) (List.Perm.cons _ (List.Perm.trans (List.Perm.cons _ (List.Perm.cons _ (List.Perm.cons _ (List.Perm.cons _ (List.Perm.cons _ (List.Perm.cons _ (List.Perm.swap _ _ _))))))) (List.Perm.trans (List.Perm.cons _ (List.Perm.cons _ (List.Perm.cons _ (List.Perm.cons _ (List.Perm.cons _ (List.Perm.swap _ _ _)))))) (List.Perm.trans (List.Perm.cons _ (List.Perm.cons _ (List.Perm.cons _ (List.Perm.cons _ (List.Perm.swap _ _ _))))) (List.Perm.trans (List.Perm.cons _ (List.Perm.cons _ (List.Perm.cons _ (List.Perm.swap _ _ _)))) (List.Perm.trans (List.Perm.cons _ (List.Perm.cons _ (List.Perm.swap _ _ _))) (List.Perm.trans (List.Perm.cons _ (List.Perm.swap _ _ _)) (List.Perm.trans (List.Perm.swap _ _ _) (List.Perm.refl _))))))))))))).bagIn
        have H196 := (Hp.reorder (L' := [.blk p14 [.slice A164 q171.length c165, .bool z170] 107, .row A15 xs.length c16 5 1 (by8 xs), .blk p3 [.int .u32 0, .slice none 0 0, .slice none 0 0, .int .u32 0] 26, .blk p38 [.int .u32 (((getB v32) : Nat) : Int), .slice Ai ins.length ci, .slice A182 (ko + 1) c183, .int .u32 0] 26, .row Ai ins.length ci 53 35 (insC ins), .bag Gi, .row A182 (ko + 1) c183 40 2 (outsC outs ++ [.int .u64 (((getB v159) : Nat) : Int), .slice A166 v172.length c167]), .bag ((A166, v172.length, c167, 5, by8 v172) :: Go)]) H195 (List.Perm.trans (List.Perm.swap _ _ _) (List.Perm.cons _ (List.Perm.trans (List.Perm.swap _ _ _) (List.Perm.cons _ (List.Perm.trans (List.Perm.swap _ _ _) (List.Perm.cons _ (List.Perm.trans (List.Perm.swap _ _ _) (List.Perm.cons _ (List.Perm.trans (List.Perm.swap _ _ _) (List.Perm.cons _ (List.Perm.trans (List.Perm.swap _ _ _) (List.Perm.cons _ (List.Perm.trans (List.Perm.swap _ _ _) (List.Perm.refl _)))))))))))))))
        have H197 : Hp w [] [.blk p14 [.slice A164 q171.length c165, .bool z170] 107, .row A15 xs.length c16 5 1 (by8 xs), .blk p3 [.int .u32 0, .slice none 0 0, .slice none 0 0, .int .u32 0] 26, .blk p38 [.int .u32 (((getB v32) : Nat) : Int), .slice Ai ins.length ci, .slice A182 (ko + 1) c183, .int .u32 0] 26, .row Ai ins.length ci 53 35 (insC ins), .bag Gi, .row A182 (ko + 1) c183 40 2 (outsC (outs ++ [x192])), .bag ((x192.B, x192.lb.length, x192.lc, 5, by8 x192.lb) :: Go)] w188 := by
          rw [outsC_snoc, hx193.2.2.1, hx193.2.1, hx193.2.2.2, TOut.cells, hx193.1, hx193.2.2.1, hx193.2.1, hx193.2.2.2]
          exact H196
        have hR198 : RdOut zo qo z170 q171 x192 := ⟨_, _, _, hz157, hq158, hv159, hz170, hq171, hx193.2.2.1.trans hv172, hx193.1⟩
        have h520v172 : v172.length ≤ 520 := by rw [hv172]; exact Nat.le_trans (rV_le _ _ _) (ctV_le _ _ _)
        refine GL.fit (ts := [2, 4, 5, 41, 42]) (M' := [(2, pt p3 0), (4, pt p14 0), (5, pt p38 0), (41, .int .u64 (v82 : Int)), (42, .int .u64 ((ko + 1 : Nat) : Int))]) (by kernel_rfl) ?_
        refine GL.eq (M' := [(2, pt p3 0), (4, pt p14 0), (5, pt p38 0), (41, .int .u64 (v82 : Int)), (42, .int .u64 (((ko + 1) : Nat) : Int))]) (by rfl) ?_
        exact GL.again ⟨(ko + 1), z170, q171, A164, c165, A182, c183, (outs ++ [x192]), ((x192.B, x192.lb.length, x192.lc, 5, by8 x192.lb) :: Go)⟩ [2, 4, 5, 41, 42] rfl (by kernel_rfl) (by show v82 - (ko + 1) < v82 - ko; omega) ⟨⟨⟨by omega, hoL.step (by omega) hR198.back (fun y_ T_ hV_ hz_ hq_ => ⟨(hR198.on_ hz_ hq_ hV_).1, (hR198.on_ hz_ hq_ hV_).2.1, (hR198.on_ hz_ hq_ hV_).2.2.1⟩)⟩, outsB_more hoB ⟨by rw [hx193.1]; omega, by rw [hx193.2.2.1]; omega⟩, hC168, hL169, h6q171⟩, H197⟩
    · skip
      have hb69f := of_decide_eq_true hb69
      refine G.yes rfl ?_
      refine G.skipK hK68 (fun _ _ h => h) ?_
      refine G.seqK fun K199 hK200 => ?_
      refine G.block ?_
      refine G.heldP (Hp w [] [.row A15 xs.length c16 5 1 (by8 xs), .blk p3 [.int .u32 0, .slice none 0 0, .slice none 0 0, .int .u32 0] 26, .blk p38 [.int .u32 (((getB v32) : Nat) : Int), .slice Ai ki ci, .slice none 0 0, .int .u32 0] 26, .bag Gi]) (by kernel_rfl) (by kernel_rfl) (fun c_ a_ d_ v_ w_ h_ => hPan c_ a_ d_ v_ w_ h_) ?_
      have H201 := H64.drew
      generalize ({ w62 with drawn := w62.drawn + 1 } : World) = w202 at H201 ⊢
      have hS203 : Hp w [] [.row A15 xs.length c16 5 1 (by8 xs), .blk p3 [.int .u32 0, .slice none 0 0, .slice none 0 0, .int .u32 0] 26, .blk p38 [.int .u32 (((getB v32) : Nat) : Int), .slice Ai ki ci, .slice none 0 0, .int .u32 0] 26, .bag Gi] w202 := H201.sub (List.Sublist.cons _ (List.Sublist.cons_cons _ (List.Sublist.cons_cons _ (List.Sublist.cons_cons _ (List.Sublist.cons _ (List.Sublist.cons_cons _ (List.Sublist.slnil)))))))
      refine GP.run [0] [2, 4, 5, 19, 20, 22] [(2, pt p3 0), (4, pt p14 0), (5, pt p38 0), (19, .int .u64 (v57 : Int)), (20, .int .u64 (ki : Int)), (22, pt p38 1)] [0] (by kernel_rfl) rfl hS203 ?_
      refine GP.sem 1 (fun w_ H_ => H_.ld (o := 1) (ty := 23) (v := .slice Ai ki ci) 2 rfl (by kernel_rfl) rfl) [2, 4, 5, 19, 20, 23] [(2, pt p3 0), (4, pt p14 0), (5, pt p38 0), (19, .int .u64 (v57 : Int)), (20, .int .u64 (ki : Int)), (23, .slice Ai ki ci)] (by kernel_rfl) (by kernel_rfl) (by kernel_rfl) hS203 ?_
      refine GP.run [2, 5, 8, 10] [2, 4, 5, 19, 20, 23, 24, 27, 30, 32] [(2, pt p3 0), (4, pt p14 0), (5, pt p38 0), (19, .int .u64 (v57 : Int)), (20, .int .u64 (ki : Int)), (23, .slice Ai ki ci), (24, pt p14 0), (27, pt p14 0), (30, pt p14 0), (32, pt p14 0)] [0, 1, 2, 5, 8, 10] (by kernel_rfl) rfl hS203 ?_
      obtain ⟨z210, hz210⟩ : ∃ z_ : Bool, z_ = (!(rOK zi qi 32)) := ⟨_, rfl⟩
      obtain ⟨q211, hq211⟩ : ∃ q_ : List UInt8, q_ = rR zi qi 32 := ⟨_, rfl⟩
      obtain ⟨v212, hv212⟩ : ∃ v_ : List UInt8, v_ = rV zi qi 32 := ⟨_, rfl⟩
      have h6q211 : q211.length ≤ 1000000 := by rw [hq211]; refine Nat.le_trans (rR_le _ _ _) ?_; first | exact hi6 | (rw [← rfl]; exact hi6)
      have hlv212 : v212.length ≤ 32 := by rw [hv212]; exact rV_le _ _ _
      have hov212 : v212.length = 32 ∨ v212.length = 0 := by rw [hv212]; exact rV_or _ _ _
      refine GP.call 3 (Raw_calls (ids [.blk p14 [.slice Bi qi.length bi, .bool zi] 107, .row A15 xs.length c16 5 1 (by8 xs)]) p14 Bi qi.length bi zi A15 xs.length c16 xs qi 32 w202 (Hp.startL (A := [.blk p14 [.slice Bi qi.length bi, .bool zi] 107, .row A15 xs.length c16 5 1 (by8 xs)]) (B := [.blk p3 [.int .u32 0, .slice none 0 0, .slice none 0 0, .int .u32 0] 26, .blk p38 [.int .u32 (((getB v32) : Nat) : Int), .slice Ai ki ci, .slice none 0 0, .int .u32 0] 26, .row Ai ki ci 53 35 (insC ins), .bag Gi]) H201) hiC (rfl) (hic) (hi6)) (by kernel_rfl) (by kernel_rfl) (fun e_ w213 hR => ?_)
      obtain ⟨A204, c205, A206, c207, rfl, H215, hC208, hL209⟩ := hR
      simp only [← hz210, ← hq211, ← hv212] at H215 hC208 hL209 ⊢
      have H214 : Hp w [] [.blk p14 [.slice A204 q211.length c205, .bool z210] 107, .row A15 xs.length c16 5 1 (by8 xs), .row A206 v212.length c207 5 1 (by8 v212), .blk p3 [.int .u32 0, .slice none 0 0, .slice none 0 0, .int .u32 0] 26, .blk p38 [.int .u32 (((getB v32) : Nat) : Int), .slice Ai ki ci, .slice none 0 0, .int .u32 0] 26, .row Ai ki ci 53 35 (insC ins), .bag Gi] w213 := Hp.callL (A := [.blk p14 [.slice Bi qi.length bi, .bool zi] 107, .row A15 xs.length c16 5 1 (by8 xs)]) (B := [.blk p3 [.int .u32 0, .slice none 0 0, .slice none 0 0, .int .u32 0] 26, .blk p38 [.int .u32 (((getB v32) : Nat) : Int), .slice Ai ki ci, .slice none 0 0, .int .u32 0] 26, .row Ai ki ci 53 35 (insC ins), .bag Gi]) H201 H215
      have hS216 : Hp w [] [.row A15 xs.length c16 5 1 (by8 xs), .blk p3 [.int .u32 0, .slice none 0 0, .slice none 0 0, .int .u32 0] 26, .blk p38 [.int .u32 (((getB v32) : Nat) : Int), .slice Ai ki ci, .slice none 0 0, .int .u32 0] 26, .bag Gi] w213 := H214.sub (List.Sublist.cons _ (List.Sublist.cons_cons _ (List.Sublist.cons _ (List.Sublist.cons_cons _ (List.Sublist.cons_cons _ (List.Sublist.cons _ (List.Sublist.cons_cons _ (List.Sublist.slnil))))))))
      refine ⟨_, rfl, hS216, [2, 4, 5, 19, 20, 23, 25, 27, 30, 32], [(2, pt p3 0), (4, pt p14 0), (5, pt p38 0), (19, .int .u64 (v57 : Int)), (20, .int .u64 (ki : Int)), (23, .slice Ai ki ci), (25, .slice A206 v212.length c207), (27, pt p14 0), (30, pt p14 0), (32, pt p14 0)], by kernel_rfl, ?_⟩
      refine GP.call 4 (Hash32_calls A206 v212.length c207 v212 w213 (H214.rdRow 2 rfl) rfl hov212) (by kernel_rfl) (by kernel_rfl) (fun e_ w217 hR => ?_)
      obtain ⟨rfl, H219⟩ := hR
      have H218 : Hp w [] [.blk p14 [.slice A204 q211.length c205, .bool z210] 107, .row A15 xs.length c16 5 1 (by8 xs), .row A206 v212.length c207 5 1 (by8 v212), .blk p3 [.int .u32 0, .slice none 0 0, .slice none 0 0, .int .u32 0] 26, .blk p38 [.int .u32 (((getB v32) : Nat) : Int), .slice Ai ki ci, .slice none 0 0, .int .u32 0] 26, .row Ai ki ci 53 35 (insC ins), .bag Gi] w217 := H214.callNil H219
      have hS220 : Hp w [] [.row A15 xs.length c16 5 1 (by8 xs), .blk p3 [.int .u32 0, .slice none 0 0, .slice none 0 0, .int .u32 0] 26, .blk p38 [.int .u32 (((getB v32) : Nat) : Int), .slice Ai ki ci, .slice none 0 0, .int .u32 0] 26, .bag Gi] w217 := H218.sub (List.Sublist.cons _ (List.Sublist.cons_cons _ (List.Sublist.cons _ (List.Sublist.cons_cons _ (List.Sublist.cons_cons _ (List.Sublist.cons _ (List.Sublist.cons_cons _ (List.Sublist.slnil))))))))
      refine ⟨_, rfl, hS220, [2, 4, 5, 19, 20, 23, 26, 27, 30, 32], [(2, pt p3 0), (4, pt p14 0), (5, pt p38 0), (19, .int .u64 (v57 : Int)), (20, .int .u64 (ki : Int)), (23, .slice Ai ki ci), (26, .agg (by8 (hsh v212)).toArray), (27, pt p14 0), (30, pt p14 0), (32, pt p14 0)], by kernel_rfl, ?_⟩
      obtain ⟨z227, hz227⟩ : ∃ z_ : Bool, z_ = (!(rOK z210 q211 4)) := ⟨_, rfl⟩
      obtain ⟨q228, hq228⟩ : ∃ q_ : List UInt8, q_ = rR z210 q211 4 := ⟨_, rfl⟩
      obtain ⟨v229, hv229⟩ : ∃ v_ : List UInt8, v_ = rV z210 q211 4 := ⟨_, rfl⟩
      have h6q228 : q228.length ≤ 1000000 := by rw [hq228]; refine Nat.le_trans (rR_le _ _ _) ?_; first | exact h6q211 | (rw [← rfl]; exact h6q211)
      have hlv229 : v229.length ≤ 4 := by rw [hv229]; exact rV_le _ _ _
      have hbv229 : getB v229 < 4294967296 := Nat.lt_of_lt_of_le (getB_lt v229) (Nat.le_trans (Nat.pow_le_pow_right (by decide) hlv229) (by decide))
      refine GP.call 6 (Get4_calls (ids [.blk p14 [.slice A204 q211.length c205, .bool z210] 107, .row A15 xs.length c16 5 1 (by8 xs)]) p14 A204 q211.length c205 z210 A15 xs.length c16 xs q211 w217 (Hp.startL (A := [.blk p14 [.slice A204 q211.length c205, .bool z210] 107, .row A15 xs.length c16 5 1 (by8 xs)]) (B := [.row A206 v212.length c207 5 1 (by8 v212), .blk p3 [.int .u32 0, .slice none 0 0, .slice none 0 0, .int .u32 0] 26, .blk p38 [.int .u32 (((getB v32) : Nat) : Int), .slice Ai ki ci, .slice none 0 0, .int .u32 0] 26, .row Ai ki ci 53 35 (insC ins), .bag Gi]) H218) hC208 (rfl) (hL209) (h6q211)) (by kernel_rfl) (by kernel_rfl) (fun e_ w230 hR => ?_)
      obtain ⟨A221, c222, rfl, H232, hC225, hL226⟩ := hR
      simp only [← hz227, ← hq228, ← hv229] at H232 hC225 hL226 ⊢
      have H231 : Hp w [] [.blk p14 [.slice A221 q228.length c222, .bool z227] 107, .row A15 xs.length c16 5 1 (by8 xs), .row A206 v212.length c207 5 1 (by8 v212), .blk p3 [.int .u32 0, .slice none 0 0, .slice none 0 0, .int .u32 0] 26, .blk p38 [.int .u32 (((getB v32) : Nat) : Int), .slice Ai ki ci, .slice none 0 0, .int .u32 0] 26, .row Ai ki ci 53 35 (insC ins), .bag Gi] w230 := Hp.callL (A := [.blk p14 [.slice A204 q211.length c205, .bool z210] 107, .row A15 xs.length c16 5 1 (by8 xs)]) (B := [.row A206 v212.length c207 5 1 (by8 v212), .blk p3 [.int .u32 0, .slice none 0 0, .slice none 0 0, .int .u32 0] 26, .blk p38 [.int .u32 (((getB v32) : Nat) : Int), .slice Ai ki ci, .slice none 0 0, .int .u32 0] 26, .row Ai ki ci 53 35 (insC ins), .bag Gi]) H218 H232
      have hS233 : Hp w [] [.row A15 xs.length c16 5 1 (by8 xs), .blk p3 [.int .u32 0, .slice none 0 0, .slice none 0 0, .int .u32 0] 26, .blk p38 [.int .u32 (((getB v32) : Nat) : Int), .slice Ai ki ci, .slice none 0 0, .int .u32 0] 26, .bag Gi] w230 := H231.sub (List.Sublist.cons _ (List.Sublist.cons_cons _ (List.Sublist.cons _ (List.Sublist.cons_cons _ (List.Sublist.cons_cons _ (List.Sublist.cons _ (List.Sublist.cons_cons _ (List.Sublist.slnil))))))))
      refine ⟨_, rfl, hS233, [2, 4, 5, 19, 20, 23, 26, 28, 30, 32], [(2, pt p3 0), (4, pt p14 0), (5, pt p38 0), (19, .int .u64 (v57 : Int)), (20, .int .u64 (ki : Int)), (23, .slice Ai ki ci), (26, .agg (by8 (hsh v212)).toArray), (28, .int .u64 (((getB v229) : Nat) : Int)), (30, pt p14 0), (32, pt p14 0)], by kernel_rfl, ?_⟩
      refine GP.run [7] [2, 4, 5, 19, 20, 23, 26, 29, 30, 32] [(2, pt p3 0), (4, pt p14 0), (5, pt p38 0), (19, .int .u64 (v57 : Int)), (20, .int .u64 (ki : Int)), (23, .slice Ai ki ci), (26, .agg (by8 (hsh v212)).toArray), (29, .int .u32 (IntKind.u32.wrap (((getB v229) : Nat) : Int))), (30, pt p14 0), (32, pt p14 0)] [0, 1, 2, 5, 8, 10, 3, 4, 6, 7] (by kernel_rfl) rfl hS233 ?_
      have e234 : (IntKind.u32.wrap (((getB v229) : Nat) : Int)) = (((getB v229) : Nat) : Int) := in_u32 (by omega)
      refine GP.eq (M' := [(2, pt p3 0), (4, pt p14 0), (5, pt p38 0), (19, .int .u64 (v57 : Int)), (20, .int .u64 (ki : Int)), (23, .slice Ai ki ci), (26, .agg (by8 (hsh v212)).toArray), (29, .int .u32 (((getB v229) : Nat) : Int)), (30, pt p14 0), (32, pt p14 0)]) (by rw [e234]) ?_
      clear e234
      obtain ⟨z241, hz241⟩ : ∃ z_ : Bool, z_ = (!(cdOK z227 q228 520)) := ⟨_, rfl⟩
      obtain ⟨q242, hq242⟩ : ∃ q_ : List UInt8, q_ = cdR z227 q228 520 := ⟨_, rfl⟩
      obtain ⟨v243, hv243⟩ : ∃ v_ : List UInt8, v_ = cdV z227 q228 520 := ⟨_, rfl⟩
      have h6q242 : q242.length ≤ 1000000 := by rw [hq242]; refine Nat.le_trans (cdR_le _ _ _) ?_; first | exact h6q228 | (rw [← rfl]; exact h6q228)
      refine GP.call 9 (RCounted_calls (ids [.blk p14 [.slice A221 q228.length c222, .bool z227] 107, .row A15 xs.length c16 5 1 (by8 xs)]) p14 A221 q228.length c222 z227 A15 xs.length c16 xs q228 520 w230 (Hp.startL (A := [.blk p14 [.slice A221 q228.length c222, .bool z227] 107, .row A15 xs.length c16 5 1 (by8 xs)]) (B := [.row A206 v212.length c207 5 1 (by8 v212), .blk p3 [.int .u32 0, .slice none 0 0, .slice none 0 0, .int .u32 0] 26, .blk p38 [.int .u32 (((getB v32) : Nat) : Int), .slice Ai ki ci, .slice none 0 0, .int .u32 0] 26, .row Ai ki ci 53 35 (insC ins), .bag Gi]) H231) hC225 (rfl) (hL226) (h6q228) (by decide)) (by kernel_rfl) (by kernel_rfl) (fun e_ w244 hR => ?_)
      obtain ⟨A235, c236, A237, c238, rfl, H246, hC239, hL240⟩ := hR
      simp only [← hz241, ← hq242, ← hv243] at H246 hC239 hL240 ⊢
      have H245 : Hp w [] [.blk p14 [.slice A235 q242.length c236, .bool z241] 107, .row A15 xs.length c16 5 1 (by8 xs), .row A237 v243.length c238 5 1 (by8 v243), .row A206 v212.length c207 5 1 (by8 v212), .blk p3 [.int .u32 0, .slice none 0 0, .slice none 0 0, .int .u32 0] 26, .blk p38 [.int .u32 (((getB v32) : Nat) : Int), .slice Ai ki ci, .slice none 0 0, .int .u32 0] 26, .row Ai ki ci 53 35 (insC ins), .bag Gi] w244 := Hp.callL (A := [.blk p14 [.slice A221 q228.length c222, .bool z227] 107, .row A15 xs.length c16 5 1 (by8 xs)]) (B := [.row A206 v212.length c207 5 1 (by8 v212), .blk p3 [.int .u32 0, .slice none 0 0, .slice none 0 0, .int .u32 0] 26, .blk p38 [.int .u32 (((getB v32) : Nat) : Int), .slice Ai ki ci, .slice none 0 0, .int .u32 0] 26, .row Ai ki ci 53 35 (insC ins), .bag Gi]) H231 H246
      have hS247 : Hp w [] [.row A15 xs.length c16 5 1 (by8 xs), .blk p3 [.int .u32 0, .slice none 0 0, .slice none 0 0, .int .u32 0] 26, .blk p38 [.int .u32 (((getB v32) : Nat) : Int), .slice Ai ki ci, .slice none 0 0, .int .u32 0] 26, .bag Gi] w244 := H245.sub (List.Sublist.cons _ (List.Sublist.cons_cons _ (List.Sublist.cons _ (List.Sublist.cons _ (List.Sublist.cons_cons _ (List.Sublist.cons_cons _ (List.Sublist.cons _ (List.Sublist.cons_cons _ (List.Sublist.slnil)))))))))
      refine ⟨_, rfl, hS247, [2, 4, 5, 19, 20, 23, 26, 29, 31, 32], [(2, pt p3 0), (4, pt p14 0), (5, pt p38 0), (19, .int .u64 (v57 : Int)), (20, .int .u64 (ki : Int)), (23, .slice Ai ki ci), (26, .agg (by8 (hsh v212)).toArray), (29, .int .u32 (((getB v229) : Nat) : Int)), (31, .slice A237 v243.length c238), (32, pt p14 0)], by kernel_rfl, ?_⟩
      obtain ⟨z254, hz254⟩ : ∃ z_ : Bool, z_ = (!(rOK z241 q242 4)) := ⟨_, rfl⟩
      obtain ⟨q255, hq255⟩ : ∃ q_ : List UInt8, q_ = rR z241 q242 4 := ⟨_, rfl⟩
      obtain ⟨v256, hv256⟩ : ∃ v_ : List UInt8, v_ = rV z241 q242 4 := ⟨_, rfl⟩
      have h6q255 : q255.length ≤ 1000000 := by rw [hq255]; refine Nat.le_trans (rR_le _ _ _) ?_; first | exact h6q242 | (rw [← rfl]; exact h6q242)
      have hlv256 : v256.length ≤ 4 := by rw [hv256]; exact rV_le _ _ _
      have hbv256 : getB v256 < 4294967296 := Nat.lt_of_lt_of_le (getB_lt v256) (Nat.le_trans (Nat.pow_le_pow_right (by decide) hlv256) (by decide))
      refine GP.call 11 (Get4_calls (ids [.blk p14 [.slice A235 q242.length c236, .bool z241] 107, .row A15 xs.length c16 5 1 (by8 xs)]) p14 A235 q242.length c236 z241 A15 xs.length c16 xs q242 w244 (Hp.startL (A := [.blk p14 [.slice A235 q242.length c236, .bool z241] 107, .row A15 xs.length c16 5 1 (by8 xs)]) (B := [.row A237 v243.length c238 5 1 (by8 v243), .row A206 v212.length c207 5 1 (by8 v212), .blk p3 [.int .u32 0, .slice none 0 0, .slice none 0 0, .int .u32 0] 26, .blk p38 [.int .u32 (((getB v32) : Nat) : Int), .slice Ai ki ci, .slice none 0 0, .int .u32 0] 26, .row Ai ki ci 53 35 (insC ins), .bag Gi]) H245) hC239 (rfl) (hL240) (h6q242)) (by kernel_rfl) (by kernel_rfl) (fun e_ w257 hR => ?_)
      obtain ⟨A248, c249, rfl, H259, hC252, hL253⟩ := hR
      simp only [← hz254, ← hq255, ← hv256] at H259 hC252 hL253 ⊢
      have H258 : Hp w [] [.blk p14 [.slice A248 q255.length c249, .bool z254] 107, .row A15 xs.length c16 5 1 (by8 xs), .row A237 v243.length c238 5 1 (by8 v243), .row A206 v212.length c207 5 1 (by8 v212), .blk p3 [.int .u32 0, .slice none 0 0, .slice none 0 0, .int .u32 0] 26, .blk p38 [.int .u32 (((getB v32) : Nat) : Int), .slice Ai ki ci, .slice none 0 0, .int .u32 0] 26, .row Ai ki ci 53 35 (insC ins), .bag Gi] w257 := Hp.callL (A := [.blk p14 [.slice A235 q242.length c236, .bool z241] 107, .row A15 xs.length c16 5 1 (by8 xs)]) (B := [.row A237 v243.length c238 5 1 (by8 v243), .row A206 v212.length c207 5 1 (by8 v212), .blk p3 [.int .u32 0, .slice none 0 0, .slice none 0 0, .int .u32 0] 26, .blk p38 [.int .u32 (((getB v32) : Nat) : Int), .slice Ai ki ci, .slice none 0 0, .int .u32 0] 26, .row Ai ki ci 53 35 (insC ins), .bag Gi]) H245 H259
      have hS260 : Hp w [] [.row A15 xs.length c16 5 1 (by8 xs), .blk p3 [.int .u32 0, .slice none 0 0, .slice none 0 0, .int .u32 0] 26, .blk p38 [.int .u32 (((getB v32) : Nat) : Int), .slice Ai ki ci, .slice none 0 0, .int .u32 0] 26, .bag Gi] w257 := H258.sub (List.Sublist.cons _ (List.Sublist.cons_cons _ (List.Sublist.cons _ (List.Sublist.cons _ (List.Sublist.cons_cons _ (List.Sublist.cons_cons _ (List.Sublist.cons _ (List.Sublist.cons_cons _ (List.Sublist.slnil)))))))))
      refine ⟨_, rfl, hS260, [2, 4, 5, 19, 20, 23, 26, 29, 31, 33], [(2, pt p3 0), (4, pt p14 0), (5, pt p38 0), (19, .int .u64 (v57 : Int)), (20, .int .u64 (ki : Int)), (23, .slice Ai ki ci), (26, .agg (by8 (hsh v212)).toArray), (29, .int .u32 (((getB v229) : Nat) : Int)), (31, .slice A237 v243.length c238), (33, .int .u64 (((getB v256) : Nat) : Int))], by kernel_rfl, ?_⟩
      refine GP.run [12] [2, 4, 5, 19, 20, 23, 26, 29, 31, 34] [(2, pt p3 0), (4, pt p14 0), (5, pt p38 0), (19, .int .u64 (v57 : Int)), (20, .int .u64 (ki : Int)), (23, .slice Ai ki ci), (26, .agg (by8 (hsh v212)).toArray), (29, .int .u32 (((getB v229) : Nat) : Int)), (31, .slice A237 v243.length c238), (34, .int .u32 (IntKind.u32.wrap (((getB v256) : Nat) : Int)))] [0, 1, 2, 5, 8, 10, 3, 4, 6, 7, 9, 11, 12] (by kernel_rfl) rfl hS260 ?_
      have e261 : (IntKind.u32.wrap (((getB v256) : Nat) : Int)) = (((getB v256) : Nat) : Int) := in_u32 (by omega)
      refine GP.eq (M' := [(2, pt p3 0), (4, pt p14 0), (5, pt p38 0), (19, .int .u64 (v57 : Int)), (20, .int .u64 (ki : Int)), (23, .slice Ai ki ci), (26, .agg (by8 (hsh v212)).toArray), (29, .int .u32 (((getB v229) : Nat) : Int)), (31, .slice A237 v243.length c238), (34, .int .u32 (((getB v256) : Nat) : Int))]) (by rw [e261]) ?_
      clear e261
      obtain ⟨x262, hx263⟩ : ∃ x_ : TIn, x_.fr = (hsh v212) ∧ x_.ix = (getB v229) ∧ x_.B = A237 ∧ x_.kb = v243 ∧ x_.kc = c238 ∧ x_.sq = (getB v256) := ⟨⟨(hsh v212), (getB v229), A237, v243, c238, (getB v256)⟩, rfl, rfl, rfl, rfl, rfl, rfl⟩
      have hkx262 : x262.fr.length = 32 ∧ x262.kb.length = v243.length := ⟨by rw [hx263.1]; exact hsh_length _, by rw [hx263.2.2.2.1]⟩
      refine GP.sem 13 (fun w_ H_ => run_tinBuild hkx262.1 ⟨hx263.1, hx263.2.1, hx263.2.2.1, hkx262.2, hx263.2.2.2.2.1, hx263.2.2.2.2.2⟩ _) [2, 4, 5, 19, 20, 23, 35] [(2, pt p3 0), (4, pt p14 0), (5, pt p38 0), (19, .int .u64 (v57 : Int)), (20, .int .u64 (ki : Int)), (23, .slice Ai ki ci), (35, .agg (x262.cells).toArray)] (by kernel_rfl) (by kernel_rfl) (by kernel_rfl) hS260 ?_
      obtain ⟨p264, w265, r266, H267⟩ := H258.madeTIn x262 hkx262.1
      have H267 : Hp w [] [.blk p14 [.slice A248 q255.length c249, .bool z254] 107, .row A15 xs.length c16 5 1 (by8 xs), .row A237 v243.length c238 5 1 (by8 v243), .row A206 v212.length c207 5 1 (by8 v212), .blk p3 [.int .u32 0, .slice none 0 0, .slice none 0 0, .int .u32 0] 26, .blk p38 [.int .u32 (((getB v32) : Nat) : Int), .slice Ai ki ci, .slice none 0 0, .int .u32 0] 26, .row Ai ki ci 53 35 (insC ins), .bag Gi, .blk p264 x262.cells 53] w265 := H267
      have hS268 : Hp w [] [.row A15 xs.length c16 5 1 (by8 xs), .blk p3 [.int .u32 0, .slice none 0 0, .slice none 0 0, .int .u32 0] 26, .blk p38 [.int .u32 (((getB v32) : Nat) : Int), .slice Ai ki ci, .slice none 0 0, .int .u32 0] 26, .bag Gi] w265 := H267.sub (List.Sublist.cons _ (List.Sublist.cons_cons _ (List.Sublist.cons _ (List.Sublist.cons _ (List.Sublist.cons_cons _ (List.Sublist.cons_cons _ (List.Sublist.cons _ (List.Sublist.cons_cons _ (List.Sublist.cons _ (List.Sublist.slnil))))))))))
      refine GP.made 14 r266 [2, 4, 5, 19, 20, 23, 36] [(2, pt p3 0), (4, pt p14 0), (5, pt p38 0), (19, .int .u64 (v57 : Int)), (20, .int .u64 (ki : Int)), (23, .slice Ai ki ci), (36, .slice (some ⟨p264, 0, none⟩) 1 1)] (by kernel_rfl) (by kernel_rfl) (by kernel_rfl) hS268 ?_
      obtain ⟨A269, c270, w271, r272, H273⟩ := H267.append (P := Try.prog) (e := 53) (sz := 35) (by_ := 72) (n := ki) (c := ci) (m := 1) (d := 1) (t := 23) (ty := 23) (xs := insC ins) (news := x262.cells) 6 rfl (by kernel_rfl) (H267.rdBlk (o := 0) (xs := x262.cells) 8 35 rfl (tx_sub (TIn.cells_length hkx262.1))) (by rw [TIn.cells_length hkx262.1]) (TIn.cells_one) (by omega) (by simp only [maxLen]; omega)
      have H273 : Hp w [] [.blk p14 [.slice A248 q255.length c249, .bool z254] 107, .row A15 xs.length c16 5 1 (by8 xs), .row A237 v243.length c238 5 1 (by8 v243), .row A206 v212.length c207 5 1 (by8 v212), .blk p3 [.int .u32 0, .slice none 0 0, .slice none 0 0, .int .u32 0] 26, .blk p38 [.int .u32 (((getB v32) : Nat) : Int), .slice Ai ki ci, .slice none 0 0, .int .u32 0] 26, .row A269 (ki + 1) c270 53 35 (insC ins ++ x262.cells), .bag Gi, .blk p264 x262.cells 53] w271 := H273
      have hS274 : Hp w [] [.row A15 xs.length c16 5 1 (by8 xs), .blk p3 [.int .u32 0, .slice none 0 0, .slice none 0 0, .int .u32 0] 26, .blk p38 [.int .u32 (((getB v32) : Nat) : Int), .slice Ai ki ci, .slice none 0 0, .int .u32 0] 26, .bag Gi] w271 := H273.sub (List.Sublist.cons _ (List.Sublist.cons_cons _ (List.Sublist.cons _ (List.Sublist.cons _ (List.Sublist.cons_cons _ (List.Sublist.cons_cons _ (List.Sublist.cons _ (List.Sublist.cons_cons _ (List.Sublist.cons _ (List.Sublist.slnil))))))))))
      refine GP.made 15 r272 [2, 4, 5, 19, 20, 37] [(2, pt p3 0), (4, pt p14 0), (5, pt p38 0), (19, .int .u64 (v57 : Int)), (20, .int .u64 (ki : Int)), (37, .slice A269 (ki + 1) c270)] (by kernel_rfl) (by kernel_rfl) (by kernel_rfl) hS274 ?_
      refine GP.run [16] [2, 4, 5, 19, 20, 37, 38] [(2, pt p3 0), (4, pt p14 0), (5, pt p38 0), (19, .int .u64 (v57 : Int)), (20, .int .u64 (ki : Int)), (37, .slice A269 (ki + 1) c270), (38, pt p38 1)] [0, 1, 2, 5, 8, 10, 3, 4, 6, 7, 9, 11, 12, 13, 14, 15, 16] (by kernel_rfl) rfl hS274 ?_
      obtain ⟨w275, r276, H277⟩ := H273.st (P := Try.prog) (o := 1) (ty := 23) (v := .slice A269 (ki + 1) c270) 5 rfl (by kernel_rfl) (by simp) rfl
      have H277 : Hp w [] [.blk p14 [.slice A248 q255.length c249, .bool z254] 107, .row A15 xs.length c16 5 1 (by8 xs), .row A237 v243.length c238 5 1 (by8 v243), .row A206 v212.length c207 5 1 (by8 v212), .blk p3 [.int .u32 0, .slice none 0 0, .slice none 0 0, .int .u32 0] 26, .blk p38 [.int .u32 (((getB v32) : Nat) : Int), .slice A269 (ki + 1) c270, .slice none 0 0, .int .u32 0] 26, .row A269 (ki + 1) c270 53 35 (insC ins ++ x262.cells), .bag Gi, .blk p264 x262.cells 53] w275 := H277
      refine GP.semUL 17 r276 [2, 4, 5, 19, 20] [(2, pt p3 0), (4, pt p14 0), (5, pt p38 0), (19, .int .u64 (v57 : Int)), (20, .int .u64 (ki : Int))] (by kernel_rfl) rfl rfl (by kernel_rfl) (by kernel_rfl) ?_
      refine GP.k (by kernel_rfl) hK200 (fun _ _ h => h) ?_
      refine G.region ?_
      refine GL.run (j := 2) 2 [2, 4, 5, 19, 20] [(2, pt p3 0), (4, pt p14 0), (5, pt p38 0), (19, .int .u64 (v57 : Int)), (20, .int .u64 (IntKind.u64.wrap ((ki : Int) + 1)))] (by kernel_rfl) rfl ?_
      have e278 : (IntKind.u64.wrap ((ki : Int) + 1)) = ((ki + 1 : Nat) : Int) := by rw [in_u64 (by omega)]; omega
      refine GL.eq (M' := [(2, pt p3 0), (4, pt p14 0), (5, pt p38 0), (19, .int .u64 (v57 : Int)), (20, .int .u64 ((ki + 1 : Nat) : Int))]) (by rw [e278]) ?_
      clear e278
      have H279 : Hp w [] [.blk p14 [.slice A248 q255.length c249, .bool z254] 107, .row A15 xs.length c16 5 1 (by8 xs), .row A237 v243.length c238 5 1 (by8 v243), .blk p3 [.int .u32 0, .slice none 0 0, .slice none 0 0, .int .u32 0] 26, .blk p38 [.int .u32 (((getB v32) : Nat) : Int), .slice A269 (ki + 1) c270, .slice none 0 0, .int .u32 0] 26, .row A269 (ki + 1) c270 53 35 (insC ins ++ x262.cells), .bag Gi] w275 := H277.sub (List.Sublist.cons_cons _ (List.Sublist.cons_cons _ (List.Sublist.cons_cons _ (List.Sublist.cons _ (List.Sublist.cons_cons _ (List.Sublist.cons_cons _ (List.Sublist.cons_cons _ (List.Sublist.cons_cons _ (List.Sublist.cons _ (List.Sublist.slnil))))))))))
      have H280 := ((Hp.reorder (L' := [.row A237 v243.length c238 5 1 (by8 v243), .bag Gi, .blk p14 [.slice A248 q255.length c249, .bool z254] 107, .row A15 xs.length c16 5 1 (by8 xs), .blk p3 [.int .u32 0, .slice none 0 0, .slice none 0 0, .int .u32 0] 26, .blk p38 [.int .u32 (((getB v32) : Nat) : Int), .slice A269 (ki + 1) c270, .slice none 0 0, .int .u32 0] 26, .row A269 (ki + 1) c270 53 35 (insC ins ++ x262.cells)]) H279 (List.Perm.trans (List.Perm.cons _ (List.Perm.swap _ _ _)) (List.Perm.trans (List.Perm.swap _ _ _) (List.Perm.cons _ (List.Perm.trans (List.Perm.cons _ (List.Perm.cons _ (List.Perm.cons _ (List.Perm.cons _ (List.Perm.swap _ _ _))))) (List.Perm.trans (List.Perm.cons _ (List.Perm.cons _ (List.Perm.cons _ (List.Perm.swap _ _ _)))) (List.Perm.trans (List.Perm.cons _ (List.Perm.cons _ (List.Perm.swap _ _ _))) (List.Perm.trans (List.Perm.cons _ (List.Perm.swap _ _ _)) (List.Perm.trans (List.Perm.swap _ _ _) (List.Perm.refl _))))))))))).bagIn
      have H281 := (Hp.reorder (L' := [.blk p14 [.slice A248 q255.length c249, .bool z254] 107, .row A15 xs.length c16 5 1 (by8 xs), .blk p3 [.int .u32 0, .slice none 0 0, .slice none 0 0, .int .u32 0] 26, .blk p38 [.int .u32 (((getB v32) : Nat) : Int), .slice A269 (ki + 1) c270, .slice none 0 0, .int .u32 0] 26, .row A269 (ki + 1) c270 53 35 (insC ins ++ x262.cells), .bag ((A237, v243.length, c238, 5, by8 v243) :: Gi)]) H280 (List.Perm.trans (List.Perm.swap _ _ _) (List.Perm.cons _ (List.Perm.trans (List.Perm.swap _ _ _) (List.Perm.cons _ (List.Perm.trans (List.Perm.swap _ _ _) (List.Perm.cons _ (List.Perm.trans (List.Perm.swap _ _ _) (List.Perm.cons _ (List.Perm.trans (List.Perm.swap _ _ _) (List.Perm.refl _)))))))))))
      have H282 : Hp w [] [.blk p14 [.slice A248 q255.length c249, .bool z254] 107, .row A15 xs.length c16 5 1 (by8 xs), .blk p3 [.int .u32 0, .slice none 0 0, .slice none 0 0, .int .u32 0] 26, .blk p38 [.int .u32 (((getB v32) : Nat) : Int), .slice A269 (ki + 1) c270, .slice none 0 0, .int .u32 0] 26, .row A269 (ki + 1) c270 53 35 (insC (ins ++ [x262])), .bag ((x262.B, x262.kb.length, x262.kc, 5, by8 x262.kb) :: Gi)] w275 := by
        rw [insC_snoc, hx263.2.2.2.1, hx263.2.2.1, hx263.2.2.2.2.1]
        exact H281
      have hR283 : RdIn zi qi z254 q255 x262 := ⟨_, _, _, _, _, _, _, _, _, hz210, hq211, hv212, hz227, hq228, hv229, hz241, hq242, hx263.2.2.2.1.trans hv243, hz254, hq255, hv256, hx263.1, hx263.2.1, hx263.2.2.2.2.2⟩
      have h520v243 : v243.length ≤ 520 := by rw [hv243]; exact Nat.le_trans (rV_le _ _ _) (ctV_le _ _ _)
      refine GL.fit (ts := [2, 4, 5, 19, 20]) (M' := [(2, pt p3 0), (4, pt p14 0), (5, pt p38 0), (19, .int .u64 (v57 : Int)), (20, .int .u64 ((ki + 1 : Nat) : Int))]) (by kernel_rfl) ?_
      refine GL.eq (M' := [(2, pt p3 0), (4, pt p14 0), (5, pt p38 0), (19, .int .u64 (v57 : Int)), (20, .int .u64 (((ki + 1) : Nat) : Int))]) (by rfl) ?_
      exact GL.again ⟨(ki + 1), z254, q255, A248, c249, A269, c270, (ins ++ [x262]), ((x262.B, x262.kb.length, x262.kc, 5, by8 x262.kb) :: Gi)⟩ [2, 4, 5, 19, 20] rfl (by kernel_rfl) (by show v57 - (ki + 1) < v57 - ki; omega) ⟨⟨⟨by omega, hiL.step (by omega) hR283.back (fun y_ T_ hV_ hz_ hq_ => ⟨(hR283.on_ hz_ hq_ hV_).1, (hR283.on_ hz_ hq_ hV_).2.1, rfl⟩)⟩, insB_more hiB ⟨hkx262.1, by rw [hx263.2.1]; omega, by rw [hx263.2.2.2.2.2]; omega, by rw [hx263.2.2.2.1]; omega⟩, hC252, hL253, h6q255⟩, H282⟩
  · skip
    have hb11f := of_decide_eq_true hb11
    refine G.yes rfl ?_
    refine G.seqK fun K284 hK285 => ?_
    refine G.region ?_
    refine GL.run (j := 1) 1 [2, 11] [(2, pt p3 0), (11, .agg #[.int .u32 0, .slice none 0 0, .slice none 0 0, .int .u32 0])] (by kernel_rfl) rfl ?_
    obtain ⟨w286, r287, H288⟩ := H6.stA (P := Try.prog) (o := 0) (vs := [.int .u32 0, .slice none 0 0, .slice none 0 0, .int .u32 0]) (ty := 26) (m := 4) 0 rfl (by kernel_rfl) rfl (by simp) (by simp [Value.oneCell'])
    have H288 : Hp w [] [.blk p3 [.int .u32 0, .slice none 0 0, .slice none 0 0, .int .u32 0] 26] w286 := H288
    refine GL.semU (j := 2) r287 [2] [(2, pt p3 0)] (by kernel_rfl) rfl rfl rfl ?_
    refine GL.run (j := 3) 1 [2, 3] [(2, pt p3 0), (3, .int .i64 2)] (by kernel_rfl) rfl ?_
    refine GL.k rfl hK285 (fun _ _ h => h) ?_
    refine G.ret ?_
    intro F_ hF_ hM_
    refine hRet _ _ (bodyPost_2 rfl (RV.cell rfl (H288.ldA (o := 0) (ty := 26) (m := 4) (sub := [.int .u32 0, .slice none 0 0, .slice none 0 0, .int .u32 0]) 0 rfl (by kernel_rfl) rfl rfl)) (RV.tmp rfl) ?_ F_ hF_ hM_)
    have hno : NoTx xs := fun v0 ins0 outs0 lt0 hV he => by have h_ := hV.2.2.2.2.1; rw [← he] at h_; omega
    exact ⟨0, [], none, 0, [], none, 0, 0, [], [], 2, rfl, ((((H288.sub (List.nil_sublist _)).rowNil 53 35).rowNil 40 2).bagNil).bagNil, (fun x_ h_ => by simp at h_), (fun x_ h_ => by simp at h_), .inr ⟨rfl, rfl, rfl, rfl, rfl, hno⟩⟩
end Go.Proofs.Ytcedmbdahbdmaaa
set_option maxRecDepth 100000
namespace Go.Proofs.Ytcedmbdahbdmaaa
open Go.RowKit
theorem Grow_nil (n : Nat) (hn : n ≤ 1099511627776) (w : World) : Calls Try.prog 72 #[.slice none 0 0, .int .i64 (n : Int)] w fun e w' =>
    ∃ A c, e = .returned (.slice A 0 c) ∧ n ≤ c ∧ Hp w [] [.row A 0 c 5 1 (by8 [])] w' := by
  refine calls_G (args := [.slice none 0 0, .int .i64 (n : Int)]) Try.func72 rfl Try.ntmps72 rfl ?_
  intro Q0 hRet hNor hPan
  have H := Hp.start w
  have H : Hp w [] [] w := H
  refine G.seqK fun K1 hK2 => ?_
  refine G.region ?_
  refine GL.run (j := 1) 1 [0, 1] [(0, .slice none 0 0), (1, .int .i64 (n : Int))] (by kernel_rfl) rfl ?_
  refine GL.k rfl hK2 (fun _ _ h => h) ?_
  refine G.seqK fun K3 hK4 => ?_
  refine G.seqK fun K5 hK6 => ?_
  refine G.region ?_
  refine GL.run (j := 2) 2 [0, 1, 6] [(0, .slice none 0 0), (1, .int .i64 (n : Int)), (6, .bool (decide ((n : Int) < 0)))] (by kernel_rfl) rfl ?_
  refine GL.k rfl hK6 (fun _ _ h => h) ?_
  have hb7 : (decide ((n : Int) < 0)) = false := decide_eq_false (by omega)
  rw [hb7]
  refine G.no rfl ?_
  refine G.skipK hK4 (fun _ _ h => h) ?_
  refine G.seqK fun K8 hK9 => ?_
  refine G.seqK fun K10 hK11 => ?_
  refine G.region ?_
  refine GL.run (j := 8) 8 [0, 1] [(0, .slice none 0 0), (1, .int .i64 (IntKind.i64.wrap ((n : Int) - 0)))] (by kernel_rfl) rfl ?_
  have e12 : (IntKind.i64.wrap ((n : Int) - 0)) = (n : Int) := by rw [in_i64 (by omega)]; omega
  refine GL.eq (M' := [(0, .slice none 0 0), (1, .int .i64 (n : Int))]) (by rw [e12]) ?_
  clear e12
  refine GL.k rfl hK11 (fun _ _ h => h) ?_
  refine G.seqK fun K13 hK14 => ?_
  refine G.region ?_
  refine GL.run (j := 2) 2 [0, 1, 16] [(0, .slice none 0 0), (1, .int .i64 (n : Int)), (16, .bool (decide (0 < (n : Int))))] (by kernel_rfl) rfl ?_
  refine GL.k rfl hK14 (fun _ _ h => h) ?_
  cases hb15 : (decide (0 < (n : Int)))
  · skip
    have hb15f := of_decide_eq_false hb15
    have hn0 : n = 0 := by have := of_decide_eq_false hb15; omega
    refine G.no rfl ?_
    refine G.skipK hK9 (fun _ _ h => h) ?_
    refine G.seqK fun K16 hK17 => ?_
    refine G.region ?_
    refine GL.run (j := 2) 2 [4] [(4, .slice none 0 0)] (by kernel_rfl) rfl ?_
    refine GL.k rfl hK17 (fun _ _ h => h) ?_
    refine G.ret ?_
    intro F_ hF_ hM_
    refine hRet _ _ (bodyPost_1 rfl (RV.tmp rfl) ?_ F_ hF_ hM_)
    exact ⟨none, 0, rfl, by omega, H.rowNil 5 1⟩
  · skip
    have hb15f := of_decide_eq_true hb15
    have hn0 : 0 < n := by have := of_decide_eq_true hb15; omega
    refine G.yes rfl ?_
    refine G.region ?_
    refine GL.run (j := 5) 5 [0, 20, 21] [(0, .slice none 0 0), (20, .slice none 0 0), (21, .int .i64 (n : Int))] (by kernel_rfl) rfl ?_
    obtain ⟨b18, c19, w20, r21, hc22, H23⟩ := H.appendMake (P := Try.prog) (t := 38) (ti := 3) (ty := 38) (by_ := 1) (n := n) (by kernel_rfl) (by kernel_rfl) (by assumption) (by omega) (by simp only [maxLen]; omega)
    have H23 : Hp w [] [.row (some ⟨b18, 0, none⟩) 0 c19 5 1 (by8 [])] w20 := H23
    refine GL.sem (j := 6) (r21) [0, 22] [(0, .slice none 0 0), (22, .slice (some ⟨b18, 0, none⟩) n c19)] (by kernel_rfl) (by kernel_rfl) rfl ?_
    refine GL.run (j := 8) 2 [22, 24] [(22, .slice (some ⟨b18, 0, none⟩) n c19), (24, .int .i64 0)] (by kernel_rfl) rfl ?_
    refine GL.sem (j := 9) (run_sliceSl0 (P := Try.prog) (lo := none) (hi := some (.int .i64 0)) (t := 38) (len := n) (cap := c19) (A := (some ⟨b18, 0, none⟩)) (h := 0) (by kernel_rfl) (Or.inl ⟨rfl, rfl⟩) (Or.inr ⟨_, _, rfl, rfl⟩) (by omega)) [25] [(25, .slice (some ⟨b18, 0, none⟩) 0 c19)] (by kernel_rfl) (by kernel_rfl) rfl ?_
    refine GL.run (j := 10) 1 [0] [(0, .slice (some ⟨b18, 0, none⟩) 0 c19)] (by kernel_rfl) rfl ?_
    refine GL.k rfl hK9 (fun _ _ h => h) ?_
    refine G.seqK fun K24 hK25 => ?_
    refine G.region ?_
    refine GL.run (j := 2) 2 [4] [(4, .slice (some ⟨b18, 0, none⟩) 0 c19)] (by kernel_rfl) rfl ?_
    refine GL.k rfl hK25 (fun _ _ h => h) ?_
    refine G.ret ?_
    intro F_ hF_ hM_
    refine hRet _ _ (bodyPost_1 rfl (RV.tmp rfl) ?_ F_ hF_ hM_)
    exact ⟨_, _, rfl, by omega, H23⟩
theorem Concat_calls (b : Nat) (vs : List SB) (w : World) (hb : Blk w b (vs.map sv) 38) (hr : ∀ s ∈ vs, RdS w s.1 (by8 s.2.2)) (hn : (flat vs).length ≤ 1099511627776) (hvs : vs.length ≤ 1099511627776) :
    Calls Try.prog 53 #[.slice (some ⟨b, 0, none⟩) vs.length vs.length] w fun e w' => ∃ A c, e = .returned (.slice A (flat vs).length c) ∧ Hp w [] [.row A (flat vs).length c 5 1 (by8 (flat vs))] w' := by
  refine calls_G (args := [.slice (some ⟨b, 0, none⟩) vs.length vs.length]) Try.func53 rfl Try.ntmps53 rfl ?_
  intro Q0 hRet hNor hPan
  have H := Hp.start w
  have H : Hp w [] [] w := H
  refine G.seqK fun K1 hK2 => ?_
  refine G.region ?_
  refine GL.run (j := 1) 1 [0] [(0, .slice (some ⟨b, 0, none⟩) vs.length vs.length)] (by kernel_rfl) rfl ?_
  refine GL.k rfl hK2 (fun _ _ h => h) ?_
  refine G.seqK fun K3 hK4 => ?_
  refine G.region ?_
  refine GL.run (j := 1) 1 [0, 3] [(0, .slice (some ⟨b, 0, none⟩) vs.length vs.length), (3, .int .i64 0)] (by kernel_rfl) rfl ?_
  refine GL.k rfl hK4 (fun _ _ h => h) ?_
  refine G.seqK fun K5 hK6 => ?_
  refine G.seqK fun K7 hK8 => ?_
  refine G.region ?_
  refine GL.run (j := 3) 3 [0, 3, 9, 10, 11] [(0, .slice (some ⟨b, 0, none⟩) vs.length vs.length), (3, .int .i64 0), (9, .slice (some ⟨b, 0, none⟩) vs.length vs.length), (10, .int .i64 (vs.length : Int)), (11, .int .i64 0)] (by kernel_rfl) rfl ?_
  refine GL.k rfl hK8 (fun _ _ h => h) ?_
  refine G.block ?_
  refine G.fit [0, 3, 9, 10, 11] (M' := [(0, .slice (some ⟨b, 0, none⟩) vs.length vs.length), (3, .int .i64 0), (9, .slice (some ⟨b, 0, none⟩) vs.length vs.length), (10, .int .i64 (vs.length : Int)), (11, .int .i64 0)]) (by kernel_rfl) ?_
  refine G.eq (M' := [(0, .slice (some ⟨b, 0, none⟩) vs.length vs.length), (3, .int .i64 (((flat (vs.take 0)).length : Nat) : Int)), (9, .slice (some ⟨b, 0, none⟩) vs.length vs.length), (10, .int .i64 (vs.length : Int)), (11, .int .i64 0)]) (by rfl) ?_
  refine G.loop (X := Nat) (fun k => [(0, .slice (some ⟨b, 0, none⟩) vs.length vs.length), (3, .int .i64 (((flat (vs.take k)).length : Nat) : Int)), (9, .slice (some ⟨b, 0, none⟩) vs.length vs.length), (10, .int .i64 (vs.length : Int)), (11, .int .i64 (k : Int))]) (fun k w_ => (k ≤ vs.length) ∧ Hp w [] [] w_) (fun k => vs.length - (k)) 0 [0, 3, 9, 10, 11] (by kernel_rfl) ⟨Nat.zero_le _, H⟩ ?_
  rintro k w9 ⟨hi10, H11⟩
  refine G.eq (M' := [(0, .slice (some ⟨b, 0, none⟩) vs.length vs.length), (3, .int .i64 (((flat (vs.take k)).length : Nat) : Int)), (9, .slice (some ⟨b, 0, none⟩) vs.length vs.length), (10, .int .i64 (vs.length : Int)), (11, .int .i64 (k : Int))]) rfl ?_
  have H11 : Hp w [] [] w9 := H11
  have hk := hi10
  refine G.seqK fun K12 hK13 => ?_
  refine G.region ?_
  refine GL.run (j := 1) 1 [0, 3, 9, 10, 11, 12] [(0, .slice (some ⟨b, 0, none⟩) vs.length vs.length), (3, .int .i64 (((flat (vs.take k)).length : Nat) : Int)), (9, .slice (some ⟨b, 0, none⟩) vs.length vs.length), (10, .int .i64 (vs.length : Int)), (11, .int .i64 (k : Int)), (12, .bool (decide ((k : Int) < (vs.length : Int))))] (by kernel_rfl) rfl ?_
  refine GL.k rfl hK13 (fun _ _ h => h) ?_
  refine G.seqK fun K14 hK15 => ?_
  cases hb16 : (decide ((k : Int) < (vs.length : Int)))
  · skip
    have hb16f := of_decide_eq_false hb16
    have hge : vs.length ≤ k := by have := of_decide_eq_false hb16; omega
    refine G.no rfl ?_
    refine G.exitK hK6 (fun _ _ h => h) ?_
    refine G.seqK fun K17 hK18 => ?_
    refine G.region ?_
    refine GL.run (j := 1) 1 [0, 23] [(0, .slice (some ⟨b, 0, none⟩) vs.length vs.length), (23, .int .i64 (((flat (vs.take k)).length : Nat) : Int))] (by kernel_rfl) rfl ?_
    have e0 : vs.take k = vs := List.take_of_length_le (by omega)
    rw [e0]
    refine GL.call (j := 2) (Grow_nil ((flat vs).length) (by omega) w9) (by kernel_rfl) rfl (fun e_ w21 hR => ?_)
    obtain ⟨A19, c20, rfl, _, H23⟩ := hR
    have H22 : Hp w [] [.row A19 0 c20 5 1 (by8 [])] w21 := H11.callNew H23
    refine ⟨_, rfl, [0, 24], [(0, .slice (some ⟨b, 0, none⟩) vs.length vs.length), (24, .slice A19 0 c20)], by kernel_rfl, ?_⟩
    refine GL.run (j := 3) 1 [0, 6] [(0, .slice (some ⟨b, 0, none⟩) vs.length vs.length), (6, .slice A19 0 c20)] (by kernel_rfl) rfl ?_
    refine GL.k rfl hK18 (fun _ _ h => h) ?_
    refine G.seqK fun K24 hK25 => ?_
    refine G.seqK fun K26 hK27 => ?_
    refine G.region ?_
    refine GL.run (j := 3) 3 [6, 25, 26, 27] [(6, .slice A19 0 c20), (25, .slice (some ⟨b, 0, none⟩) vs.length vs.length), (26, .int .i64 (vs.length : Int)), (27, .int .i64 0)] (by kernel_rfl) rfl ?_
    refine GL.k rfl hK27 (fun _ _ h => h) ?_
    refine G.block ?_
    refine G.fit [6, 25, 26, 27] (M' := [(6, .slice A19 0 c20), (25, .slice (some ⟨b, 0, none⟩) vs.length vs.length), (26, .int .i64 (vs.length : Int)), (27, .int .i64 0)]) (by kernel_rfl) ?_
    refine G.eq (M' := [(6, .slice A19 ((flat (vs.take 0)).length) c20), (25, .slice (some ⟨b, 0, none⟩) vs.length vs.length), (26, .int .i64 (vs.length : Int)), (27, .int .i64 0)]) (by rfl) ?_
    refine G.loop (X := Nat × Option Addr × Nat) (fun ⟨k, A, c⟩ => [(6, .slice A ((flat (vs.take k)).length) c), (25, .slice (some ⟨b, 0, none⟩) vs.length vs.length), (26, .int .i64 (vs.length : Int)), (27, .int .i64 (k : Int))]) (fun ⟨k, A, c⟩ w_ => (k ≤ vs.length) ∧ Hp w [] [.row A ((flat (vs.take k)).length) c 5 1 (by8 (flat (vs.take k)))] w_) (fun ⟨k, A, c⟩ => vs.length - (k)) ⟨0, A19, c20⟩ [6, 25, 26, 27] (by kernel_rfl) ⟨Nat.zero_le _, H22⟩ ?_
    rintro ⟨k, A, c⟩ w28 ⟨hi29, H30⟩
    refine G.eq (M' := [(6, .slice A ((flat (vs.take k)).length) c), (25, .slice (some ⟨b, 0, none⟩) vs.length vs.length), (26, .int .i64 (vs.length : Int)), (27, .int .i64 (k : Int))]) rfl ?_
    have H30 : Hp w [] [.row A ((flat (vs.take k)).length) c 5 1 (by8 (flat (vs.take k)))] w28 := H30
    have hk := hi29
    refine G.seqK fun K31 hK32 => ?_
    refine G.region ?_
    refine GL.run (j := 1) 1 [6, 25, 26, 27, 28] [(6, .slice A ((flat (vs.take k)).length) c), (25, .slice (some ⟨b, 0, none⟩) vs.length vs.length), (26, .int .i64 (vs.length : Int)), (27, .int .i64 (k : Int)), (28, .bool (decide ((k : Int) < (vs.length : Int))))] (by kernel_rfl) rfl ?_
    refine GL.k rfl hK32 (fun _ _ h => h) ?_
    refine G.seqK fun K33 hK34 => ?_
    cases hb35 : (decide ((k : Int) < (vs.length : Int)))
    · skip
      have hb35f := of_decide_eq_false hb35
      have hge : vs.length ≤ k := by have := of_decide_eq_false hb35; omega
      refine G.no rfl ?_
      refine G.exitK hK25 (fun _ _ h => h) ?_
      refine G.seqK fun K36 hK37 => ?_
      refine G.region ?_
      refine GL.run (j := 2) 2 [2] [(2, .slice A ((flat (vs.take k)).length) c)] (by kernel_rfl) rfl ?_
      refine GL.k rfl hK37 (fun _ _ h => h) ?_
      refine G.ret ?_
      intro F_ hF_ hM_
      refine hRet _ _ (bodyPost_1 rfl (RV.tmp rfl) ?_ F_ hF_ hM_)
      have e0 : vs.take k = vs := List.take_of_length_le (by omega)
      rw [e0] at H30 ⊢
      exact ⟨_, _, rfl, H30⟩
    · skip
      have hb35f := of_decide_eq_true hb35
      have hlt : k < vs.length := by have := of_decide_eq_true hb35; omega
      obtain ⟨s, hs⟩ : ∃ s, vs[k]? = some s := ⟨vs[k], List.getElem?_eq_getElem hlt⟩
      have e1 := flat_take hs
      have e2 := flat_le vs (k + 1)
      rw [e1, List.length_append] at e2
      refine G.yes rfl ?_
      refine G.skipK hK34 (fun _ _ h => h) ?_
      refine G.seqK fun K38 hK39 => ?_
      refine G.block ?_
      refine G.seqK fun K40 hK41 => ?_
      refine G.region ?_
      refine GL.sem (j := 1) (run_idxSl (P := Try.prog) (k := .i64) (t := 125) (sz := 1) (a := ⟨b, 0, none⟩) (len := vs.length) (cap := vs.length) (j := k) (by kernel_rfl) rfl (by first | rfl | omega | (simp only [List.length_cons, List.length_nil, List.length_drop, List.length_take, List.length_append] <;> omega))) [6, 25, 26, 27, 29] [(6, .slice A ((flat (vs.take k)).length) c), (25, .slice (some ⟨b, 0, none⟩) vs.length vs.length), (26, .int .i64 (vs.length : Int)), (27, .int .i64 (k : Int)), (29, .pointer (some (Addr.add ⟨b, 0, none⟩ (k * 1))))] (by kernel_rfl) (by kernel_rfl) rfl ?_
      refine GL.sem (j := 2) (run_ld1 (P := Try.prog) (ty := 38) (a := (Addr.add ⟨b, 0, none⟩ (k * 1))) (v := sv s) (by kernel_rfl) (by rw [addr_add, (H30.oldBlk hb).cell]; simp [hs])) [6, 25, 26, 27, 30] [(6, .slice A ((flat (vs.take k)).length) c), (25, .slice (some ⟨b, 0, none⟩) vs.length vs.length), (26, .int .i64 (vs.length : Int)), (27, .int .i64 (k : Int)), (30, .slice s.1 s.2.2.length s.2.1)] (by kernel_rfl) (by kernel_rfl) rfl ?_
      refine GL.run (j := 3) 1 [6, 8, 25, 26, 27] [(6, .slice A ((flat (vs.take k)).length) c), (8, .slice s.1 s.2.2.length s.2.1), (25, .slice (some ⟨b, 0, none⟩) vs.length vs.length), (26, .int .i64 (vs.length : Int)), (27, .int .i64 (k : Int))] (by kernel_rfl) rfl ?_
      refine GL.k rfl hK41 (fun _ _ h => h) ?_
      refine G.region ?_
      refine GL.run (j := 2) 2 [25, 26, 27, 31, 32] [(25, .slice (some ⟨b, 0, none⟩) vs.length vs.length), (26, .int .i64 (vs.length : Int)), (27, .int .i64 (k : Int)), (31, .slice A ((flat (vs.take k)).length) c), (32, .slice s.1 s.2.2.length s.2.1)] (by kernel_rfl) rfl ?_
      obtain ⟨A42, c43, w44, r45, H46⟩ := H30.append (P := Try.prog) (e := 5) (sz := 1) (by_ := 1) (n := (flat (vs.take k)).length) (c := c) (m := s.2.2.length) (d := s.2.1) (t := 38) (ty := 38) (xs := by8 (flat (vs.take k))) (news := by8 s.2.2) 0 rfl (by kernel_rfl) ((hr s (List.mem_of_getElem? hs)).hp H30) (by simp [by8_length]) (by8_one _) (by omega) (by simp only [maxLen]; omega)
      rw [← by8_append] at H46
      have H46 : Hp w [] [.row A42 ((flat (vs.take k)).length + s.2.2.length) c43 5 1 (by8 ((flat (vs.take k)) ++ s.2.2))] w44 := H46
      refine GL.sem (j := 3) (r45) [25, 26, 27, 33] [(25, .slice (some ⟨b, 0, none⟩) vs.length vs.length), (26, .int .i64 (vs.length : Int)), (27, .int .i64 (k : Int)), (33, .slice A42 ((flat (vs.take k)).length + s.2.2.length) c43)] (by kernel_rfl) (by kernel_rfl) rfl ?_
      refine GL.run (j := 4) 1 [6, 25, 26, 27] [(6, .slice A42 ((flat (vs.take k)).length + s.2.2.length) c43), (25, .slice (some ⟨b, 0, none⟩) vs.length vs.length), (26, .int .i64 (vs.length : Int)), (27, .int .i64 (k : Int))] (by kernel_rfl) rfl ?_
      refine GL.k rfl hK39 (fun _ _ h => h) ?_
      refine G.region ?_
      refine GL.run (j := 2) 2 [6, 25, 26, 27] [(6, .slice A42 ((flat (vs.take k)).length + s.2.2.length) c43), (25, .slice (some ⟨b, 0, none⟩) vs.length vs.length), (26, .int .i64 (vs.length : Int)), (27, .int .i64 (IntKind.i64.wrap ((k : Int) + 1)))] (by kernel_rfl) rfl ?_
      have e47 : (IntKind.i64.wrap ((k : Int) + 1)) = ((k + 1 : Nat) : Int) := by rw [in_i64 (by omega)]; omega
      refine GL.eq (M' := [(6, .slice A42 ((flat (vs.take k)).length + s.2.2.length) c43), (25, .slice (some ⟨b, 0, none⟩) vs.length vs.length), (26, .int .i64 (vs.length : Int)), (27, .int .i64 ((k + 1 : Nat) : Int))]) (by rw [e47]) ?_
      clear e47
      have H48 : Hp w [] [.row A42 ((flat (vs.take (k + 1))).length) c43 5 1 (by8 (flat (vs.take (k + 1))))] w44 := by rw [e1, List.length_append]; exact H46
      refine GL.fit (ts := [6, 25, 26, 27]) (M' := [(6, .slice A42 ((flat (vs.take k)).length + s.2.2.length) c43), (25, .slice (some ⟨b, 0, none⟩) vs.length vs.length), (26, .int .i64 (vs.length : Int)), (27, .int .i64 ((k + 1 : Nat) : Int))]) (by kernel_rfl) ?_
      refine GL.eq (M' := [(6, .slice A42 ((flat (vs.take (k + 1))).length) c43), (25, .slice (some ⟨b, 0, none⟩) vs.length vs.length), (26, .int .i64 (vs.length : Int)), (27, .int .i64 ((k + 1 : Nat) : Int))]) (by rw [e1, List.length_append]) ?_
      exact GL.again ⟨k + 1, A42, c43⟩ [6, 25, 26, 27] rfl (by kernel_rfl) (by show vs.length - (k + 1) < vs.length - (k); omega) ⟨by omega, H48⟩
  · skip
    have hb16f := of_decide_eq_true hb16
    have hlt : k < vs.length := by have := of_decide_eq_true hb16; omega
    obtain ⟨s, hs⟩ : ∃ s, vs[k]? = some s := ⟨vs[k], List.getElem?_eq_getElem hlt⟩
    have e1 := flat_take hs
    have e2 := flat_le vs (k + 1)
    rw [e1, List.length_append] at e2
    refine G.yes rfl ?_
    refine G.skipK hK15 (fun _ _ h => h) ?_
    refine G.seqK fun K49 hK50 => ?_
    refine G.block ?_
    refine G.seqK fun K51 hK52 => ?_
    refine G.region ?_
    refine GL.sem (j := 1) (run_idxSl (P := Try.prog) (k := .i64) (t := 125) (sz := 1) (a := ⟨b, 0, none⟩) (len := vs.length) (cap := vs.length) (j := k) (by kernel_rfl) rfl (by first | rfl | omega | (simp only [List.length_cons, List.length_nil, List.length_drop, List.length_take, List.length_append] <;> omega))) [0, 3, 9, 10, 11, 13] [(0, .slice (some ⟨b, 0, none⟩) vs.length vs.length), (3, .int .i64 (((flat (vs.take k)).length : Nat) : Int)), (9, .slice (some ⟨b, 0, none⟩) vs.length vs.length), (10, .int .i64 (vs.length : Int)), (11, .int .i64 (k : Int)), (13, .pointer (some (Addr.add ⟨b, 0, none⟩ (k * 1))))] (by kernel_rfl) (by kernel_rfl) rfl ?_
    refine GL.sem (j := 2) (run_ld1 (P := Try.prog) (ty := 38) (a := (Addr.add ⟨b, 0, none⟩ (k * 1))) (v := sv s) (by kernel_rfl) (by rw [addr_add, (H11.oldBlk hb).cell]; simp [hs])) [0, 3, 9, 10, 11, 14] [(0, .slice (some ⟨b, 0, none⟩) vs.length vs.length), (3, .int .i64 (((flat (vs.take k)).length : Nat) : Int)), (9, .slice (some ⟨b, 0, none⟩) vs.length vs.length), (10, .int .i64 (vs.length : Int)), (11, .int .i64 (k : Int)), (14, .slice s.1 s.2.2.length s.2.1)] (by kernel_rfl) (by kernel_rfl) rfl ?_
    refine GL.run (j := 3) 1 [0, 3, 5, 9, 10, 11] [(0, .slice (some ⟨b, 0, none⟩) vs.length vs.length), (3, .int .i64 (((flat (vs.take k)).length : Nat) : Int)), (5, .slice s.1 s.2.2.length s.2.1), (9, .slice (some ⟨b, 0, none⟩) vs.length vs.length), (10, .int .i64 (vs.length : Int)), (11, .int .i64 (k : Int))] (by kernel_rfl) rfl ?_
    refine GL.k rfl hK52 (fun _ _ h => h) ?_
    refine G.seqK fun K53 hK54 => ?_
    refine G.region ?_
    refine GL.run (j := 5) 5 [0, 3, 9, 10, 11] [(0, .slice (some ⟨b, 0, none⟩) vs.length vs.length), (3, .int .i64 (IntKind.i64.wrap ((((flat (vs.take k)).length : Nat) : Int) + (s.2.2.length : Int)))), (9, .slice (some ⟨b, 0, none⟩) vs.length vs.length), (10, .int .i64 (vs.length : Int)), (11, .int .i64 (k : Int))] (by kernel_rfl) rfl ?_
    have e55 : (IntKind.i64.wrap ((((flat (vs.take k)).length : Nat) : Int) + (s.2.2.length : Int))) = ((((flat (vs.take k)).length) + s.2.2.length : Nat) : Int) := by rw [in_i64 (by first | rfl | omega | (simp only [List.length_cons, List.length_nil, List.length_drop, List.length_take, List.length_append] <;> omega))]; omega
    refine GL.eq (M' := [(0, .slice (some ⟨b, 0, none⟩) vs.length vs.length), (3, .int .i64 ((((flat (vs.take k)).length) + s.2.2.length : Nat) : Int)), (9, .slice (some ⟨b, 0, none⟩) vs.length vs.length), (10, .int .i64 (vs.length : Int)), (11, .int .i64 (k : Int))]) (by rw [e55]) ?_
    clear e55
    refine GL.k rfl hK54 (fun _ _ h => h) ?_
    refine G.seqK fun K56 hK57 => ?_
    refine G.region ?_
    refine GL.run (j := 2) 2 [0, 3, 9, 10, 11, 20] [(0, .slice (some ⟨b, 0, none⟩) vs.length vs.length), (3, .int .i64 ((((flat (vs.take k)).length) + s.2.2.length : Nat) : Int)), (9, .slice (some ⟨b, 0, none⟩) vs.length vs.length), (10, .int .i64 (vs.length : Int)), (11, .int .i64 (k : Int)), (20, .bool (decide (((((flat (vs.take k)).length) + s.2.2.length : Nat) : Int) < 0)))] (by kernel_rfl) rfl ?_
    refine GL.k rfl hK57 (fun _ _ h => h) ?_
    have hb58 : (decide (((((flat (vs.take k)).length) + s.2.2.length : Nat) : Int) < 0)) = false := decide_eq_false (by omega)
    rw [hb58]
    refine G.no rfl ?_
    refine G.skipK hK50 (fun _ _ h => h) ?_
    refine G.region ?_
    refine GL.run (j := 2) 2 [0, 3, 9, 10, 11] [(0, .slice (some ⟨b, 0, none⟩) vs.length vs.length), (3, .int .i64 ((((flat (vs.take k)).length) + s.2.2.length : Nat) : Int)), (9, .slice (some ⟨b, 0, none⟩) vs.length vs.length), (10, .int .i64 (vs.length : Int)), (11, .int .i64 (IntKind.i64.wrap ((k : Int) + 1)))] (by kernel_rfl) rfl ?_
    have e59 : (IntKind.i64.wrap ((k : Int) + 1)) = ((k + 1 : Nat) : Int) := by rw [in_i64 (by omega)]; omega
    refine GL.eq (M' := [(0, .slice (some ⟨b, 0, none⟩) vs.length vs.length), (3, .int .i64 ((((flat (vs.take k)).length) + s.2.2.length : Nat) : Int)), (9, .slice (some ⟨b, 0, none⟩) vs.length vs.length), (10, .int .i64 (vs.length : Int)), (11, .int .i64 ((k + 1 : Nat) : Int))]) (by rw [e59]) ?_
    clear e59
    refine GL.fit (ts := [0, 3, 9, 10, 11]) (M' := [(0, .slice (some ⟨b, 0, none⟩) vs.length vs.length), (3, .int .i64 ((((flat (vs.take k)).length) + s.2.2.length : Nat) : Int)), (9, .slice (some ⟨b, 0, none⟩) vs.length vs.length), (10, .int .i64 (vs.length : Int)), (11, .int .i64 ((k + 1 : Nat) : Int))]) (by kernel_rfl) ?_
    refine GL.eq (M' := [(0, .slice (some ⟨b, 0, none⟩) vs.length vs.length), (3, .int .i64 (((flat (vs.take (k + 1))).length : Nat) : Int)), (9, .slice (some ⟨b, 0, none⟩) vs.length vs.length), (10, .int .i64 (vs.length : Int)), (11, .int .i64 ((k + 1 : Nat) : Int))]) (by rw [e1, List.length_append]) ?_
    exact GL.again (k + 1) [0, 3, 9, 10, 11] rfl (by kernel_rfl) (by show vs.length - (k + 1) < vs.length - (k); omega) ⟨by omega, H11⟩
theorem Equal_calls (xs ys : List UInt8) (A B : Option Addr) (c d : Nat) (w : World) (hx : RdS w A (by8 xs)) (hy : RdS w B (by8 ys)) : Calls Try.prog 29 #[.slice A xs.length c, .slice B ys.length d] w fun e w' => e = .returned (.bool (xs == ys)) ∧ Hp w [] [] w' := by
  refine calls_G (args := [.slice A xs.length c, .slice B ys.length d]) Try.func29 rfl Try.ntmps29 rfl ?_
  intro Q0 hRet hNor hPan
  have H := Hp.start w
  have H : Hp w [] [] w := H
  refine G.seqK fun K1 hK2 => ?_
  refine G.region ?_
  refine GL.run (j := 1) 1 [0, 1] [(0, .slice A xs.length c), (1, .slice B ys.length d)] (by kernel_rfl) rfl ?_
  refine GL.k rfl hK2 (fun _ _ h => h) ?_
  refine G.seqK fun K3 hK4 => ?_
  refine G.region ?_
  refine GL.run (j := 1) 1 [1, 5] [(1, .slice B ys.length d), (5, .slice A xs.length c)] (by kernel_rfl) rfl ?_
  refine GL.sem (j := 2) (run_toStr (P := Try.prog) (src := 38) (dst := 9) (A := A) (bs := xs) (n := xs.length) (c := c) (by kernel_rfl) (by kernel_rfl) (hx.hp H) (rfl)) [1, 6] [(1, .slice B ys.length d), (6, .string (strOf xs))] (by kernel_rfl) (by kernel_rfl) rfl ?_
  refine GL.run (j := 3) 1 [6, 7] [(6, .string (strOf xs)), (7, .slice B ys.length d)] (by kernel_rfl) rfl ?_
  refine GL.sem (j := 4) (run_toStr (P := Try.prog) (src := 38) (dst := 9) (A := B) (bs := ys) (n := ys.length) (c := d) (by kernel_rfl) (by kernel_rfl) (hy.hp H) (rfl)) [6, 8] [(6, .string (strOf xs)), (8, .string (strOf ys))] (by kernel_rfl) (by kernel_rfl) rfl ?_
  refine GL.sem (j := 5) (run_str_eql (P := Try.prog) (t := 9) xs ys _) [9] [(9, .bool (xs == ys))] (by kernel_rfl) (by kernel_rfl) rfl ?_
  refine GL.run (j := 6) 1 [4] [(4, .bool (xs == ys))] (by kernel_rfl) rfl ?_
  refine GL.k rfl hK4 (fun _ _ h => h) ?_
  refine G.ret ?_
  intro F_ hF_ hM_
  refine hRet _ _ (bodyPost_1 rfl (RV.tmp rfl) ?_ F_ hF_ hM_)
  exact ⟨rfl, H.sub (List.nil_sublist _)⟩
theorem SClone_calls (xs : List UInt8) (A : Option Addr) (c : Nat) (w : World) (hx : RdS w A (by8 xs)) (hA : A.isNone = false) (hn : xs.length ≤ 1099511627776) : Calls Try.prog 30 #[.slice A xs.length c] w fun e w' => ∃ A c, e = .returned ((.slice A xs.length c)) ∧ Hp w [] [.row A xs.length c 5 1 (by8 xs)] w' := by
  refine calls_G (args := [.slice A xs.length c]) Try.func30 rfl Try.ntmps30 rfl ?_
  intro Q0 hRet hNor hPan
  have H := Hp.start w
  have H : Hp w [] [] w := H
  refine G.seqK fun K1 hK2 => ?_
  refine G.region ?_
  refine GL.run (j := 1) 1 [0] [(0, .slice A xs.length c)] (by kernel_rfl) rfl ?_
  refine GL.k rfl hK2 (fun _ _ h => h) ?_
  refine G.seqK fun K3 hK4 => ?_
  refine G.seqK fun K5 hK6 => ?_
  refine G.region ?_
  refine GL.run (j := 1) 1 [0, 3] [(0, .slice A xs.length c), (3, .slice A xs.length c)] (by kernel_rfl) rfl ?_
  refine GL.sem (j := 2) (run_sl_nil (P := Try.prog) (sz := 1) (t := 38) (n := xs.length) (c := c) (A := A) (by kernel_rfl) _) [0, 4] [(0, .slice A xs.length c), (4, .bool (Option.isNone A))] (by kernel_rfl) (by kernel_rfl) rfl ?_
  refine GL.k rfl hK6 (fun _ _ h => h) ?_
  have hb7 : (Option.isNone A) = false := hA
  rw [hb7]
  refine G.no rfl ?_
  refine G.skipK hK4 (fun _ _ h => h) ?_
  refine G.seqK fun K8 hK9 => ?_
  refine G.region ?_
  obtain ⟨p10, w11, r12, H13⟩ := H.madeRow (P := Try.prog) (Instr.buildSlice 38 0 #[]) (fun b_ => .slice (some ⟨b_, 0, none⟩) 0 0) [] 5 0 0 1 (by kernel_rfl) (by decide) (by decide) rfl
  have H13 : Hp w [] [.row (some ⟨p10, 0, none⟩) 0 0 5 1 (by8 ([] : List UInt8))] w11 := H13
  refine GL.sem (j := 1) (r12) [0, 5] [(0, .slice A xs.length c), (5, .slice (some ⟨p10, 0, none⟩) 0 0)] (by kernel_rfl) (by kernel_rfl) rfl ?_
  refine GL.run (j := 2) 1 [5, 6] [(5, .slice (some ⟨p10, 0, none⟩) 0 0), (6, .slice A xs.length c)] (by kernel_rfl) rfl ?_
  obtain ⟨A14, c15, w16, r17, H18⟩ := H13.append (P := Try.prog) (e := 5) (sz := 1) (by_ := 1) (n := 0) (c := 0) (m := xs.length) (d := c) (t := 38) (ty := 38) (xs := by8 ([] : List UInt8)) (news := by8 xs) 0 rfl (by kernel_rfl) (hx.hp H13) (by simp [by8_length]) (by8_one _) (by omega) (by simp only [maxLen]; omega)
  rw [Nat.zero_add] at r17 H18
  have H18 : Hp w [] [.row A14 xs.length c15 5 1 (by8 xs)] w16 := H18
  refine GL.sem (j := 3) (r17) [7] [(7, .slice A14 xs.length c15)] (by kernel_rfl) (by kernel_rfl) rfl ?_
  refine GL.run (j := 4) 1 [2] [(2, .slice A14 xs.length c15)] (by kernel_rfl) rfl ?_
  refine GL.k rfl hK9 (fun _ _ h => h) ?_
  refine G.ret ?_
  intro F_ hF_ hM_
  refine hRet _ _ (bodyPost_1 rfl (RV.tmp rfl) ?_ F_ hF_ hM_)
  exact ⟨_, _, rfl, H18.sub (by simp)⟩
end Go.Proofs.Ytcedmbdahbdmaaa
set_option maxRecDepth 100000
namespace Go.Proofs.Ytcedmbdahbdmaaa
open Go.RowKit
theorem u8_of {n : Nat} (h : n < 256) : IntKind.u8.wrap (n : Int) = ((UInt8.ofNat n).toNat : Int) := by
  rw [in_u8 (by omega), UInt8.toNat_ofNat']
  omega
theorem Bytes_addr (a0 a1 a2 a3 a4 a5 a6 a7 a8 a9 a10 a11 a12 a13 a14 a15 a16 a17 a18 a19 : UInt8) (A : Option Addr) (n c : Nat) (w : World) : Calls Try.prog 25 #[.agg #[.int .i64 1, .int .u8 (a0.toNat : Int), .int .u8 (a1.toNat : Int), .int .u8 (a2.toNat : Int), .int .u8 (a3.toNat : Int), .int .u8 (a4.toNat : Int), .int .u8 (a5.toNat : Int), .int .u8 (a6.toNat : Int), .int .u8 (a7.toNat : Int), .int .u8 (a8.toNat : Int), .int .u8 (a9.toNat : Int), .int .u8 (a10.toNat : Int), .int .u8 (a11.toNat : Int), .int .u8 (a12.toNat : Int), .int .u8 (a13.toNat : Int), .int .u8 (a14.toNat : Int), .int .u8 (a15.toNat : Int), .int .u8 (a16.toNat : Int), .int .u8 (a17.toNat : Int), .int .u8 (a18.toNat : Int), .int .u8 (a19.toNat : Int), .slice A n c]] w fun e w' => ∃ A c, e = .returned (.tuple #[.slice A ([118, 169, 20, a0, a1, a2, a3, a4, a5, a6, a7, a8, a9, a10, a11, a12, a13, a14, a15, a16, a17, a18, a19, 136, 172] : List UInt8).length c, .int .i64 0]) ∧ Hp w [] [.row A ([118, 169, 20, a0, a1, a2, a3, a4, a5, a6, a7, a8, a9, a10, a11, a12, a13, a14, a15, a16, a17, a18, a19, 136, 172] : List UInt8).length c 5 1 (by8 ([118, 169, 20, a0, a1, a2, a3, a4, a5, a6, a7, a8, a9, a10, a11, a12, a13, a14, a15, a16, a17, a18, a19, 136, 172] : List UInt8))] w' := by
  refine calls_G (args := [.agg #[.int .i64 1, .int .u8 (a0.toNat : Int), .int .u8 (a1.toNat : Int), .int .u8 (a2.toNat : Int), .int .u8 (a3.toNat : Int), .int .u8 (a4.toNat : Int), .int .u8 (a5.toNat : Int), .int .u8 (a6.toNat : Int), .int .u8 (a7.toNat : Int), .int .u8 (a8.toNat : Int), .int .u8 (a9.toNat : Int), .int .u8 (a10.toNat : Int), .int .u8 (a11.toNat : Int), .int .u8 (a12.toNat : Int), .int .u8 (a13.toNat : Int), .int .u8 (a14.toNat : Int), .int .u8 (a15.toNat : Int), .int .u8 (a16.toNat : Int), .int .u8 (a17.toNat : Int), .int .u8 (a18.toNat : Int), .int .u8 (a19.toNat : Int), .slice A n c]]) Try.func25 rfl Try.ntmps25 rfl ?_
  intro Q0 hRet hNor hPan
  have H := Hp.start w
  have H : Hp w [] [] w := H
  refine G.seqK fun K1 hK2 => ?_
  refine G.region ?_
  obtain ⟨p3, w4, r5, H6⟩ := H.box (P := Try.prog) 43 [.int .i64 1, .int .u8 (a0.toNat : Int), .int .u8 (a1.toNat : Int), .int .u8 (a2.toNat : Int), .int .u8 (a3.toNat : Int), .int .u8 (a4.toNat : Int), .int .u8 (a5.toNat : Int), .int .u8 (a6.toNat : Int), .int .u8 (a7.toNat : Int), .int .u8 (a8.toNat : Int), .int .u8 (a9.toNat : Int), .int .u8 (a10.toNat : Int), .int .u8 (a11.toNat : Int), .int .u8 (a12.toNat : Int), .int .u8 (a13.toNat : Int), .int .u8 (a14.toNat : Int), .int .u8 (a15.toNat : Int), .int .u8 (a16.toNat : Int), .int .u8 (a17.toNat : Int), .int .u8 (a18.toNat : Int), .int .u8 (a19.toNat : Int), .slice A n c] (.agg #[.int .i64 1, .int .u8 (a0.toNat : Int), .int .u8 (a1.toNat : Int), .int .u8 (a2.toNat : Int), .int .u8 (a3.toNat : Int), .int .u8 (a4.toNat : Int), .int .u8 (a5.toNat : Int), .int .u8 (a6.toNat : Int), .int .u8 (a7.toNat : Int), .int .u8 (a8.toNat : Int), .int .u8 (a9.toNat : Int), .int .u8 (a10.toNat : Int), .int .u8 (a11.toNat : Int), .int .u8 (a12.toNat : Int), .int .u8 (a13.toNat : Int), .int .u8 (a14.toNat : Int), .int .u8 (a15.toNat : Int), .int .u8 (a16.toNat : Int), .int .u8 (a17.toNat : Int), .int .u8 (a18.toNat : Int), .int .u8 (a19.toNat : Int), .slice A n c]) rfl
  have H6 : Hp w [] [.blk p3 [.int .i64 1, .int .u8 (a0.toNat : Int), .int .u8 (a1.toNat : Int), .int .u8 (a2.toNat : Int), .int .u8 (a3.toNat : Int), .int .u8 (a4.toNat : Int), .int .u8 (a5.toNat : Int), .int .u8 (a6.toNat : Int), .int .u8 (a7.toNat : Int), .int .u8 (a8.toNat : Int), .int .u8 (a9.toNat : Int), .int .u8 (a10.toNat : Int), .int .u8 (a11.toNat : Int), .int .u8 (a12.toNat : Int), .int .u8 (a13.toNat : Int), .int .u8 (a14.toNat : Int), .int .u8 (a15.toNat : Int), .int .u8 (a16.toNat : Int), .int .u8 (a17.toNat : Int), .int .u8 (a18.toNat : Int), .int .u8 (a19.toNat : Int), .slice A n c] 43] w4 := H6
  refine GL.sem (j := 1) (r5) [1] [(1, pt p3 0)] (by kernel_rfl) (by kernel_rfl) rfl ?_
  refine GL.run (j := 3) 2 [1] [(1, pt p3 0)] (by kernel_rfl) rfl ?_
  refine GL.k rfl hK2 (fun _ _ h => h) ?_
  refine G.seqK fun K7 hK8 => ?_
  refine G.seqK fun K9 hK10 => ?_
  refine G.region ?_
  refine GL.run (j := 1) 1 [1, 4] [(1, pt p3 0), (4, pt p3 0)] (by kernel_rfl) rfl ?_
  refine GL.sem (j := 2) (H6.ld (o := 0) (ty := 41) (v := .int .i64 1) 0 rfl (by kernel_rfl) rfl) [1, 5] [(1, pt p3 0), (5, .int .i64 1)] (by kernel_rfl) (by kernel_rfl) rfl ?_
  refine GL.k rfl hK10 (fun _ _ h => h) ?_
  refine G.block ?_
  refine G.seqK fun K11 hK12 => ?_
  refine G.region ?_
  refine GL.run (j := 2) 2 [1, 5, 6] [(1, pt p3 0), (5, .int .i64 1), (6, .bool true)] (by kernel_rfl) rfl ?_
  refine GL.k rfl hK12 (fun _ _ h => h) ?_
  refine G.yes rfl ?_
  refine G.seqK fun K13 hK14 => ?_
  refine G.region ?_
  obtain ⟨p15, w16, r17, H18⟩ := H6.made (P := Try.prog) (Instr.buildSlice 38 3 #[(0, .int .u8 118), (1, .int .u8 169), (2, .int .u8 20)]) (fun b_ => .slice (some ⟨b_, 0, none⟩) 3 3) [.int .u8 118, .int .u8 169, .int .u8 20] 5 (by kernel_rfl)
  have H18 : Hp w [] [.blk p3 [.int .i64 1, .int .u8 (a0.toNat : Int), .int .u8 (a1.toNat : Int), .int .u8 (a2.toNat : Int), .int .u8 (a3.toNat : Int), .int .u8 (a4.toNat : Int), .int .u8 (a5.toNat : Int), .int .u8 (a6.toNat : Int), .int .u8 (a7.toNat : Int), .int .u8 (a8.toNat : Int), .int .u8 (a9.toNat : Int), .int .u8 (a10.toNat : Int), .int .u8 (a11.toNat : Int), .int .u8 (a12.toNat : Int), .int .u8 (a13.toNat : Int), .int .u8 (a14.toNat : Int), .int .u8 (a15.toNat : Int), .int .u8 (a16.toNat : Int), .int .u8 (a17.toNat : Int), .int .u8 (a18.toNat : Int), .int .u8 (a19.toNat : Int), .slice A n c] 43, .blk p15 [.int .u8 118, .int .u8 169, .int .u8 20] 5] w16 := H18
  refine GL.sem (j := 1) (r17) [1, 8] [(1, pt p3 0), (8, .slice (some ⟨p15, 0, none⟩) 3 3)] (by kernel_rfl) (by kernel_rfl) rfl ?_
  refine GL.run (j := 3) 2 [8, 10] [(8, .slice (some ⟨p15, 0, none⟩) 3 3), (10, .slice (some ⟨p3, 1, none⟩) 20 20)] (by kernel_rfl) rfl ?_
  obtain ⟨p19, w20, r21, H22⟩ := H18.made (P := Try.prog) (Instr.buildSlice 38 2 #[(0, .int .u8 136), (1, .int .u8 172)]) (fun b_ => .slice (some ⟨b_, 0, none⟩) 2 2) [.int .u8 136, .int .u8 172] 5 (by kernel_rfl)
  have H22 : Hp w [] [.blk p3 [.int .i64 1, .int .u8 (a0.toNat : Int), .int .u8 (a1.toNat : Int), .int .u8 (a2.toNat : Int), .int .u8 (a3.toNat : Int), .int .u8 (a4.toNat : Int), .int .u8 (a5.toNat : Int), .int .u8 (a6.toNat : Int), .int .u8 (a7.toNat : Int), .int .u8 (a8.toNat : Int), .int .u8 (a9.toNat : Int), .int .u8 (a10.toNat : Int), .int .u8 (a11.toNat : Int), .int .u8 (a12.toNat : Int), .int .u8 (a13.toNat : Int), .int .u8 (a14.toNat : Int), .int .u8 (a15.toNat : Int), .int .u8 (a16.toNat : Int), .int .u8 (a17.toNat : Int), .int .u8 (a18.toNat : Int), .int .u8 (a19.toNat : Int), .slice A n c] 43, .blk p15 [.int .u8 118, .int .u8 169, .int .u8 20] 5, .blk p19 [.int .u8 136, .int .u8 172] 5] w20 := H22
  refine GL.sem (j := 4) (r21) [8, 10, 11] [(8, .slice (some ⟨p15, 0, none⟩) 3 3), (10, .slice (some ⟨p3, 1, none⟩) 20 20), (11, .slice (some ⟨p19, 0, none⟩) 2 2)] (by kernel_rfl) (by kernel_rfl) rfl ?_
  obtain ⟨p23, w24, r25, H26⟩ := H22.made (P := Try.prog) (Instr.buildSlice 125 3 #[(0, .slice (some ⟨p15, 0, none⟩) 3 3), (1, .slice (some ⟨p3, 1, none⟩) 20 20), (2, .slice (some ⟨p19, 0, none⟩) 2 2)]) (fun b_ => .slice (some ⟨b_, 0, none⟩) 3 3) [.slice (some ⟨p15, 0, none⟩) 3 3, .slice (some ⟨p3, 1, none⟩) 20 20, .slice (some ⟨p19, 0, none⟩) 2 2] 38 (by kernel_rfl)
  have H26 : Hp w [] [.blk p3 [.int .i64 1, .int .u8 (a0.toNat : Int), .int .u8 (a1.toNat : Int), .int .u8 (a2.toNat : Int), .int .u8 (a3.toNat : Int), .int .u8 (a4.toNat : Int), .int .u8 (a5.toNat : Int), .int .u8 (a6.toNat : Int), .int .u8 (a7.toNat : Int), .int .u8 (a8.toNat : Int), .int .u8 (a9.toNat : Int), .int .u8 (a10.toNat : Int), .int .u8 (a11.toNat : Int), .int .u8 (a12.toNat : Int), .int .u8 (a13.toNat : Int), .int .u8 (a14.toNat : Int), .int .u8 (a15.toNat : Int), .int .u8 (a16.toNat : Int), .int .u8 (a17.toNat : Int), .int .u8 (a18.toNat : Int), .int .u8 (a19.toNat : Int), .slice A n c] 43, .blk p15 [.int .u8 118, .int .u8 169, .int .u8 20] 5, .blk p19 [.int .u8 136, .int .u8 172] 5, .blk p23 [.slice (some ⟨p15, 0, none⟩) 3 3, .slice (some ⟨p3, 1, none⟩) 20 20, .slice (some ⟨p19, 0, none⟩) 2 2] 38] w24 := H26
  refine GL.sem (j := 5) (r25) [12] [(12, .slice (some ⟨p23, 0, none⟩) 3 3)] (by kernel_rfl) (by kernel_rfl) rfl ?_
  have hr27 : ∀ s ∈ ([(some ⟨p15, 0, none⟩, 3, ([118, 169, 20] : List UInt8)), ((some ⟨p3, 1, none⟩), 20, ([a0, a1, a2, a3, a4, a5, a6, a7, a8, a9, a10, a11, a12, a13, a14, a15, a16, a17, a18, a19] : List UInt8)), (some ⟨p19, 0, none⟩, 2, ([136, 172] : List UInt8))] : List SB), RdS w24 s.1 (by8 s.2.2) := by
    intro s hs
    simp only [List.mem_cons, List.not_mem_nil, or_false] at hs
    rcases hs with rfl | rfl | rfl
    · exact H26.rdBlk (o := 0) (xs := by8 ([118, 169, 20] : List UInt8)) 1 3 rfl rfl
    · exact H26.rdBlk (o := 1) (xs := by8 ([a0, a1, a2, a3, a4, a5, a6, a7, a8, a9, a10, a11, a12, a13, a14, a15, a16, a17, a18, a19] : List UInt8)) 0 20 rfl rfl
    · exact H26.rdBlk (o := 0) (xs := by8 ([136, 172] : List UInt8)) 2 2 rfl rfl
  have hX28 : flat ([(some ⟨p15, 0, none⟩, 3, ([118, 169, 20] : List UInt8)), ((some ⟨p3, 1, none⟩), 20, ([a0, a1, a2, a3, a4, a5, a6, a7, a8, a9, a10, a11, a12, a13, a14, a15, a16, a17, a18, a19] : List UInt8)), (some ⟨p19, 0, none⟩, 2, ([136, 172] : List UInt8))] : List SB) = ([118, 169, 20, a0, a1, a2, a3, a4, a5, a6, a7, a8, a9, a10, a11, a12, a13, a14, a15, a16, a17, a18, a19, 136, 172] : List UInt8) := rfl
  have hX28n : (flat ([(some ⟨p15, 0, none⟩, 3, ([118, 169, 20] : List UInt8)), ((some ⟨p3, 1, none⟩), 20, ([a0, a1, a2, a3, a4, a5, a6, a7, a8, a9, a10, a11, a12, a13, a14, a15, a16, a17, a18, a19] : List UInt8)), (some ⟨p19, 0, none⟩, 2, ([136, 172] : List UInt8))] : List SB)).length ≤ 1099511627776 := by rw [hX28]; simp; try omega
  refine GL.call (j := 6) (Concat_calls p23 ([(some ⟨p15, 0, none⟩, 3, ([118, 169, 20] : List UInt8)), ((some ⟨p3, 1, none⟩), 20, ([a0, a1, a2, a3, a4, a5, a6, a7, a8, a9, a10, a11, a12, a13, a14, a15, a16, a17, a18, a19] : List UInt8)), (some ⟨p19, 0, none⟩, 2, ([136, 172] : List UInt8))] : List SB) w24 (H26.blkAt 3 rfl) hr27 hX28n (by simp)) (by kernel_rfl) rfl (fun e_ w29 hR => ?_)
  rw [hX28] at hR
  obtain ⟨A30, c31, rfl, H33⟩ := hR
  have H32 : Hp w [] [.blk p3 [.int .i64 1, .int .u8 (a0.toNat : Int), .int .u8 (a1.toNat : Int), .int .u8 (a2.toNat : Int), .int .u8 (a3.toNat : Int), .int .u8 (a4.toNat : Int), .int .u8 (a5.toNat : Int), .int .u8 (a6.toNat : Int), .int .u8 (a7.toNat : Int), .int .u8 (a8.toNat : Int), .int .u8 (a9.toNat : Int), .int .u8 (a10.toNat : Int), .int .u8 (a11.toNat : Int), .int .u8 (a12.toNat : Int), .int .u8 (a13.toNat : Int), .int .u8 (a14.toNat : Int), .int .u8 (a15.toNat : Int), .int .u8 (a16.toNat : Int), .int .u8 (a17.toNat : Int), .int .u8 (a18.toNat : Int), .int .u8 (a19.toNat : Int), .slice A n c] 43, .blk p15 [.int .u8 118, .int .u8 169, .int .u8 20] 5, .blk p19 [.int .u8 136, .int .u8 172] 5, .blk p23 [.slice (some ⟨p15, 0, none⟩) 3 3, .slice (some ⟨p3, 1, none⟩) 20 20, .slice (some ⟨p19, 0, none⟩) 2 2] 38, .row A30 ((([118, 169, 20, a0, a1, a2, a3, a4, a5, a6, a7, a8, a9, a10, a11, a12, a13, a14, a15, a16, a17, a18, a19, 136, 172] : List UInt8)).length) c31 5 1 (by8 ([118, 169, 20, a0, a1, a2, a3, a4, a5, a6, a7, a8, a9, a10, a11, a12, a13, a14, a15, a16, a17, a18, a19, 136, 172] : List UInt8))] w29 := H26.callNew H33
  refine ⟨_, rfl, [13], [(13, .slice A30 ((([118, 169, 20, a0, a1, a2, a3, a4, a5, a6, a7, a8, a9, a10, a11, a12, a13, a14, a15, a16, a17, a18, a19, 136, 172] : List UInt8)).length) c31)], by kernel_rfl, ?_⟩
  refine GL.run (j := 8) 2 [2, 3] [(2, .slice A30 ((([118, 169, 20, a0, a1, a2, a3, a4, a5, a6, a7, a8, a9, a10, a11, a12, a13, a14, a15, a16, a17, a18, a19, 136, 172] : List UInt8)).length) c31), (3, .int .i64 0)] (by kernel_rfl) rfl ?_
  refine GL.k rfl hK14 (fun _ _ h => h) ?_
  refine G.ret ?_
  intro F_ hF_ hM_
  refine hRet _ _ (bodyPost_2 rfl (RV.tmp rfl) (RV.tmp rfl) ?_ F_ hF_ hM_)
  exact ⟨_, _, rfl, H32.sub (by simp)⟩
theorem Bytes_tag (a0 a1 a2 a3 a4 a5 a6 a7 a8 a9 a10 a11 a12 a13 a14 a15 a16 a17 a18 a19 : UInt8) (bs : List UInt8) (A : Option Addr) (c : Nat) (w : World) (hr : RdS w A (by8 bs)) (h1 : 1 ≤ bs.length) (h40 : bs.length ≤ 40) : Calls Try.prog 25 #[.agg #[.int .i64 2, .int .u8 (a0.toNat : Int), .int .u8 (a1.toNat : Int), .int .u8 (a2.toNat : Int), .int .u8 (a3.toNat : Int), .int .u8 (a4.toNat : Int), .int .u8 (a5.toNat : Int), .int .u8 (a6.toNat : Int), .int .u8 (a7.toNat : Int), .int .u8 (a8.toNat : Int), .int .u8 (a9.toNat : Int), .int .u8 (a10.toNat : Int), .int .u8 (a11.toNat : Int), .int .u8 (a12.toNat : Int), .int .u8 (a13.toNat : Int), .int .u8 (a14.toNat : Int), .int .u8 (a15.toNat : Int), .int .u8 (a16.toNat : Int), .int .u8 (a17.toNat : Int), .int .u8 (a18.toNat : Int), .int .u8 (a19.toNat : Int), .slice A bs.length c]] w fun e w' => ∃ A c, e = .returned (.tuple #[.slice A (106 :: UInt8.ofNat bs.length :: bs).length c, .int .i64 0]) ∧ Hp w [] [.row A (106 :: UInt8.ofNat bs.length :: bs).length c 5 1 (by8 (106 :: UInt8.ofNat bs.length :: bs))] w' := by
  refine calls_G (args := [.agg #[.int .i64 2, .int .u8 (a0.toNat : Int), .int .u8 (a1.toNat : Int), .int .u8 (a2.toNat : Int), .int .u8 (a3.toNat : Int), .int .u8 (a4.toNat : Int), .int .u8 (a5.toNat : Int), .int .u8 (a6.toNat : Int), .int .u8 (a7.toNat : Int), .int .u8 (a8.toNat : Int), .int .u8 (a9.toNat : Int), .int .u8 (a10.toNat : Int), .int .u8 (a11.toNat : Int), .int .u8 (a12.toNat : Int), .int .u8 (a13.toNat : Int), .int .u8 (a14.toNat : Int), .int .u8 (a15.toNat : Int), .int .u8 (a16.toNat : Int), .int .u8 (a17.toNat : Int), .int .u8 (a18.toNat : Int), .int .u8 (a19.toNat : Int), .slice A bs.length c]]) Try.func25 rfl Try.ntmps25 rfl ?_
  intro Q0 hRet hNor hPan
  have H := Hp.start w
  have H : Hp w [] [] w := H
  refine G.seqK fun K1 hK2 => ?_
  refine G.region ?_
  obtain ⟨p3, w4, r5, H6⟩ := H.box (P := Try.prog) 43 [.int .i64 2, .int .u8 (a0.toNat : Int), .int .u8 (a1.toNat : Int), .int .u8 (a2.toNat : Int), .int .u8 (a3.toNat : Int), .int .u8 (a4.toNat : Int), .int .u8 (a5.toNat : Int), .int .u8 (a6.toNat : Int), .int .u8 (a7.toNat : Int), .int .u8 (a8.toNat : Int), .int .u8 (a9.toNat : Int), .int .u8 (a10.toNat : Int), .int .u8 (a11.toNat : Int), .int .u8 (a12.toNat : Int), .int .u8 (a13.toNat : Int), .int .u8 (a14.toNat : Int), .int .u8 (a15.toNat : Int), .int .u8 (a16.toNat : Int), .int .u8 (a17.toNat : Int), .int .u8 (a18.toNat : Int), .int .u8 (a19.toNat : Int), .slice A bs.length c] (.agg #[.int .i64 2, .int .u8 (a0.toNat : Int), .int .u8 (a1.toNat : Int), .int .u8 (a2.toNat : Int), .int .u8 (a3.toNat : Int), .int .u8 (a4.toNat : Int), .int .u8 (a5.toNat : Int), .int .u8 (a6.toNat : Int), .int .u8 (a7.toNat : Int), .int .u8 (a8.toNat : Int), .int .u8 (a9.toNat : Int), .int .u8 (a10.toNat : Int), .int .u8 (a11.toNat : Int), .int .u8 (a12.toNat : Int), .int .u8 (a13.toNat : Int), .int .u8 (a14.toNat : Int), .int .u8 (a15.toNat : Int), .int .u8 (a16.toNat : Int), .int .u8 (a17.toNat : Int), .int .u8 (a18.toNat : Int), .int .u8 (a19.toNat : Int), .slice A bs.length c]) rfl
  have H6 : Hp w [] [.blk p3 [.int .i64 2, .int .u8 (a0.toNat : Int), .int .u8 (a1.toNat : Int), .int .u8 (a2.toNat : Int), .int .u8 (a3.toNat : Int), .int .u8 (a4.toNat : Int), .int .u8 (a5.toNat : Int), .int .u8 (a6.toNat : Int), .int .u8 (a7.toNat : Int), .int .u8 (a8.toNat : Int), .int .u8 (a9.toNat : Int), .int .u8 (a10.toNat : Int), .int .u8 (a11.toNat : Int), .int .u8 (a12.toNat : Int), .int .u8 (a13.toNat : Int), .int .u8 (a14.toNat : Int), .int .u8 (a15.toNat : Int), .int .u8 (a16.toNat : Int), .int .u8 (a17.toNat : Int), .int .u8 (a18.toNat : Int), .int .u8 (a19.toNat : Int), .slice A bs.length c] 43] w4 := H6
  refine GL.sem (j := 1) (r5) [1] [(1, pt p3 0)] (by kernel_rfl) (by kernel_rfl) rfl ?_
  refine GL.run (j := 3) 2 [1] [(1, pt p3 0)] (by kernel_rfl) rfl ?_
  refine GL.k rfl hK2 (fun _ _ h => h) ?_
  refine G.seqK fun K7 hK8 => ?_
  refine G.seqK fun K9 hK10 => ?_
  refine G.region ?_
  refine GL.run (j := 1) 1 [1, 4] [(1, pt p3 0), (4, pt p3 0)] (by kernel_rfl) rfl ?_
  refine GL.sem (j := 2) (H6.ld (o := 0) (ty := 41) (v := .int .i64 2) 0 rfl (by kernel_rfl) rfl) [1, 5] [(1, pt p3 0), (5, .int .i64 2)] (by kernel_rfl) (by kernel_rfl) rfl ?_
  refine GL.k rfl hK10 (fun _ _ h => h) ?_
  refine G.block ?_
  refine G.seqK fun K11 hK12 => ?_
  refine G.region ?_
  refine GL.run (j := 2) 2 [1, 5, 6] [(1, pt p3 0), (5, .int .i64 2), (6, .bool false)] (by kernel_rfl) rfl ?_
  refine GL.k rfl hK12 (fun _ _ h => h) ?_
  refine G.no rfl ?_
  refine G.seqK fun K13 hK14 => ?_
  refine G.region ?_
  refine GL.run (j := 2) 2 [1, 14] [(1, pt p3 0), (14, .bool true)] (by kernel_rfl) rfl ?_
  refine GL.k rfl hK14 (fun _ _ h => h) ?_
  refine G.yes rfl ?_
  refine G.seqK fun K15 hK16 => ?_
  refine G.seqK fun K17 hK18 => ?_
  refine G.region ?_
  refine GL.run (j := 1) 1 [1, 16] [(1, pt p3 0), (16, pt p3 21)] (by kernel_rfl) rfl ?_
  refine GL.sem (j := 2) (H6.ld (o := 21) (ty := 38) (v := .slice A bs.length c) 0 rfl (by kernel_rfl) rfl) [1, 17] [(1, pt p3 0), (17, .slice A bs.length c)] (by kernel_rfl) (by kernel_rfl) rfl ?_
  refine GL.run (j := 5) 3 [1, 20] [(1, pt p3 0), (20, .bool ((bs.length : Int) == 0))] (by kernel_rfl) rfl ?_
  have hb19 : ((bs.length : Int) == 0) = false := beq_eq_false_iff_ne.2 (by omega)
  rw [hb19]
  refine GL.run (j := 6) 1 [1, 20, 21] [(1, pt p3 0), (20, .bool false), (21, pt p3 21)] (by kernel_rfl) rfl ?_
  refine GL.sem (j := 7) (H6.ld (o := 21) (ty := 38) (v := .slice A bs.length c) 0 rfl (by kernel_rfl) rfl) [1, 20, 22] [(1, pt p3 0), (20, .bool false), (22, .slice A bs.length c)] (by kernel_rfl) (by kernel_rfl) rfl ?_
  refine GL.run (j := 10) 3 [1, 25] [(1, pt p3 0), (25, .bool (decide (40 < (bs.length : Int))))] (by kernel_rfl) rfl ?_
  refine GL.k rfl hK18 (fun _ _ h => h) ?_
  have hb20 : (decide (40 < (bs.length : Int))) = false := decide_eq_false (by omega)
  rw [hb20]
  refine G.no rfl ?_
  refine G.skipK hK16 (fun _ _ h => h) ?_
  refine G.seqK fun K21 hK22 => ?_
  refine G.region ?_
  refine GL.run (j := 1) 1 [1, 26] [(1, pt p3 0), (26, pt p3 21)] (by kernel_rfl) rfl ?_
  refine GL.sem (j := 2) (H6.ld (o := 21) (ty := 38) (v := .slice A bs.length c) 0 rfl (by kernel_rfl) rfl) [1, 27] [(1, pt p3 0), (27, .slice A bs.length c)] (by kernel_rfl) (by kernel_rfl) rfl ?_
  refine GL.run (j := 4) 2 [1, 29] [(1, pt p3 0), (29, .int .u8 (IntKind.u8.wrap (bs.length : Int)))] (by kernel_rfl) rfl ?_
  have e23 : (IntKind.u8.wrap (bs.length : Int)) = ((UInt8.ofNat bs.length).toNat : Int) := u8_of (by omega)
  refine GL.eq (M' := [(1, pt p3 0), (29, .int .u8 ((UInt8.ofNat bs.length).toNat : Int))]) (by rw [e23]) ?_
  clear e23
  obtain ⟨p24, w25, r26, H27⟩ := H6.made (P := Try.prog) (Instr.buildSlice 38 2 #[(0, .int .u8 106), (1, .int .u8 ((UInt8.ofNat bs.length).toNat : Int))]) (fun b_ => .slice (some ⟨b_, 0, none⟩) 2 2) [.int .u8 106, .int .u8 ((UInt8.ofNat bs.length).toNat : Int)] 5 (by kernel_rfl)
  have H27 : Hp w [] [.blk p3 [.int .i64 2, .int .u8 (a0.toNat : Int), .int .u8 (a1.toNat : Int), .int .u8 (a2.toNat : Int), .int .u8 (a3.toNat : Int), .int .u8 (a4.toNat : Int), .int .u8 (a5.toNat : Int), .int .u8 (a6.toNat : Int), .int .u8 (a7.toNat : Int), .int .u8 (a8.toNat : Int), .int .u8 (a9.toNat : Int), .int .u8 (a10.toNat : Int), .int .u8 (a11.toNat : Int), .int .u8 (a12.toNat : Int), .int .u8 (a13.toNat : Int), .int .u8 (a14.toNat : Int), .int .u8 (a15.toNat : Int), .int .u8 (a16.toNat : Int), .int .u8 (a17.toNat : Int), .int .u8 (a18.toNat : Int), .int .u8 (a19.toNat : Int), .slice A bs.length c] 43, .blk p24 [.int .u8 106, .int .u8 ((UInt8.ofNat bs.length).toNat : Int)] 5] w25 := H27
  refine GL.sem (j := 5) (r26) [1, 30] [(1, pt p3 0), (30, .slice (some ⟨p24, 0, none⟩) 2 2)] (by kernel_rfl) (by kernel_rfl) rfl ?_
  refine GL.run (j := 6) 1 [30, 31] [(30, .slice (some ⟨p24, 0, none⟩) 2 2), (31, pt p3 21)] (by kernel_rfl) rfl ?_
  refine GL.sem (j := 7) (H27.ld (o := 21) (ty := 38) (v := .slice A bs.length c) 0 rfl (by kernel_rfl) rfl) [30, 32] [(30, .slice (some ⟨p24, 0, none⟩) 2 2), (32, .slice A bs.length c)] (by kernel_rfl) (by kernel_rfl) rfl ?_
  obtain ⟨p28, w29, r30, H31⟩ := H27.made (P := Try.prog) (Instr.buildSlice 125 2 #[(0, .slice (some ⟨p24, 0, none⟩) 2 2), (1, .slice A bs.length c)]) (fun b_ => .slice (some ⟨b_, 0, none⟩) 2 2) [.slice (some ⟨p24, 0, none⟩) 2 2, .slice A bs.length c] 38 (by kernel_rfl)
  have H31 : Hp w [] [.blk p3 [.int .i64 2, .int .u8 (a0.toNat : Int), .int .u8 (a1.toNat : Int), .int .u8 (a2.toNat : Int), .int .u8 (a3.toNat : Int), .int .u8 (a4.toNat : Int), .int .u8 (a5.toNat : Int), .int .u8 (a6.toNat : Int), .int .u8 (a7.toNat : Int), .int .u8 (a8.toNat : Int), .int .u8 (a9.toNat : Int), .int .u8 (a10.toNat : Int), .int .u8 (a11.toNat : Int), .int .u8 (a12.toNat : Int), .int .u8 (a13.toNat : Int), .int .u8 (a14.toNat : Int), .int .u8 (a15.toNat : Int), .int .u8 (a16.toNat : Int), .int .u8 (a17.toNat : Int), .int .u8 (a18.toNat : Int), .int .u8 (a19.toNat : Int), .slice A bs.length c] 43, .blk p24 [.int .u8 106, .int .u8 ((UInt8.ofNat bs.length).toNat : Int)] 5, .blk p28 [.slice (some ⟨p24, 0, none⟩) 2 2, .slice A bs.length c] 38] w29 := H31
  refine GL.sem (j := 8) (r30) [33] [(33, .slice (some ⟨p28, 0, none⟩) 2 2)] (by kernel_rfl) (by kernel_rfl) rfl ?_
  have hr32 : ∀ s ∈ ([(some ⟨p24, 0, none⟩, 2, ([106, (UInt8.ofNat bs.length)] : List UInt8)), (A, c, bs)] : List SB), RdS w29 s.1 (by8 s.2.2) := by
    intro s hs
    simp only [List.mem_cons, List.not_mem_nil, or_false] at hs
    rcases hs with rfl | rfl
    · exact H31.rdBlk (o := 0) (xs := by8 ([106, (UInt8.ofNat bs.length)] : List UInt8)) 1 2 rfl rfl
    · exact hr.hp H31
  have hX33 : flat ([(some ⟨p24, 0, none⟩, 2, ([106, (UInt8.ofNat bs.length)] : List UInt8)), (A, c, bs)] : List SB) = (106 :: UInt8.ofNat bs.length :: bs) := by simp [flat]
  have hX33n : (flat ([(some ⟨p24, 0, none⟩, 2, ([106, (UInt8.ofNat bs.length)] : List UInt8)), (A, c, bs)] : List SB)).length ≤ 1099511627776 := by rw [hX33]; simp; try omega
  refine GL.call (j := 9) (Concat_calls p28 ([(some ⟨p24, 0, none⟩, 2, ([106, (UInt8.ofNat bs.length)] : List UInt8)), (A, c, bs)] : List SB) w29 (H31.blkAt 2 rfl) hr32 hX33n (by simp)) (by kernel_rfl) rfl (fun e_ w34 hR => ?_)
  rw [hX33] at hR
  obtain ⟨A35, c36, rfl, H38⟩ := hR
  have H37 : Hp w [] [.blk p3 [.int .i64 2, .int .u8 (a0.toNat : Int), .int .u8 (a1.toNat : Int), .int .u8 (a2.toNat : Int), .int .u8 (a3.toNat : Int), .int .u8 (a4.toNat : Int), .int .u8 (a5.toNat : Int), .int .u8 (a6.toNat : Int), .int .u8 (a7.toNat : Int), .int .u8 (a8.toNat : Int), .int .u8 (a9.toNat : Int), .int .u8 (a10.toNat : Int), .int .u8 (a11.toNat : Int), .int .u8 (a12.toNat : Int), .int .u8 (a13.toNat : Int), .int .u8 (a14.toNat : Int), .int .u8 (a15.toNat : Int), .int .u8 (a16.toNat : Int), .int .u8 (a17.toNat : Int), .int .u8 (a18.toNat : Int), .int .u8 (a19.toNat : Int), .slice A bs.length c] 43, .blk p24 [.int .u8 106, .int .u8 ((UInt8.ofNat bs.length).toNat : Int)] 5, .blk p28 [.slice (some ⟨p24, 0, none⟩) 2 2, .slice A bs.length c] 38, .row A35 (((106 :: UInt8.ofNat bs.length :: bs)).length) c36 5 1 (by8 (106 :: UInt8.ofNat bs.length :: bs))] w34 := H31.callNew H38
  refine ⟨_, rfl, [34], [(34, .slice A35 (((106 :: UInt8.ofNat bs.length :: bs)).length) c36)], by kernel_rfl, ?_⟩
  refine GL.run (j := 11) 2 [2, 3] [(2, .slice A35 (((106 :: UInt8.ofNat bs.length :: bs)).length) c36), (3, .int .i64 0)] (by kernel_rfl) rfl ?_
  refine GL.k rfl hK22 (fun _ _ h => h) ?_
  refine G.ret ?_
  intro F_ hF_ hM_
  refine hRet _ _ (bodyPost_2 rfl (RV.tmp rfl) (RV.tmp rfl) ?_ F_ hF_ hM_)
  exact ⟨_, _, rfl, H37.sub (by simp)⟩
theorem Bytes_long (a0 a1 a2 a3 a4 a5 a6 a7 a8 a9 a10 a11 a12 a13 a14 a15 a16 a17 a18 a19 : UInt8) (A : Option Addr) (n c : Nat) (w : World) (hn : n = 0 ∨ 40 < n) : Calls Try.prog 25 #[.agg #[.int .i64 2, .int .u8 (a0.toNat : Int), .int .u8 (a1.toNat : Int), .int .u8 (a2.toNat : Int), .int .u8 (a3.toNat : Int), .int .u8 (a4.toNat : Int), .int .u8 (a5.toNat : Int), .int .u8 (a6.toNat : Int), .int .u8 (a7.toNat : Int), .int .u8 (a8.toNat : Int), .int .u8 (a9.toNat : Int), .int .u8 (a10.toNat : Int), .int .u8 (a11.toNat : Int), .int .u8 (a12.toNat : Int), .int .u8 (a13.toNat : Int), .int .u8 (a14.toNat : Int), .int .u8 (a15.toNat : Int), .int .u8 (a16.toNat : Int), .int .u8 (a17.toNat : Int), .int .u8 (a18.toNat : Int), .int .u8 (a19.toNat : Int), .slice A n c]] w fun e w' => e = .returned (.tuple #[.slice none 0 0, .int .i64 3]) ∧ Hp w [] [] w' := by
  refine calls_G (args := [.agg #[.int .i64 2, .int .u8 (a0.toNat : Int), .int .u8 (a1.toNat : Int), .int .u8 (a2.toNat : Int), .int .u8 (a3.toNat : Int), .int .u8 (a4.toNat : Int), .int .u8 (a5.toNat : Int), .int .u8 (a6.toNat : Int), .int .u8 (a7.toNat : Int), .int .u8 (a8.toNat : Int), .int .u8 (a9.toNat : Int), .int .u8 (a10.toNat : Int), .int .u8 (a11.toNat : Int), .int .u8 (a12.toNat : Int), .int .u8 (a13.toNat : Int), .int .u8 (a14.toNat : Int), .int .u8 (a15.toNat : Int), .int .u8 (a16.toNat : Int), .int .u8 (a17.toNat : Int), .int .u8 (a18.toNat : Int), .int .u8 (a19.toNat : Int), .slice A n c]]) Try.func25 rfl Try.ntmps25 rfl ?_
  intro Q0 hRet hNor hPan
  have H := Hp.start w
  have H : Hp w [] [] w := H
  refine G.seqK fun K1 hK2 => ?_
  refine G.region ?_
  obtain ⟨p3, w4, r5, H6⟩ := H.box (P := Try.prog) 43 [.int .i64 2, .int .u8 (a0.toNat : Int), .int .u8 (a1.toNat : Int), .int .u8 (a2.toNat : Int), .int .u8 (a3.toNat : Int), .int .u8 (a4.toNat : Int), .int .u8 (a5.toNat : Int), .int .u8 (a6.toNat : Int), .int .u8 (a7.toNat : Int), .int .u8 (a8.toNat : Int), .int .u8 (a9.toNat : Int), .int .u8 (a10.toNat : Int), .int .u8 (a11.toNat : Int), .int .u8 (a12.toNat : Int), .int .u8 (a13.toNat : Int), .int .u8 (a14.toNat : Int), .int .u8 (a15.toNat : Int), .int .u8 (a16.toNat : Int), .int .u8 (a17.toNat : Int), .int .u8 (a18.toNat : Int), .int .u8 (a19.toNat : Int), .slice A n c] (.agg #[.int .i64 2, .int .u8 (a0.toNat : Int), .int .u8 (a1.toNat : Int), .int .u8 (a2.toNat : Int), .int .u8 (a3.toNat : Int), .int .u8 (a4.toNat : Int), .int .u8 (a5.toNat : Int), .int .u8 (a6.toNat : Int), .int .u8 (a7.toNat : Int), .int .u8 (a8.toNat : Int), .int .u8 (a9.toNat : Int), .int .u8 (a10.toNat : Int), .int .u8 (a11.toNat : Int), .int .u8 (a12.toNat : Int), .int .u8 (a13.toNat : Int), .int .u8 (a14.toNat : Int), .int .u8 (a15.toNat : Int), .int .u8 (a16.toNat : Int), .int .u8 (a17.toNat : Int), .int .u8 (a18.toNat : Int), .int .u8 (a19.toNat : Int), .slice A n c]) rfl
  have H6 : Hp w [] [.blk p3 [.int .i64 2, .int .u8 (a0.toNat : Int), .int .u8 (a1.toNat : Int), .int .u8 (a2.toNat : Int), .int .u8 (a3.toNat : Int), .int .u8 (a4.toNat : Int), .int .u8 (a5.toNat : Int), .int .u8 (a6.toNat : Int), .int .u8 (a7.toNat : Int), .int .u8 (a8.toNat : Int), .int .u8 (a9.toNat : Int), .int .u8 (a10.toNat : Int), .int .u8 (a11.toNat : Int), .int .u8 (a12.toNat : Int), .int .u8 (a13.toNat : Int), .int .u8 (a14.toNat : Int), .int .u8 (a15.toNat : Int), .int .u8 (a16.toNat : Int), .int .u8 (a17.toNat : Int), .int .u8 (a18.toNat : Int), .int .u8 (a19.toNat : Int), .slice A n c] 43] w4 := H6
  refine GL.sem (j := 1) (r5) [1] [(1, pt p3 0)] (by kernel_rfl) (by kernel_rfl) rfl ?_
  refine GL.run (j := 3) 2 [1] [(1, pt p3 0)] (by kernel_rfl) rfl ?_
  refine GL.k rfl hK2 (fun _ _ h => h) ?_
  refine G.seqK fun K7 hK8 => ?_
  refine G.seqK fun K9 hK10 => ?_
  refine G.region ?_
  refine GL.run (j := 1) 1 [1, 4] [(1, pt p3 0), (4, pt p3 0)] (by kernel_rfl) rfl ?_
  refine GL.sem (j := 2) (H6.ld (o := 0) (ty := 41) (v := .int .i64 2) 0 rfl (by kernel_rfl) rfl) [1, 5] [(1, pt p3 0), (5, .int .i64 2)] (by kernel_rfl) (by kernel_rfl) rfl ?_
  refine GL.k rfl hK10 (fun _ _ h => h) ?_
  refine G.block ?_
  refine G.seqK fun K11 hK12 => ?_
  refine G.region ?_
  refine GL.run (j := 2) 2 [1, 5, 6] [(1, pt p3 0), (5, .int .i64 2), (6, .bool false)] (by kernel_rfl) rfl ?_
  refine GL.k rfl hK12 (fun _ _ h => h) ?_
  refine G.no rfl ?_
  refine G.seqK fun K13 hK14 => ?_
  refine G.region ?_
  refine GL.run (j := 2) 2 [1, 14] [(1, pt p3 0), (14, .bool true)] (by kernel_rfl) rfl ?_
  refine GL.k rfl hK14 (fun _ _ h => h) ?_
  refine G.yes rfl ?_
  refine G.seqK fun K15 hK16 => ?_
  refine G.seqK fun K17 hK18 => ?_
  refine G.region ?_
  refine GL.run (j := 1) 1 [1, 16] [(1, pt p3 0), (16, pt p3 21)] (by kernel_rfl) rfl ?_
  refine GL.sem (j := 2) (H6.ld (o := 21) (ty := 38) (v := .slice A n c) 0 rfl (by kernel_rfl) rfl) [1, 17] [(1, pt p3 0), (17, .slice A n c)] (by kernel_rfl) (by kernel_rfl) rfl ?_
  refine GL.run (j := 5) 3 [1, 20] [(1, pt p3 0), (20, .bool ((n : Int) == 0))] (by kernel_rfl) rfl ?_
  cases hb19 : ((n : Int) == 0)
  · skip
    have hb19f := ne_of_beq_false hb19
    refine GL.run (j := 6) 1 [1, 20, 21] [(1, pt p3 0), (20, .bool false), (21, pt p3 21)] (by kernel_rfl) rfl ?_
    refine GL.sem (j := 7) (H6.ld (o := 21) (ty := 38) (v := .slice A n c) 0 rfl (by kernel_rfl) rfl) [1, 20, 22] [(1, pt p3 0), (20, .bool false), (22, .slice A n c)] (by kernel_rfl) (by kernel_rfl) rfl ?_
    refine GL.run (j := 10) 3 [1, 25] [(1, pt p3 0), (25, .bool (decide (40 < (n : Int))))] (by kernel_rfl) rfl ?_
    refine GL.k rfl hK18 (fun _ _ h => h) ?_
    have hb20 : (decide (40 < (n : Int))) = true := decide_eq_true (by omega)
    rw [hb20]
    refine G.yes rfl ?_
    refine G.seqK fun K21 hK22 => ?_
    refine G.region ?_
    refine GL.run (j := 2) 2 [2, 3] [(2, .slice none 0 0), (3, .int .i64 3)] (by kernel_rfl) rfl ?_
    refine GL.k rfl hK22 (fun _ _ h => h) ?_
    refine G.ret ?_
    intro F_ hF_ hM_
    refine hRet _ _ (bodyPost_2 rfl (RV.tmp rfl) (RV.tmp rfl) ?_ F_ hF_ hM_)
    exact ⟨rfl, H6.sub (List.nil_sublist _)⟩
  · skip
    have hb19f := eq_of_beq hb19
    refine GL.run (j := 10) 5 [1, 25] [(1, pt p3 0), (25, .bool true)] (by kernel_rfl) rfl ?_
    refine GL.k rfl hK18 (fun _ _ h => h) ?_
    refine G.yes rfl ?_
    refine G.seqK fun K23 hK24 => ?_
    refine G.region ?_
    refine GL.run (j := 2) 2 [2, 3] [(2, .slice none 0 0), (3, .int .i64 3)] (by kernel_rfl) rfl ?_
    refine GL.k rfl hK24 (fun _ _ h => h) ?_
    refine G.ret ?_
    intro F_ hF_ hM_
    refine hRet _ _ (bodyPost_2 rfl (RV.tmp rfl) (RV.tmp rfl) ?_ F_ hF_ hM_)
    exact ⟨rfl, H6.sub (List.nil_sublist _)⟩
end Go.Proofs.Ytcedmbdahbdmaaa
