/- The sum of any bytes is the standard's: the walk. -/
import Derived.Test.YtfflicgmgadcmaaLives
import Derived.Test.YtfflicgmgadcmaaShaE
namespace Go.Proofs.Ytfflicgmgadcmaa
open Go.RowKit
theorem DigestSums_calls (A : Option Addr) (c : Nat) (bs : List UInt8) (w : World) (hx : RdS w A (by8 bs)) : Calls Try.prog 3 #[.slice A bs.length c] w fun e w' => e = .returned (.bool true) ∧ Hp w [] [] w' := by
  refine calls_G (args := [.slice A bs.length c]) Try.func3 rfl Try.ntmps3 rfl ?_
  intro Q0 hRet hNor hPan
  have H := Hp.start w
  have H : Hp w [] [] w := H
  refine G.seqK fun K1 hK2 => ?_
  refine G.region ?_
  refine GL.run (j := 1) 1 [0] [(0, .slice A bs.length c)] (by kernel_rfl) rfl ?_
  refine GL.k rfl hK2 (fun _ _ h => h) ?_
  refine G.seqK fun K3 hK4 => ?_
  refine G.seqK fun K5 hK6 => ?_
  refine G.region ?_
  refine GL.call (j := 1) (lives_calls w) (by kernel_rfl) rfl (fun e_ w7 hR => ?_)
  obtain ⟨rfl, H9⟩ := hR
  have H8 : Hp w [] [] w7 := H.callNil H9
  refine ⟨_, rfl, [0, 4], [(0, .slice A bs.length c), (4, .bool true)], by kernel_rfl, ?_⟩
  refine GL.run (j := 7) 6 [0, 10] [(0, .slice A bs.length c), (10, .bool (decide (300 < (bs.length : Int))))] (by kernel_rfl) rfl ?_
  refine GL.k rfl hK6 (fun _ _ h => h) ?_
  cases hb10 : (decide (300 < (bs.length : Int)))
  · skip
    have hb10f := of_decide_eq_false hb10
    refine G.no rfl ?_
    refine G.skipK hK4 (fun _ _ h => h) ?_
    refine G.seqK fun K11 hK12 => ?_
    refine G.region ?_
    obtain ⟨p13, w14, r15, H16⟩ := H8.madeRow (P := Try.prog) (Instr.buildSlice 22 0 #[]) (fun b_ => .slice (some ⟨b_, 0, none⟩) 0 0) [] 5 0 0 1 (by kernel_rfl) (by decide) (by decide) rfl
    have H16 : Hp w [] [.row (some ⟨p13, 0, none⟩) 0 0 5 1 (by8 ([] : List UInt8))] w14 := H16
    refine GL.sem (j := 1) (r15) [0, 12] [(0, .slice A bs.length c), (12, .slice (some ⟨p13, 0, none⟩) 0 0)] (by kernel_rfl) (by kernel_rfl) rfl ?_
    refine GL.run (j := 2) 1 [0, 12, 13] [(0, .slice A bs.length c), (12, .slice (some ⟨p13, 0, none⟩) 0 0), (13, .slice A bs.length c)] (by kernel_rfl) rfl ?_
    obtain ⟨A17, c18, w19, r20, H21⟩ := H16.append (P := Try.prog) (e := 5) (sz := 1) (by_ := 1) (n := 0) (c := 0) (m := bs.length) (d := c) (t := 22) (ty := 22) (xs := by8 ([] : List UInt8)) (news := by8 bs) 0 rfl (by kernel_rfl) (hx.hp H16) (by first | (simp [by8_length]; done) | (rw [by8_length]; omega) | (rw [by8_length, putB_length])) (by8_one _) (by omega) (by simp only [maxLen]; omega)
    rw [Nat.zero_add] at r20 H21
    have H21 : Hp w [] [.row A17 bs.length c18 5 1 (by8 bs)] w19 := H21
    refine GL.sem (j := 3) (r20) [0, 14] [(0, .slice A bs.length c), (14, .slice A17 bs.length c18)] (by kernel_rfl) (by kernel_rfl) rfl ?_
    refine GL.run (j := 4) 1 [0, 3] [(0, .slice A bs.length c), (3, .slice A17 bs.length c18)] (by kernel_rfl) rfl ?_
    refine GL.k rfl hK12 (fun _ _ h => h) ?_
    refine G.seqK fun K22 hK23 => ?_
    refine G.region ?_
    refine GL.run (j := 1) 1 [0, 3, 15] [(0, .slice A bs.length c), (3, .slice A17 bs.length c18), (15, .slice A17 bs.length c18)] (by kernel_rfl) rfl ?_
    refine GL.call (j := 2) (Sum_calls A17 bs.length c18 bs w19 (H21.rdRow 0 rfl) (by first | rfl | omega) (by omega)) (by kernel_rfl) rfl (fun e_ w24 hR => ?_)
    obtain ⟨rfl, H26⟩ := hR
    have H25 : Hp w [] [.row A17 bs.length c18 5 1 (by8 bs)] w24 := H21.callNil H26
    refine ⟨_, rfl, [0, 3, 16], [(0, .slice A bs.length c), (3, .slice A17 bs.length c18), (16, .agg (by8 (sha bs)).toArray)], by kernel_rfl, ?_⟩
    refine GL.run (j := 3) 1 [0, 3, 16, 17] [(0, .slice A bs.length c), (3, .slice A17 bs.length c18), (16, .agg (by8 (sha bs)).toArray), (17, .slice A bs.length c)] (by kernel_rfl) rfl ?_
    refine GL.call (j := 4) (RefSum_calls A bs.length c bs w24 (hx.hp H25) (rfl) (by omega)) (by kernel_rfl) rfl (fun e_ w27 hR => ?_)
    obtain ⟨rfl, H29⟩ := hR
    have H28 : Hp w [] [.row A17 bs.length c18 5 1 (by8 bs)] w27 := H25.callNil H29
    refine ⟨_, rfl, [0, 3, 16, 18], [(0, .slice A bs.length c), (3, .slice A17 bs.length c18), (16, .agg (by8 (sha bs)).toArray), (18, .agg (by8 (sha bs)).toArray)], by kernel_rfl, ?_⟩
    refine GL.sem (j := 5) (run_by8_same (P := Try.prog) (t := 25) (n := 32) (x := (.tmp 16)) (y := (.tmp 18)) (by kernel_rfl) (sha bs) (by rw [sha_length]) _) [0, 3, 19] [(0, .slice A bs.length c), (3, .slice A17 bs.length c18), (19, .bool true)] (by kernel_rfl) (by kernel_rfl) rfl ?_
    refine GL.run (j := 7) 2 [0, 3, 20, 21] [(0, .slice A bs.length c), (3, .slice A17 bs.length c18), (20, .bool true), (21, .slice A17 bs.length c18)] (by kernel_rfl) rfl ?_
    refine GL.call (j := 8) (Double_calls A17 bs.length c18 bs w27 (H28.rdRow 0 rfl) (by first | rfl | omega) (by omega)) (by kernel_rfl) rfl (fun e_ w30 hR => ?_)
    obtain ⟨rfl, H32⟩ := hR
    have H31 : Hp w [] [.row A17 bs.length c18 5 1 (by8 bs)] w30 := H28.callNil H32
    refine ⟨_, rfl, [0, 3, 20, 22], [(0, .slice A bs.length c), (3, .slice A17 bs.length c18), (20, .bool true), (22, .agg (by8 (sha (sha bs))).toArray)], by kernel_rfl, ?_⟩
    refine GL.run (j := 9) 1 [0, 3, 20, 22, 23] [(0, .slice A bs.length c), (3, .slice A17 bs.length c18), (20, .bool true), (22, .agg (by8 (sha (sha bs))).toArray), (23, .slice A bs.length c)] (by kernel_rfl) rfl ?_
    refine GL.call (j := 10) (RefDouble_calls A bs.length c bs w30 (hx.hp H31) (rfl) (by omega)) (by kernel_rfl) rfl (fun e_ w33 hR => ?_)
    obtain ⟨rfl, H35⟩ := hR
    have H34 : Hp w [] [.row A17 bs.length c18 5 1 (by8 bs)] w33 := H31.callNil H35
    refine ⟨_, rfl, [0, 3, 20, 22, 24], [(0, .slice A bs.length c), (3, .slice A17 bs.length c18), (20, .bool true), (22, .agg (by8 (sha (sha bs))).toArray), (24, .agg (by8 (sha (sha bs))).toArray)], by kernel_rfl, ?_⟩
    refine GL.sem (j := 11) (run_by8_same (P := Try.prog) (t := 25) (n := 32) (x := (.tmp 22)) (y := (.tmp 24)) (by kernel_rfl) (sha (sha bs)) (by rw [sha_length]) _) [0, 3, 20, 25] [(0, .slice A bs.length c), (3, .slice A17 bs.length c18), (20, .bool true), (25, .bool true)] (by kernel_rfl) (by kernel_rfl) rfl ?_
    refine GL.run (j := 14) 3 [0, 27, 28] [(0, .slice A bs.length c), (27, .bool true), (28, .slice A17 bs.length c18)] (by kernel_rfl) rfl ?_
    refine GL.sem (j := 15) (run_toStr (P := Try.prog) (src := 22) (dst := 9) (A := A17) (bs := bs) (n := bs.length) (c := c18) (by kernel_rfl) (by kernel_rfl) (H34.rdRow 0 rfl) (rfl)) [0, 27, 29] [(0, .slice A bs.length c), (27, .bool true), (29, .string (strOf bs))] (by kernel_rfl) (by kernel_rfl) rfl ?_
    refine GL.run (j := 16) 1 [27, 29, 30] [(27, .bool true), (29, .string (strOf bs)), (30, .slice A bs.length c)] (by kernel_rfl) rfl ?_
    refine GL.sem (j := 17) (run_toStr (P := Try.prog) (src := 22) (dst := 9) (A := A) (bs := bs) (n := bs.length) (c := c) (by kernel_rfl) (by kernel_rfl) (hx.hp H34) (rfl)) [27, 29, 31] [(27, .bool true), (29, .string (strOf bs)), (31, .string (strOf bs))] (by kernel_rfl) (by kernel_rfl) rfl ?_
    refine GL.sem (j := 18) (run_str_eql (P := Try.prog) (t := 9) bs bs _) [27, 32] [(27, .bool true), (32, .bool (bs == bs))] (by kernel_rfl) (by kernel_rfl) rfl ?_
    refine GL.run (j := 20) 2 [2] [(2, .bool (bs == bs))] (by kernel_rfl) rfl ?_
    refine GL.k rfl hK23 (fun _ _ h => h) ?_
    refine G.ret ?_
    intro F_ hF_ hM_
    refine hRet _ _ (bodyPost_1 rfl (RV.tmp rfl) ?_ F_ hF_ hM_)
    have hb36 : (bs == bs) = true := beq_self_eq_true _
    rw [hb36]
    exact ⟨rfl, H34.sub (List.nil_sublist _)⟩
  · skip
    have hb10f := of_decide_eq_true hb10
    refine G.yes rfl ?_
    refine G.seqK fun K37 hK38 => ?_
    refine G.region ?_
    refine GL.call (j := 1) (lives_calls w7) (by kernel_rfl) rfl (fun e_ w39 hR => ?_)
    obtain ⟨rfl, H41⟩ := hR
    have H40 : Hp w [] [] w39 := H8.callNil H41
    refine ⟨_, rfl, [11], [(11, .bool true)], by kernel_rfl, ?_⟩
    refine GL.run (j := 2) 1 [2] [(2, .bool true)] (by kernel_rfl) rfl ?_
    refine GL.k rfl hK38 (fun _ _ h => h) ?_
    refine G.ret ?_
    intro F_ hF_ hM_
    refine hRet _ _ (bodyPost_1 rfl (RV.tmp rfl) ?_ F_ hF_ hM_)
    exact ⟨rfl, H40.sub (List.nil_sublist _)⟩
end Go.Proofs.Ytfflicgmgadcmaa
