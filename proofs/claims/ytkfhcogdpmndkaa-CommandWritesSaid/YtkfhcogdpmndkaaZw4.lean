/- Part 4 of what commandWrites_proved stands on. -/
import Derived.Test.YtkfhcogdpmndkaaZw3
set_option linter.unusedVariables false
namespace Go.Proofs.Ytkfhcogdpmndkaa
open Go.RowKit
theorem RCount_calls (S : List Nat) (p : Nat) (A : Option Addr) (k cap : Nat) (wr : Bool) (R : Option Addr) (N C : Nat) (whole rest : List UInt8) (most : Nat) (w : World) (h0 : Hp w S [.blk p [.slice A k cap, .bool wr] 74, .row R N C 5 1 (by8 whole)] w) (hcut : Cut R whole A rest) (hk : k = rest.length) (hcap : k ≤ cap) (hN : k ≤ 1000000) : Calls Try.prog 38 #[pt p 0, .int .u64 (most : Int)] w fun e w' => ∃ B b, e = .returned (.int .u64 ((ctV wr rest most : Nat) : Int)) ∧ Hp w S [.blk p [.slice B (ctR wr rest most).length b, .bool (!(ctOK wr rest most))] 74, .row R N C 5 1 (by8 whole)] w' ∧ Cut R whole B (ctR wr rest most) ∧ (ctR wr rest most).length ≤ b := by
  refine calls_G (args := [pt p 0, .int .u64 (most : Int)]) Try.func38 rfl Try.ntmps38 rfl ?_
  intro Q0 hRet hNor hPan
  have H := h0
  have H : Hp w S [.blk p [.slice A k cap, .bool wr] 74, .row R N C 5 1 (by8 whole)] w := H
  refine G.seqK fun K1 hK2 => ?_
  refine G.region ?_
  refine GL.run (j := 1) 1 [0, 1] [(0, pt p 0), (1, .int .u64 (most : Int))] (by kernel_rfl) rfl ?_
  refine GL.k rfl hK2 (fun _ _ h => h) ?_
  refine G.seqK fun K3 hK4 => ?_
  refine G.region ?_
  refine GL.run (j := 1) 1 [0, 1, 7] [(0, pt p 0), (1, .int .u64 (most : Int)), (7, pt p 0)] (by kernel_rfl) rfl ?_
  refine GL.call (j := 2) (Get1_calls (ids [.blk p [.slice A k cap, .bool wr] 74, .row R N C 5 1 (by8 whole)]) p A k cap wr R N C whole rest w (Hp.startL (A := [.blk p [.slice A k cap, .bool wr] 74, .row R N C 5 1 (by8 whole)]) (B := []) H) hcut (hk) (hcap) (hN)) (by kernel_rfl) rfl (fun e_ w9 hR => ?_)
  obtain ⟨A5, c6, rfl, H11, hC7, hL8⟩ := hR
  have H10 : Hp w S [.blk p [.slice A5 ((rR wr rest 1).length) c6, .bool (!(rOK wr rest 1))] 74, .row R N C 5 1 (by8 whole)] w9 := Hp.callL (A := [.blk p [.slice A k cap, .bool wr] 74, .row R N C 5 1 (by8 whole)]) (B := []) H H11
  refine ⟨_, rfl, [0, 1, 8], [(0, pt p 0), (1, .int .u64 (most : Int)), (8, .int .u64 (((getB (rV wr rest 1)) : Nat) : Int))], by kernel_rfl, ?_⟩
  refine GL.run (j := 4) 2 [0, 1, 5, 6] [(0, pt p 0), (1, .int .u64 (most : Int)), (5, .int .u64 (((getB (rV wr rest 1)) : Nat) : Int)), (6, .int .i64 1)] (by kernel_rfl) rfl ?_
  refine GL.k rfl hK4 (fun _ _ h => h) ?_
  refine G.seqK fun K12 hK13 => ?_
  refine G.seqK fun K14 hK15 => ?_
  refine G.region ?_
  refine GL.run (j := 1) 1 [0, 1, 5, 6, 9] [(0, pt p 0), (1, .int .u64 (most : Int)), (5, .int .u64 (((getB (rV wr rest 1)) : Nat) : Int)), (6, .int .i64 1), (9, .int .u64 (((getB (rV wr rest 1)) : Nat) : Int))] (by kernel_rfl) rfl ?_
  refine GL.k rfl hK15 (fun _ _ h => h) ?_
  refine G.block ?_
  refine G.seqK fun K16 hK17 => ?_
  refine G.region ?_
  refine GL.run (j := 2) 2 [0, 1, 5, 6, 9, 10] [(0, pt p 0), (1, .int .u64 (most : Int)), (5, .int .u64 (((getB (rV wr rest 1)) : Nat) : Int)), (6, .int .i64 1), (9, .int .u64 (((getB (rV wr rest 1)) : Nat) : Int)), (10, .bool ((((getB (rV wr rest 1)) : Nat) : Int) == 253))] (by kernel_rfl) rfl ?_
  refine GL.k rfl hK17 (fun _ _ h => h) ?_
  cases hb18 : ((((getB (rV wr rest 1)) : Nat) : Int) == 253)
  · skip
    have hb18f := ne_of_beq_false hb18
    refine G.no rfl ?_
    refine G.seqK fun K19 hK20 => ?_
    refine G.region ?_
    refine GL.run (j := 2) 2 [0, 1, 5, 6, 9, 14] [(0, pt p 0), (1, .int .u64 (most : Int)), (5, .int .u64 (((getB (rV wr rest 1)) : Nat) : Int)), (6, .int .i64 1), (9, .int .u64 (((getB (rV wr rest 1)) : Nat) : Int)), (14, .bool ((((getB (rV wr rest 1)) : Nat) : Int) == 254))] (by kernel_rfl) rfl ?_
    refine GL.k rfl hK20 (fun _ _ h => h) ?_
    cases hb21 : ((((getB (rV wr rest 1)) : Nat) : Int) == 254)
    · skip
      have hb21f := ne_of_beq_false hb21
      refine G.no rfl ?_
      refine G.seqK fun K22 hK23 => ?_
      refine G.region ?_
      refine GL.run (j := 2) 2 [0, 1, 5, 6, 18] [(0, pt p 0), (1, .int .u64 (most : Int)), (5, .int .u64 (((getB (rV wr rest 1)) : Nat) : Int)), (6, .int .i64 1), (18, .bool ((((getB (rV wr rest 1)) : Nat) : Int) == 255))] (by kernel_rfl) rfl ?_
      refine GL.k rfl hK23 (fun _ _ h => h) ?_
      cases hb24 : ((((getB (rV wr rest 1)) : Nat) : Int) == 255)
      · skip
        have hb24f := ne_of_beq_false hb24
        refine G.no rfl ?_
        refine G.skipK hK13 (fun _ _ h => h) ?_
        refine G.seqK fun K25 hK26 => ?_
        refine G.seqK fun K27 hK28 => ?_
        refine G.region ?_
        refine GL.run (j := 1) 1 [0, 1, 5, 6, 22] [(0, pt p 0), (1, .int .u64 (most : Int)), (5, .int .u64 (((getB (rV wr rest 1)) : Nat) : Int)), (6, .int .i64 1), (22, pt p 0)] (by kernel_rfl) rfl ?_
        refine GL.call (j := 2) (Wrong_calls (ids [.blk p [.slice A5 ((rR wr rest 1).length) c6, .bool (!(rOK wr rest 1))] 74, .row R N C 5 1 (by8 whole)]) p A5 ((rR wr rest 1).length) c6 (!(rOK wr rest 1)) R N C whole w9 (Hp.startL (A := [.blk p [.slice A5 ((rR wr rest 1).length) c6, .bool (!(rOK wr rest 1))] 74, .row R N C 5 1 (by8 whole)]) (B := []) H10)) (by kernel_rfl) rfl (fun e_ w29 hR => ?_)
        obtain ⟨rfl, H31⟩ := hR
        have H30 : Hp w S [.blk p [.slice A5 ((rR wr rest 1).length) c6, .bool (!(rOK wr rest 1))] 74, .row R N C 5 1 (by8 whole)] w29 := Hp.callL (A := [.blk p [.slice A5 ((rR wr rest 1).length) c6, .bool (!(rOK wr rest 1))] 74, .row R N C 5 1 (by8 whole)]) (B := []) H10 H31
        refine ⟨_, rfl, [0, 1, 5, 6, 23], [(0, pt p 0), (1, .int .u64 (most : Int)), (5, .int .u64 (((getB (rV wr rest 1)) : Nat) : Int)), (6, .int .i64 1), (23, .bool (!(rOK wr rest 1)))], by kernel_rfl, ?_⟩
        refine GL.run (j := 3) 1 [0, 1, 5, 6, 24] [(0, pt p 0), (1, .int .u64 (most : Int)), (5, .int .u64 (((getB (rV wr rest 1)) : Nat) : Int)), (6, .int .i64 1), (24, .bool (!(rOK wr rest 1)))] (by kernel_rfl) rfl ?_
        cases hb32 : (rOK wr rest 1)
        · skip
          refine GL.run (j := 13) 10 [0, 5, 34] [(0, pt p 0), (5, .int .u64 (((getB (rV wr rest 1)) : Nat) : Int)), (34, .bool true)] (by kernel_rfl) rfl ?_
          refine GL.k rfl hK28 (fun _ _ h => h) ?_
          refine G.yes rfl ?_
          refine G.seqK fun K33 hK34 => ?_
          refine G.region ?_
          refine GL.run (j := 1) 1 [35] [(35, pt p 0)] (by kernel_rfl) rfl ?_
          refine GL.call (j := 2) (Fail_calls (ids [.blk p [.slice A5 ((rR wr rest 1).length) c6, .bool (!(rOK wr rest 1))] 74, .row R N C 5 1 (by8 whole)]) p A5 ((rR wr rest 1).length) c6 (!(rOK wr rest 1)) R N C whole w29 (Hp.startL (A := [.blk p [.slice A5 ((rR wr rest 1).length) c6, .bool (!(rOK wr rest 1))] 74, .row R N C 5 1 (by8 whole)]) (B := []) H30)) (by kernel_rfl) rfl (fun e_ w35 hR => ?_)
          obtain ⟨rfl, H37⟩ := hR
          have H36 : Hp w S [.blk p [.slice none 0 0, .bool true] 74, .row R N C 5 1 (by8 whole)] w35 := Hp.callL (A := [.blk p [.slice A5 ((rR wr rest 1).length) c6, .bool (!(rOK wr rest 1))] 74, .row R N C 5 1 (by8 whole)]) (B := []) H30 H37
          refine ⟨_, rfl, [], [], by kernel_rfl, ?_⟩
          refine GL.k rfl hK34 (fun _ _ h => h) ?_
          refine G.seqK fun K38 hK39 => ?_
          refine G.region ?_
          refine GL.run (j := 1) 1 [4] [(4, .int .u64 0)] (by kernel_rfl) rfl ?_
          refine GL.k rfl hK39 (fun _ _ h => h) ?_
          refine G.ret ?_
          intro F_ hF_ hM_
          refine hRet _ _ (bodyPost_1 rfl (RV.tmp rfl) ?_ F_ hF_ hM_)
          have hn : ctN wr rest = 0 := by unfold ctN; (repeat' split) <;> omega
          obtain ⟨eX, eW, eT⟩ := ct_short hn
          obtain ⟨o1, o2, o3⟩ := ct_bad (most := most) (.inl (by rw [eW, ‹(rOK wr rest 1) = false›]; rfl))
          rw [o1, o2, o3]
          exact ⟨none, 0, rfl, H36, Cut.nil _ _ _, Nat.le_refl _⟩
        · skip
          refine GL.run (j := 5) 2 [0, 1, 5, 24, 25, 26] [(0, pt p 0), (1, .int .u64 (most : Int)), (5, .int .u64 (((getB (rV wr rest 1)) : Nat) : Int)), (24, .bool false), (25, .int .i64 1), (26, .int .u64 (((getB (rV wr rest 1)) : Nat) : Int))] (by kernel_rfl) rfl ?_
          refine GL.call (j := 6) (CountSize_calls (getB (rV wr rest 1)) w29) (by kernel_rfl) rfl (fun e_ w40 hR => ?_)
          obtain ⟨rfl, H42⟩ := hR
          have H41 : Hp w S [.blk p [.slice A5 ((rR wr rest 1).length) c6, .bool (!(rOK wr rest 1))] 74, .row R N C 5 1 (by8 whole)] w40 := H30.callNil H42
          refine ⟨_, rfl, [0, 1, 5, 24, 25, 27], [(0, pt p 0), (1, .int .u64 (most : Int)), (5, .int .u64 (((getB (rV wr rest 1)) : Nat) : Int)), (24, .bool false), (25, .int .i64 1), (27, .int .i64 (((cntSz (getB (rV wr rest 1))) : Nat) : Int))], by kernel_rfl, ?_⟩
          refine GL.run (j := 9) 3 [0, 1, 5, 30] [(0, pt p 0), (1, .int .u64 (most : Int)), (5, .int .u64 (((getB (rV wr rest 1)) : Nat) : Int)), (30, .bool ((1 : Int) != (((cntSz (getB (rV wr rest 1))) : Nat) : Int)))] (by kernel_rfl) rfl ?_
          cases hb43 : ((1 : Int) != (((cntSz (getB (rV wr rest 1))) : Nat) : Int))
          · skip
            have hb43f : (1 : Int) = (((cntSz (getB (rV wr rest 1))) : Nat) : Int) := bne_eq_false_iff_eq.1 hb43
            refine GL.run (j := 13) 4 [0, 5, 34] [(0, pt p 0), (5, .int .u64 (((getB (rV wr rest 1)) : Nat) : Int)), (34, .bool (decide ((most : Int) < (((getB (rV wr rest 1)) : Nat) : Int))))] (by kernel_rfl) rfl ?_
            refine GL.k rfl hK28 (fun _ _ h => h) ?_
            cases hb44 : (decide ((most : Int) < (((getB (rV wr rest 1)) : Nat) : Int)))
            · skip
              have hb44f := of_decide_eq_false hb44
              refine G.no rfl ?_
              refine G.skipK hK26 (fun _ _ h => h) ?_
              refine G.seqK fun K45 hK46 => ?_
              refine G.region ?_
              refine GL.run (j := 2) 2 [4] [(4, .int .u64 (((getB (rV wr rest 1)) : Nat) : Int))] (by kernel_rfl) rfl ?_
              refine GL.k rfl hK46 (fun _ _ h => h) ?_
              refine G.ret ?_
              intro F_ hF_ hM_
              refine hRet _ _ (bodyPost_1 rfl (RV.tmp rfl) ?_ F_ hF_ hM_)
              have hn : ctN wr rest = 0 := by unfold ctN; (repeat' split) <;> omega
              obtain ⟨eX, eW, eT⟩ := ct_short hn
              obtain ⟨o1, o2, o3⟩ := ct_ok (most := most) (by rw [eW, ‹(rOK wr rest 1) = true›]; rfl) (by rw [eX, hn]; omega) (by rw [eX]; omega)
              rw [o1, o2, o3, eX, eT]
              have HF := H41
              rw [‹(rOK wr rest 1) = true›] at HF
              exact ⟨_, _, rfl, HF, hC7, hL8⟩
            · skip
              have hb44f := of_decide_eq_true hb44
              refine G.yes rfl ?_
              refine G.seqK fun K47 hK48 => ?_
              refine G.region ?_
              refine GL.run (j := 1) 1 [35] [(35, pt p 0)] (by kernel_rfl) rfl ?_
              refine GL.call (j := 2) (Fail_calls (ids [.blk p [.slice A5 ((rR wr rest 1).length) c6, .bool (!(rOK wr rest 1))] 74, .row R N C 5 1 (by8 whole)]) p A5 ((rR wr rest 1).length) c6 (!(rOK wr rest 1)) R N C whole w40 (Hp.startL (A := [.blk p [.slice A5 ((rR wr rest 1).length) c6, .bool (!(rOK wr rest 1))] 74, .row R N C 5 1 (by8 whole)]) (B := []) H41)) (by kernel_rfl) rfl (fun e_ w49 hR => ?_)
              obtain ⟨rfl, H51⟩ := hR
              have H50 : Hp w S [.blk p [.slice none 0 0, .bool true] 74, .row R N C 5 1 (by8 whole)] w49 := Hp.callL (A := [.blk p [.slice A5 ((rR wr rest 1).length) c6, .bool (!(rOK wr rest 1))] 74, .row R N C 5 1 (by8 whole)]) (B := []) H41 H51
              refine ⟨_, rfl, [], [], by kernel_rfl, ?_⟩
              refine GL.k rfl hK48 (fun _ _ h => h) ?_
              refine G.seqK fun K52 hK53 => ?_
              refine G.region ?_
              refine GL.run (j := 1) 1 [4] [(4, .int .u64 0)] (by kernel_rfl) rfl ?_
              refine GL.k rfl hK53 (fun _ _ h => h) ?_
              refine G.ret ?_
              intro F_ hF_ hM_
              refine hRet _ _ (bodyPost_1 rfl (RV.tmp rfl) ?_ F_ hF_ hM_)
              have hn : ctN wr rest = 0 := by unfold ctN; (repeat' split) <;> omega
              obtain ⟨eX, eW, eT⟩ := ct_short hn
              obtain ⟨o1, o2, o3⟩ := ct_bad (wr := wr) (rest := rest) (most := most) (.inr (.inr (by rw [eX]; omega)))
              rw [o1, o2, o3]
              exact ⟨none, 0, rfl, H50, Cut.nil _ _ _, Nat.le_refl _⟩
          · skip
            have hb43f : (1 : Int) ≠ (((cntSz (getB (rV wr rest 1))) : Nat) : Int) := bne_iff_ne.1 hb43
            refine GL.run (j := 13) 4 [0, 5, 34] [(0, pt p 0), (5, .int .u64 (((getB (rV wr rest 1)) : Nat) : Int)), (34, .bool true)] (by kernel_rfl) rfl ?_
            refine GL.k rfl hK28 (fun _ _ h => h) ?_
            refine G.yes rfl ?_
            refine G.seqK fun K54 hK55 => ?_
            refine G.region ?_
            refine GL.run (j := 1) 1 [35] [(35, pt p 0)] (by kernel_rfl) rfl ?_
            refine GL.call (j := 2) (Fail_calls (ids [.blk p [.slice A5 ((rR wr rest 1).length) c6, .bool (!(rOK wr rest 1))] 74, .row R N C 5 1 (by8 whole)]) p A5 ((rR wr rest 1).length) c6 (!(rOK wr rest 1)) R N C whole w40 (Hp.startL (A := [.blk p [.slice A5 ((rR wr rest 1).length) c6, .bool (!(rOK wr rest 1))] 74, .row R N C 5 1 (by8 whole)]) (B := []) H41)) (by kernel_rfl) rfl (fun e_ w56 hR => ?_)
            obtain ⟨rfl, H58⟩ := hR
            have H57 : Hp w S [.blk p [.slice none 0 0, .bool true] 74, .row R N C 5 1 (by8 whole)] w56 := Hp.callL (A := [.blk p [.slice A5 ((rR wr rest 1).length) c6, .bool (!(rOK wr rest 1))] 74, .row R N C 5 1 (by8 whole)]) (B := []) H41 H58
            refine ⟨_, rfl, [], [], by kernel_rfl, ?_⟩
            refine GL.k rfl hK55 (fun _ _ h => h) ?_
            refine G.seqK fun K59 hK60 => ?_
            refine G.region ?_
            refine GL.run (j := 1) 1 [4] [(4, .int .u64 0)] (by kernel_rfl) rfl ?_
            refine GL.k rfl hK60 (fun _ _ h => h) ?_
            refine G.ret ?_
            intro F_ hF_ hM_
            refine hRet _ _ (bodyPost_1 rfl (RV.tmp rfl) ?_ F_ hF_ hM_)
            have hn : ctN wr rest = 0 := by unfold ctN; (repeat' split) <;> omega
            obtain ⟨eX, eW, eT⟩ := ct_short hn
            obtain ⟨o1, o2, o3⟩ := ct_bad (wr := wr) (rest := rest) (most := most) (.inr (.inl (by rw [eX, hn]; omega)))
            rw [o1, o2, o3]
            exact ⟨none, 0, rfl, H57, Cut.nil _ _ _, Nat.le_refl _⟩
      · skip
        have hb24f := eq_of_beq hb24
        refine G.yes rfl ?_
        refine G.region ?_
        refine GL.run (j := 1) 1 [0, 1, 20] [(0, pt p 0), (1, .int .u64 (most : Int)), (20, pt p 0)] (by kernel_rfl) rfl ?_
        refine GL.call (j := 2) (Get8_calls (ids [.blk p [.slice A5 ((rR wr rest 1).length) c6, .bool (!(rOK wr rest 1))] 74, .row R N C 5 1 (by8 whole)]) p A5 ((rR wr rest 1).length) c6 (!(rOK wr rest 1)) R N C whole (rR wr rest 1) w9 (Hp.startL (A := [.blk p [.slice A5 ((rR wr rest 1).length) c6, .bool (!(rOK wr rest 1))] 74, .row R N C 5 1 (by8 whole)]) (B := []) H10) hC7 (rfl) (hL8) ((Nat.le_trans (rR_le _ _ _) (hk ▸ hN)))) (by kernel_rfl) rfl (fun e_ w65 hR => ?_)
        obtain ⟨A61, c62, rfl, H67, hC63, hL64⟩ := hR
        have H66 : Hp w S [.blk p [.slice A61 ((rR (!(rOK wr rest 1)) (rR wr rest 1) 8).length) c62, .bool (!(rOK (!(rOK wr rest 1)) (rR wr rest 1) 8))] 74, .row R N C 5 1 (by8 whole)] w65 := Hp.callL (A := [.blk p [.slice A5 ((rR wr rest 1).length) c6, .bool (!(rOK wr rest 1))] 74, .row R N C 5 1 (by8 whole)]) (B := []) H10 H67
        refine ⟨_, rfl, [0, 1, 21], [(0, pt p 0), (1, .int .u64 (most : Int)), (21, .int .u64 (((getB (rV (!(rOK wr rest 1)) (rR wr rest 1) 8)) : Nat) : Int))], by kernel_rfl, ?_⟩
        refine GL.run (j := 4) 2 [0, 1, 5, 6] [(0, pt p 0), (1, .int .u64 (most : Int)), (5, .int .u64 (((getB (rV (!(rOK wr rest 1)) (rR wr rest 1) 8)) : Nat) : Int)), (6, .int .i64 9)] (by kernel_rfl) rfl ?_
        refine GL.k rfl hK13 (fun _ _ h => h) ?_
        refine G.seqK fun K68 hK69 => ?_
        refine G.seqK fun K70 hK71 => ?_
        refine G.region ?_
        refine GL.run (j := 1) 1 [0, 1, 5, 6, 22] [(0, pt p 0), (1, .int .u64 (most : Int)), (5, .int .u64 (((getB (rV (!(rOK wr rest 1)) (rR wr rest 1) 8)) : Nat) : Int)), (6, .int .i64 9), (22, pt p 0)] (by kernel_rfl) rfl ?_
        refine GL.call (j := 2) (Wrong_calls (ids [.blk p [.slice A61 ((rR (!(rOK wr rest 1)) (rR wr rest 1) 8).length) c62, .bool (!(rOK (!(rOK wr rest 1)) (rR wr rest 1) 8))] 74, .row R N C 5 1 (by8 whole)]) p A61 ((rR (!(rOK wr rest 1)) (rR wr rest 1) 8).length) c62 (!(rOK (!(rOK wr rest 1)) (rR wr rest 1) 8)) R N C whole w65 (Hp.startL (A := [.blk p [.slice A61 ((rR (!(rOK wr rest 1)) (rR wr rest 1) 8).length) c62, .bool (!(rOK (!(rOK wr rest 1)) (rR wr rest 1) 8))] 74, .row R N C 5 1 (by8 whole)]) (B := []) H66)) (by kernel_rfl) rfl (fun e_ w72 hR => ?_)
        obtain ⟨rfl, H74⟩ := hR
        have H73 : Hp w S [.blk p [.slice A61 ((rR (!(rOK wr rest 1)) (rR wr rest 1) 8).length) c62, .bool (!(rOK (!(rOK wr rest 1)) (rR wr rest 1) 8))] 74, .row R N C 5 1 (by8 whole)] w72 := Hp.callL (A := [.blk p [.slice A61 ((rR (!(rOK wr rest 1)) (rR wr rest 1) 8).length) c62, .bool (!(rOK (!(rOK wr rest 1)) (rR wr rest 1) 8))] 74, .row R N C 5 1 (by8 whole)]) (B := []) H66 H74
        refine ⟨_, rfl, [0, 1, 5, 6, 23], [(0, pt p 0), (1, .int .u64 (most : Int)), (5, .int .u64 (((getB (rV (!(rOK wr rest 1)) (rR wr rest 1) 8)) : Nat) : Int)), (6, .int .i64 9), (23, .bool (!(rOK (!(rOK wr rest 1)) (rR wr rest 1) 8)))], by kernel_rfl, ?_⟩
        refine GL.run (j := 3) 1 [0, 1, 5, 6, 24] [(0, pt p 0), (1, .int .u64 (most : Int)), (5, .int .u64 (((getB (rV (!(rOK wr rest 1)) (rR wr rest 1) 8)) : Nat) : Int)), (6, .int .i64 9), (24, .bool (!(rOK (!(rOK wr rest 1)) (rR wr rest 1) 8)))] (by kernel_rfl) rfl ?_
        cases hb75 : (rOK (!(rOK wr rest 1)) (rR wr rest 1) 8)
        · skip
          refine GL.run (j := 13) 10 [0, 5, 34] [(0, pt p 0), (5, .int .u64 (((getB (rV (!(rOK wr rest 1)) (rR wr rest 1) 8)) : Nat) : Int)), (34, .bool true)] (by kernel_rfl) rfl ?_
          refine GL.k rfl hK71 (fun _ _ h => h) ?_
          refine G.yes rfl ?_
          refine G.seqK fun K76 hK77 => ?_
          refine G.region ?_
          refine GL.run (j := 1) 1 [35] [(35, pt p 0)] (by kernel_rfl) rfl ?_
          refine GL.call (j := 2) (Fail_calls (ids [.blk p [.slice A61 ((rR (!(rOK wr rest 1)) (rR wr rest 1) 8).length) c62, .bool (!(rOK (!(rOK wr rest 1)) (rR wr rest 1) 8))] 74, .row R N C 5 1 (by8 whole)]) p A61 ((rR (!(rOK wr rest 1)) (rR wr rest 1) 8).length) c62 (!(rOK (!(rOK wr rest 1)) (rR wr rest 1) 8)) R N C whole w72 (Hp.startL (A := [.blk p [.slice A61 ((rR (!(rOK wr rest 1)) (rR wr rest 1) 8).length) c62, .bool (!(rOK (!(rOK wr rest 1)) (rR wr rest 1) 8))] 74, .row R N C 5 1 (by8 whole)]) (B := []) H73)) (by kernel_rfl) rfl (fun e_ w78 hR => ?_)
          obtain ⟨rfl, H80⟩ := hR
          have H79 : Hp w S [.blk p [.slice none 0 0, .bool true] 74, .row R N C 5 1 (by8 whole)] w78 := Hp.callL (A := [.blk p [.slice A61 ((rR (!(rOK wr rest 1)) (rR wr rest 1) 8).length) c62, .bool (!(rOK (!(rOK wr rest 1)) (rR wr rest 1) 8))] 74, .row R N C 5 1 (by8 whole)]) (B := []) H73 H80
          refine ⟨_, rfl, [], [], by kernel_rfl, ?_⟩
          refine GL.k rfl hK77 (fun _ _ h => h) ?_
          refine G.seqK fun K81 hK82 => ?_
          refine G.region ?_
          refine GL.run (j := 1) 1 [4] [(4, .int .u64 0)] (by kernel_rfl) rfl ?_
          refine GL.k rfl hK82 (fun _ _ h => h) ?_
          refine G.ret ?_
          intro F_ hF_ hM_
          refine hRet _ _ (bodyPost_1 rfl (RV.tmp rfl) ?_ F_ hF_ hM_)
          have hn : ctN wr rest = 8 := by unfold ctN; (repeat' split) <;> omega
          obtain ⟨eX, eW, eT⟩ := ct_long hn (by decide)
          obtain ⟨o1, o2, o3⟩ := ct_bad (most := most) (.inl (by rw [eW, ‹(rOK (!(rOK wr rest 1)) (rR wr rest 1) 8) = false›]; rfl))
          rw [o1, o2, o3]
          exact ⟨none, 0, rfl, H79, Cut.nil _ _ _, Nat.le_refl _⟩
        · skip
          refine GL.run (j := 5) 2 [0, 1, 5, 24, 25, 26] [(0, pt p 0), (1, .int .u64 (most : Int)), (5, .int .u64 (((getB (rV (!(rOK wr rest 1)) (rR wr rest 1) 8)) : Nat) : Int)), (24, .bool false), (25, .int .i64 9), (26, .int .u64 (((getB (rV (!(rOK wr rest 1)) (rR wr rest 1) 8)) : Nat) : Int))] (by kernel_rfl) rfl ?_
          refine GL.call (j := 6) (CountSize_calls (getB (rV (!(rOK wr rest 1)) (rR wr rest 1) 8)) w72) (by kernel_rfl) rfl (fun e_ w83 hR => ?_)
          obtain ⟨rfl, H85⟩ := hR
          have H84 : Hp w S [.blk p [.slice A61 ((rR (!(rOK wr rest 1)) (rR wr rest 1) 8).length) c62, .bool (!(rOK (!(rOK wr rest 1)) (rR wr rest 1) 8))] 74, .row R N C 5 1 (by8 whole)] w83 := H73.callNil H85
          refine ⟨_, rfl, [0, 1, 5, 24, 25, 27], [(0, pt p 0), (1, .int .u64 (most : Int)), (5, .int .u64 (((getB (rV (!(rOK wr rest 1)) (rR wr rest 1) 8)) : Nat) : Int)), (24, .bool false), (25, .int .i64 9), (27, .int .i64 (((cntSz (getB (rV (!(rOK wr rest 1)) (rR wr rest 1) 8))) : Nat) : Int))], by kernel_rfl, ?_⟩
          refine GL.run (j := 9) 3 [0, 1, 5, 30] [(0, pt p 0), (1, .int .u64 (most : Int)), (5, .int .u64 (((getB (rV (!(rOK wr rest 1)) (rR wr rest 1) 8)) : Nat) : Int)), (30, .bool ((9 : Int) != (((cntSz (getB (rV (!(rOK wr rest 1)) (rR wr rest 1) 8))) : Nat) : Int)))] (by kernel_rfl) rfl ?_
          cases hb86 : ((9 : Int) != (((cntSz (getB (rV (!(rOK wr rest 1)) (rR wr rest 1) 8))) : Nat) : Int))
          · skip
            have hb86f : (9 : Int) = (((cntSz (getB (rV (!(rOK wr rest 1)) (rR wr rest 1) 8))) : Nat) : Int) := bne_eq_false_iff_eq.1 hb86
            refine GL.run (j := 13) 4 [0, 5, 34] [(0, pt p 0), (5, .int .u64 (((getB (rV (!(rOK wr rest 1)) (rR wr rest 1) 8)) : Nat) : Int)), (34, .bool (decide ((most : Int) < (((getB (rV (!(rOK wr rest 1)) (rR wr rest 1) 8)) : Nat) : Int))))] (by kernel_rfl) rfl ?_
            refine GL.k rfl hK71 (fun _ _ h => h) ?_
            cases hb87 : (decide ((most : Int) < (((getB (rV (!(rOK wr rest 1)) (rR wr rest 1) 8)) : Nat) : Int)))
            · skip
              have hb87f := of_decide_eq_false hb87
              refine G.no rfl ?_
              refine G.skipK hK69 (fun _ _ h => h) ?_
              refine G.seqK fun K88 hK89 => ?_
              refine G.region ?_
              refine GL.run (j := 2) 2 [4] [(4, .int .u64 (((getB (rV (!(rOK wr rest 1)) (rR wr rest 1) 8)) : Nat) : Int))] (by kernel_rfl) rfl ?_
              refine GL.k rfl hK89 (fun _ _ h => h) ?_
              refine G.ret ?_
              intro F_ hF_ hM_
              refine hRet _ _ (bodyPost_1 rfl (RV.tmp rfl) ?_ F_ hF_ hM_)
              have hn : ctN wr rest = 8 := by unfold ctN; (repeat' split) <;> omega
              obtain ⟨eX, eW, eT⟩ := ct_long hn (by decide)
              obtain ⟨o1, o2, o3⟩ := ct_ok (most := most) (by rw [eW, ‹(rOK (!(rOK wr rest 1)) (rR wr rest 1) 8) = true›]; rfl) (by rw [eX, hn]; omega) (by rw [eX]; omega)
              rw [o1, o2, o3, eX, eT]
              have HF := H84
              rw [‹(rOK (!(rOK wr rest 1)) (rR wr rest 1) 8) = true›] at HF
              exact ⟨_, _, rfl, HF, hC63, hL64⟩
            · skip
              have hb87f := of_decide_eq_true hb87
              refine G.yes rfl ?_
              refine G.seqK fun K90 hK91 => ?_
              refine G.region ?_
              refine GL.run (j := 1) 1 [35] [(35, pt p 0)] (by kernel_rfl) rfl ?_
              refine GL.call (j := 2) (Fail_calls (ids [.blk p [.slice A61 ((rR (!(rOK wr rest 1)) (rR wr rest 1) 8).length) c62, .bool (!(rOK (!(rOK wr rest 1)) (rR wr rest 1) 8))] 74, .row R N C 5 1 (by8 whole)]) p A61 ((rR (!(rOK wr rest 1)) (rR wr rest 1) 8).length) c62 (!(rOK (!(rOK wr rest 1)) (rR wr rest 1) 8)) R N C whole w83 (Hp.startL (A := [.blk p [.slice A61 ((rR (!(rOK wr rest 1)) (rR wr rest 1) 8).length) c62, .bool (!(rOK (!(rOK wr rest 1)) (rR wr rest 1) 8))] 74, .row R N C 5 1 (by8 whole)]) (B := []) H84)) (by kernel_rfl) rfl (fun e_ w92 hR => ?_)
              obtain ⟨rfl, H94⟩ := hR
              have H93 : Hp w S [.blk p [.slice none 0 0, .bool true] 74, .row R N C 5 1 (by8 whole)] w92 := Hp.callL (A := [.blk p [.slice A61 ((rR (!(rOK wr rest 1)) (rR wr rest 1) 8).length) c62, .bool (!(rOK (!(rOK wr rest 1)) (rR wr rest 1) 8))] 74, .row R N C 5 1 (by8 whole)]) (B := []) H84 H94
              refine ⟨_, rfl, [], [], by kernel_rfl, ?_⟩
              refine GL.k rfl hK91 (fun _ _ h => h) ?_
              refine G.seqK fun K95 hK96 => ?_
              refine G.region ?_
              refine GL.run (j := 1) 1 [4] [(4, .int .u64 0)] (by kernel_rfl) rfl ?_
              refine GL.k rfl hK96 (fun _ _ h => h) ?_
              refine G.ret ?_
              intro F_ hF_ hM_
              refine hRet _ _ (bodyPost_1 rfl (RV.tmp rfl) ?_ F_ hF_ hM_)
              have hn : ctN wr rest = 8 := by unfold ctN; (repeat' split) <;> omega
              obtain ⟨eX, eW, eT⟩ := ct_long hn (by decide)
              obtain ⟨o1, o2, o3⟩ := ct_bad (wr := wr) (rest := rest) (most := most) (.inr (.inr (by rw [eX]; omega)))
              rw [o1, o2, o3]
              exact ⟨none, 0, rfl, H93, Cut.nil _ _ _, Nat.le_refl _⟩
          · skip
            have hb86f : (9 : Int) ≠ (((cntSz (getB (rV (!(rOK wr rest 1)) (rR wr rest 1) 8))) : Nat) : Int) := bne_iff_ne.1 hb86
            refine GL.run (j := 13) 4 [0, 5, 34] [(0, pt p 0), (5, .int .u64 (((getB (rV (!(rOK wr rest 1)) (rR wr rest 1) 8)) : Nat) : Int)), (34, .bool true)] (by kernel_rfl) rfl ?_
            refine GL.k rfl hK71 (fun _ _ h => h) ?_
            refine G.yes rfl ?_
            refine G.seqK fun K97 hK98 => ?_
            refine G.region ?_
            refine GL.run (j := 1) 1 [35] [(35, pt p 0)] (by kernel_rfl) rfl ?_
            refine GL.call (j := 2) (Fail_calls (ids [.blk p [.slice A61 ((rR (!(rOK wr rest 1)) (rR wr rest 1) 8).length) c62, .bool (!(rOK (!(rOK wr rest 1)) (rR wr rest 1) 8))] 74, .row R N C 5 1 (by8 whole)]) p A61 ((rR (!(rOK wr rest 1)) (rR wr rest 1) 8).length) c62 (!(rOK (!(rOK wr rest 1)) (rR wr rest 1) 8)) R N C whole w83 (Hp.startL (A := [.blk p [.slice A61 ((rR (!(rOK wr rest 1)) (rR wr rest 1) 8).length) c62, .bool (!(rOK (!(rOK wr rest 1)) (rR wr rest 1) 8))] 74, .row R N C 5 1 (by8 whole)]) (B := []) H84)) (by kernel_rfl) rfl (fun e_ w99 hR => ?_)
            obtain ⟨rfl, H101⟩ := hR
            have H100 : Hp w S [.blk p [.slice none 0 0, .bool true] 74, .row R N C 5 1 (by8 whole)] w99 := Hp.callL (A := [.blk p [.slice A61 ((rR (!(rOK wr rest 1)) (rR wr rest 1) 8).length) c62, .bool (!(rOK (!(rOK wr rest 1)) (rR wr rest 1) 8))] 74, .row R N C 5 1 (by8 whole)]) (B := []) H84 H101
            refine ⟨_, rfl, [], [], by kernel_rfl, ?_⟩
            refine GL.k rfl hK98 (fun _ _ h => h) ?_
            refine G.seqK fun K102 hK103 => ?_
            refine G.region ?_
            refine GL.run (j := 1) 1 [4] [(4, .int .u64 0)] (by kernel_rfl) rfl ?_
            refine GL.k rfl hK103 (fun _ _ h => h) ?_
            refine G.ret ?_
            intro F_ hF_ hM_
            refine hRet _ _ (bodyPost_1 rfl (RV.tmp rfl) ?_ F_ hF_ hM_)
            have hn : ctN wr rest = 8 := by unfold ctN; (repeat' split) <;> omega
            obtain ⟨eX, eW, eT⟩ := ct_long hn (by decide)
            obtain ⟨o1, o2, o3⟩ := ct_bad (wr := wr) (rest := rest) (most := most) (.inr (.inl (by rw [eX, hn]; omega)))
            rw [o1, o2, o3]
            exact ⟨none, 0, rfl, H100, Cut.nil _ _ _, Nat.le_refl _⟩
    · skip
      have hb21f := eq_of_beq hb21
      refine G.yes rfl ?_
      refine G.region ?_
      refine GL.run (j := 1) 1 [0, 1, 16] [(0, pt p 0), (1, .int .u64 (most : Int)), (16, pt p 0)] (by kernel_rfl) rfl ?_
      refine GL.call (j := 2) (Get4_calls (ids [.blk p [.slice A5 ((rR wr rest 1).length) c6, .bool (!(rOK wr rest 1))] 74, .row R N C 5 1 (by8 whole)]) p A5 ((rR wr rest 1).length) c6 (!(rOK wr rest 1)) R N C whole (rR wr rest 1) w9 (Hp.startL (A := [.blk p [.slice A5 ((rR wr rest 1).length) c6, .bool (!(rOK wr rest 1))] 74, .row R N C 5 1 (by8 whole)]) (B := []) H10) hC7 (rfl) (hL8) ((Nat.le_trans (rR_le _ _ _) (hk ▸ hN)))) (by kernel_rfl) rfl (fun e_ w108 hR => ?_)
      obtain ⟨A104, c105, rfl, H110, hC106, hL107⟩ := hR
      have H109 : Hp w S [.blk p [.slice A104 ((rR (!(rOK wr rest 1)) (rR wr rest 1) 4).length) c105, .bool (!(rOK (!(rOK wr rest 1)) (rR wr rest 1) 4))] 74, .row R N C 5 1 (by8 whole)] w108 := Hp.callL (A := [.blk p [.slice A5 ((rR wr rest 1).length) c6, .bool (!(rOK wr rest 1))] 74, .row R N C 5 1 (by8 whole)]) (B := []) H10 H110
      refine ⟨_, rfl, [0, 1, 17], [(0, pt p 0), (1, .int .u64 (most : Int)), (17, .int .u64 (((getB (rV (!(rOK wr rest 1)) (rR wr rest 1) 4)) : Nat) : Int))], by kernel_rfl, ?_⟩
      refine GL.run (j := 4) 2 [0, 1, 5, 6] [(0, pt p 0), (1, .int .u64 (most : Int)), (5, .int .u64 (((getB (rV (!(rOK wr rest 1)) (rR wr rest 1) 4)) : Nat) : Int)), (6, .int .i64 5)] (by kernel_rfl) rfl ?_
      refine GL.k rfl hK13 (fun _ _ h => h) ?_
      refine G.seqK fun K111 hK112 => ?_
      refine G.seqK fun K113 hK114 => ?_
      refine G.region ?_
      refine GL.run (j := 1) 1 [0, 1, 5, 6, 22] [(0, pt p 0), (1, .int .u64 (most : Int)), (5, .int .u64 (((getB (rV (!(rOK wr rest 1)) (rR wr rest 1) 4)) : Nat) : Int)), (6, .int .i64 5), (22, pt p 0)] (by kernel_rfl) rfl ?_
      refine GL.call (j := 2) (Wrong_calls (ids [.blk p [.slice A104 ((rR (!(rOK wr rest 1)) (rR wr rest 1) 4).length) c105, .bool (!(rOK (!(rOK wr rest 1)) (rR wr rest 1) 4))] 74, .row R N C 5 1 (by8 whole)]) p A104 ((rR (!(rOK wr rest 1)) (rR wr rest 1) 4).length) c105 (!(rOK (!(rOK wr rest 1)) (rR wr rest 1) 4)) R N C whole w108 (Hp.startL (A := [.blk p [.slice A104 ((rR (!(rOK wr rest 1)) (rR wr rest 1) 4).length) c105, .bool (!(rOK (!(rOK wr rest 1)) (rR wr rest 1) 4))] 74, .row R N C 5 1 (by8 whole)]) (B := []) H109)) (by kernel_rfl) rfl (fun e_ w115 hR => ?_)
      obtain ⟨rfl, H117⟩ := hR
      have H116 : Hp w S [.blk p [.slice A104 ((rR (!(rOK wr rest 1)) (rR wr rest 1) 4).length) c105, .bool (!(rOK (!(rOK wr rest 1)) (rR wr rest 1) 4))] 74, .row R N C 5 1 (by8 whole)] w115 := Hp.callL (A := [.blk p [.slice A104 ((rR (!(rOK wr rest 1)) (rR wr rest 1) 4).length) c105, .bool (!(rOK (!(rOK wr rest 1)) (rR wr rest 1) 4))] 74, .row R N C 5 1 (by8 whole)]) (B := []) H109 H117
      refine ⟨_, rfl, [0, 1, 5, 6, 23], [(0, pt p 0), (1, .int .u64 (most : Int)), (5, .int .u64 (((getB (rV (!(rOK wr rest 1)) (rR wr rest 1) 4)) : Nat) : Int)), (6, .int .i64 5), (23, .bool (!(rOK (!(rOK wr rest 1)) (rR wr rest 1) 4)))], by kernel_rfl, ?_⟩
      refine GL.run (j := 3) 1 [0, 1, 5, 6, 24] [(0, pt p 0), (1, .int .u64 (most : Int)), (5, .int .u64 (((getB (rV (!(rOK wr rest 1)) (rR wr rest 1) 4)) : Nat) : Int)), (6, .int .i64 5), (24, .bool (!(rOK (!(rOK wr rest 1)) (rR wr rest 1) 4)))] (by kernel_rfl) rfl ?_
      cases hb118 : (rOK (!(rOK wr rest 1)) (rR wr rest 1) 4)
      · skip
        refine GL.run (j := 13) 10 [0, 5, 34] [(0, pt p 0), (5, .int .u64 (((getB (rV (!(rOK wr rest 1)) (rR wr rest 1) 4)) : Nat) : Int)), (34, .bool true)] (by kernel_rfl) rfl ?_
        refine GL.k rfl hK114 (fun _ _ h => h) ?_
        refine G.yes rfl ?_
        refine G.seqK fun K119 hK120 => ?_
        refine G.region ?_
        refine GL.run (j := 1) 1 [35] [(35, pt p 0)] (by kernel_rfl) rfl ?_
        refine GL.call (j := 2) (Fail_calls (ids [.blk p [.slice A104 ((rR (!(rOK wr rest 1)) (rR wr rest 1) 4).length) c105, .bool (!(rOK (!(rOK wr rest 1)) (rR wr rest 1) 4))] 74, .row R N C 5 1 (by8 whole)]) p A104 ((rR (!(rOK wr rest 1)) (rR wr rest 1) 4).length) c105 (!(rOK (!(rOK wr rest 1)) (rR wr rest 1) 4)) R N C whole w115 (Hp.startL (A := [.blk p [.slice A104 ((rR (!(rOK wr rest 1)) (rR wr rest 1) 4).length) c105, .bool (!(rOK (!(rOK wr rest 1)) (rR wr rest 1) 4))] 74, .row R N C 5 1 (by8 whole)]) (B := []) H116)) (by kernel_rfl) rfl (fun e_ w121 hR => ?_)
        obtain ⟨rfl, H123⟩ := hR
        have H122 : Hp w S [.blk p [.slice none 0 0, .bool true] 74, .row R N C 5 1 (by8 whole)] w121 := Hp.callL (A := [.blk p [.slice A104 ((rR (!(rOK wr rest 1)) (rR wr rest 1) 4).length) c105, .bool (!(rOK (!(rOK wr rest 1)) (rR wr rest 1) 4))] 74, .row R N C 5 1 (by8 whole)]) (B := []) H116 H123
        refine ⟨_, rfl, [], [], by kernel_rfl, ?_⟩
        refine GL.k rfl hK120 (fun _ _ h => h) ?_
        refine G.seqK fun K124 hK125 => ?_
        refine G.region ?_
        refine GL.run (j := 1) 1 [4] [(4, .int .u64 0)] (by kernel_rfl) rfl ?_
        refine GL.k rfl hK125 (fun _ _ h => h) ?_
        refine G.ret ?_
        intro F_ hF_ hM_
        refine hRet _ _ (bodyPost_1 rfl (RV.tmp rfl) ?_ F_ hF_ hM_)
        have hn : ctN wr rest = 4 := by unfold ctN; (repeat' split) <;> omega
        obtain ⟨eX, eW, eT⟩ := ct_long hn (by decide)
        obtain ⟨o1, o2, o3⟩ := ct_bad (most := most) (.inl (by rw [eW, ‹(rOK (!(rOK wr rest 1)) (rR wr rest 1) 4) = false›]; rfl))
        rw [o1, o2, o3]
        exact ⟨none, 0, rfl, H122, Cut.nil _ _ _, Nat.le_refl _⟩
      · skip
        refine GL.run (j := 5) 2 [0, 1, 5, 24, 25, 26] [(0, pt p 0), (1, .int .u64 (most : Int)), (5, .int .u64 (((getB (rV (!(rOK wr rest 1)) (rR wr rest 1) 4)) : Nat) : Int)), (24, .bool false), (25, .int .i64 5), (26, .int .u64 (((getB (rV (!(rOK wr rest 1)) (rR wr rest 1) 4)) : Nat) : Int))] (by kernel_rfl) rfl ?_
        refine GL.call (j := 6) (CountSize_calls (getB (rV (!(rOK wr rest 1)) (rR wr rest 1) 4)) w115) (by kernel_rfl) rfl (fun e_ w126 hR => ?_)
        obtain ⟨rfl, H128⟩ := hR
        have H127 : Hp w S [.blk p [.slice A104 ((rR (!(rOK wr rest 1)) (rR wr rest 1) 4).length) c105, .bool (!(rOK (!(rOK wr rest 1)) (rR wr rest 1) 4))] 74, .row R N C 5 1 (by8 whole)] w126 := H116.callNil H128
        refine ⟨_, rfl, [0, 1, 5, 24, 25, 27], [(0, pt p 0), (1, .int .u64 (most : Int)), (5, .int .u64 (((getB (rV (!(rOK wr rest 1)) (rR wr rest 1) 4)) : Nat) : Int)), (24, .bool false), (25, .int .i64 5), (27, .int .i64 (((cntSz (getB (rV (!(rOK wr rest 1)) (rR wr rest 1) 4))) : Nat) : Int))], by kernel_rfl, ?_⟩
        refine GL.run (j := 9) 3 [0, 1, 5, 30] [(0, pt p 0), (1, .int .u64 (most : Int)), (5, .int .u64 (((getB (rV (!(rOK wr rest 1)) (rR wr rest 1) 4)) : Nat) : Int)), (30, .bool ((5 : Int) != (((cntSz (getB (rV (!(rOK wr rest 1)) (rR wr rest 1) 4))) : Nat) : Int)))] (by kernel_rfl) rfl ?_
        cases hb129 : ((5 : Int) != (((cntSz (getB (rV (!(rOK wr rest 1)) (rR wr rest 1) 4))) : Nat) : Int))
        · skip
          have hb129f : (5 : Int) = (((cntSz (getB (rV (!(rOK wr rest 1)) (rR wr rest 1) 4))) : Nat) : Int) := bne_eq_false_iff_eq.1 hb129
          refine GL.run (j := 13) 4 [0, 5, 34] [(0, pt p 0), (5, .int .u64 (((getB (rV (!(rOK wr rest 1)) (rR wr rest 1) 4)) : Nat) : Int)), (34, .bool (decide ((most : Int) < (((getB (rV (!(rOK wr rest 1)) (rR wr rest 1) 4)) : Nat) : Int))))] (by kernel_rfl) rfl ?_
          refine GL.k rfl hK114 (fun _ _ h => h) ?_
          cases hb130 : (decide ((most : Int) < (((getB (rV (!(rOK wr rest 1)) (rR wr rest 1) 4)) : Nat) : Int)))
          · skip
            have hb130f := of_decide_eq_false hb130
            refine G.no rfl ?_
            refine G.skipK hK112 (fun _ _ h => h) ?_
            refine G.seqK fun K131 hK132 => ?_
            refine G.region ?_
            refine GL.run (j := 2) 2 [4] [(4, .int .u64 (((getB (rV (!(rOK wr rest 1)) (rR wr rest 1) 4)) : Nat) : Int))] (by kernel_rfl) rfl ?_
            refine GL.k rfl hK132 (fun _ _ h => h) ?_
            refine G.ret ?_
            intro F_ hF_ hM_
            refine hRet _ _ (bodyPost_1 rfl (RV.tmp rfl) ?_ F_ hF_ hM_)
            have hn : ctN wr rest = 4 := by unfold ctN; (repeat' split) <;> omega
            obtain ⟨eX, eW, eT⟩ := ct_long hn (by decide)
            obtain ⟨o1, o2, o3⟩ := ct_ok (most := most) (by rw [eW, ‹(rOK (!(rOK wr rest 1)) (rR wr rest 1) 4) = true›]; rfl) (by rw [eX, hn]; omega) (by rw [eX]; omega)
            rw [o1, o2, o3, eX, eT]
            have HF := H127
            rw [‹(rOK (!(rOK wr rest 1)) (rR wr rest 1) 4) = true›] at HF
            exact ⟨_, _, rfl, HF, hC106, hL107⟩
          · skip
            have hb130f := of_decide_eq_true hb130
            refine G.yes rfl ?_
            refine G.seqK fun K133 hK134 => ?_
            refine G.region ?_
            refine GL.run (j := 1) 1 [35] [(35, pt p 0)] (by kernel_rfl) rfl ?_
            refine GL.call (j := 2) (Fail_calls (ids [.blk p [.slice A104 ((rR (!(rOK wr rest 1)) (rR wr rest 1) 4).length) c105, .bool (!(rOK (!(rOK wr rest 1)) (rR wr rest 1) 4))] 74, .row R N C 5 1 (by8 whole)]) p A104 ((rR (!(rOK wr rest 1)) (rR wr rest 1) 4).length) c105 (!(rOK (!(rOK wr rest 1)) (rR wr rest 1) 4)) R N C whole w126 (Hp.startL (A := [.blk p [.slice A104 ((rR (!(rOK wr rest 1)) (rR wr rest 1) 4).length) c105, .bool (!(rOK (!(rOK wr rest 1)) (rR wr rest 1) 4))] 74, .row R N C 5 1 (by8 whole)]) (B := []) H127)) (by kernel_rfl) rfl (fun e_ w135 hR => ?_)
            obtain ⟨rfl, H137⟩ := hR
            have H136 : Hp w S [.blk p [.slice none 0 0, .bool true] 74, .row R N C 5 1 (by8 whole)] w135 := Hp.callL (A := [.blk p [.slice A104 ((rR (!(rOK wr rest 1)) (rR wr rest 1) 4).length) c105, .bool (!(rOK (!(rOK wr rest 1)) (rR wr rest 1) 4))] 74, .row R N C 5 1 (by8 whole)]) (B := []) H127 H137
            refine ⟨_, rfl, [], [], by kernel_rfl, ?_⟩
            refine GL.k rfl hK134 (fun _ _ h => h) ?_
            refine G.seqK fun K138 hK139 => ?_
            refine G.region ?_
            refine GL.run (j := 1) 1 [4] [(4, .int .u64 0)] (by kernel_rfl) rfl ?_
            refine GL.k rfl hK139 (fun _ _ h => h) ?_
            refine G.ret ?_
            intro F_ hF_ hM_
            refine hRet _ _ (bodyPost_1 rfl (RV.tmp rfl) ?_ F_ hF_ hM_)
            have hn : ctN wr rest = 4 := by unfold ctN; (repeat' split) <;> omega
            obtain ⟨eX, eW, eT⟩ := ct_long hn (by decide)
            obtain ⟨o1, o2, o3⟩ := ct_bad (wr := wr) (rest := rest) (most := most) (.inr (.inr (by rw [eX]; omega)))
            rw [o1, o2, o3]
            exact ⟨none, 0, rfl, H136, Cut.nil _ _ _, Nat.le_refl _⟩
        · skip
          have hb129f : (5 : Int) ≠ (((cntSz (getB (rV (!(rOK wr rest 1)) (rR wr rest 1) 4))) : Nat) : Int) := bne_iff_ne.1 hb129
          refine GL.run (j := 13) 4 [0, 5, 34] [(0, pt p 0), (5, .int .u64 (((getB (rV (!(rOK wr rest 1)) (rR wr rest 1) 4)) : Nat) : Int)), (34, .bool true)] (by kernel_rfl) rfl ?_
          refine GL.k rfl hK114 (fun _ _ h => h) ?_
          refine G.yes rfl ?_
          refine G.seqK fun K140 hK141 => ?_
          refine G.region ?_
          refine GL.run (j := 1) 1 [35] [(35, pt p 0)] (by kernel_rfl) rfl ?_
          refine GL.call (j := 2) (Fail_calls (ids [.blk p [.slice A104 ((rR (!(rOK wr rest 1)) (rR wr rest 1) 4).length) c105, .bool (!(rOK (!(rOK wr rest 1)) (rR wr rest 1) 4))] 74, .row R N C 5 1 (by8 whole)]) p A104 ((rR (!(rOK wr rest 1)) (rR wr rest 1) 4).length) c105 (!(rOK (!(rOK wr rest 1)) (rR wr rest 1) 4)) R N C whole w126 (Hp.startL (A := [.blk p [.slice A104 ((rR (!(rOK wr rest 1)) (rR wr rest 1) 4).length) c105, .bool (!(rOK (!(rOK wr rest 1)) (rR wr rest 1) 4))] 74, .row R N C 5 1 (by8 whole)]) (B := []) H127)) (by kernel_rfl) rfl (fun e_ w142 hR => ?_)
          obtain ⟨rfl, H144⟩ := hR
          have H143 : Hp w S [.blk p [.slice none 0 0, .bool true] 74, .row R N C 5 1 (by8 whole)] w142 := Hp.callL (A := [.blk p [.slice A104 ((rR (!(rOK wr rest 1)) (rR wr rest 1) 4).length) c105, .bool (!(rOK (!(rOK wr rest 1)) (rR wr rest 1) 4))] 74, .row R N C 5 1 (by8 whole)]) (B := []) H127 H144
          refine ⟨_, rfl, [], [], by kernel_rfl, ?_⟩
          refine GL.k rfl hK141 (fun _ _ h => h) ?_
          refine G.seqK fun K145 hK146 => ?_
          refine G.region ?_
          refine GL.run (j := 1) 1 [4] [(4, .int .u64 0)] (by kernel_rfl) rfl ?_
          refine GL.k rfl hK146 (fun _ _ h => h) ?_
          refine G.ret ?_
          intro F_ hF_ hM_
          refine hRet _ _ (bodyPost_1 rfl (RV.tmp rfl) ?_ F_ hF_ hM_)
          have hn : ctN wr rest = 4 := by unfold ctN; (repeat' split) <;> omega
          obtain ⟨eX, eW, eT⟩ := ct_long hn (by decide)
          obtain ⟨o1, o2, o3⟩ := ct_bad (wr := wr) (rest := rest) (most := most) (.inr (.inl (by rw [eX, hn]; omega)))
          rw [o1, o2, o3]
          exact ⟨none, 0, rfl, H143, Cut.nil _ _ _, Nat.le_refl _⟩
  · skip
    have hb18f := eq_of_beq hb18
    refine G.yes rfl ?_
    refine G.region ?_
    refine GL.run (j := 1) 1 [0, 1, 12] [(0, pt p 0), (1, .int .u64 (most : Int)), (12, pt p 0)] (by kernel_rfl) rfl ?_
    refine GL.call (j := 2) (Get2_calls (ids [.blk p [.slice A5 ((rR wr rest 1).length) c6, .bool (!(rOK wr rest 1))] 74, .row R N C 5 1 (by8 whole)]) p A5 ((rR wr rest 1).length) c6 (!(rOK wr rest 1)) R N C whole (rR wr rest 1) w9 (Hp.startL (A := [.blk p [.slice A5 ((rR wr rest 1).length) c6, .bool (!(rOK wr rest 1))] 74, .row R N C 5 1 (by8 whole)]) (B := []) H10) hC7 (rfl) (hL8) ((Nat.le_trans (rR_le _ _ _) (hk ▸ hN)))) (by kernel_rfl) rfl (fun e_ w151 hR => ?_)
    obtain ⟨A147, c148, rfl, H153, hC149, hL150⟩ := hR
    have H152 : Hp w S [.blk p [.slice A147 ((rR (!(rOK wr rest 1)) (rR wr rest 1) 2).length) c148, .bool (!(rOK (!(rOK wr rest 1)) (rR wr rest 1) 2))] 74, .row R N C 5 1 (by8 whole)] w151 := Hp.callL (A := [.blk p [.slice A5 ((rR wr rest 1).length) c6, .bool (!(rOK wr rest 1))] 74, .row R N C 5 1 (by8 whole)]) (B := []) H10 H153
    refine ⟨_, rfl, [0, 1, 13], [(0, pt p 0), (1, .int .u64 (most : Int)), (13, .int .u64 (((getB (rV (!(rOK wr rest 1)) (rR wr rest 1) 2)) : Nat) : Int))], by kernel_rfl, ?_⟩
    refine GL.run (j := 4) 2 [0, 1, 5, 6] [(0, pt p 0), (1, .int .u64 (most : Int)), (5, .int .u64 (((getB (rV (!(rOK wr rest 1)) (rR wr rest 1) 2)) : Nat) : Int)), (6, .int .i64 3)] (by kernel_rfl) rfl ?_
    refine GL.k rfl hK13 (fun _ _ h => h) ?_
    refine G.seqK fun K154 hK155 => ?_
    refine G.seqK fun K156 hK157 => ?_
    refine G.region ?_
    refine GL.run (j := 1) 1 [0, 1, 5, 6, 22] [(0, pt p 0), (1, .int .u64 (most : Int)), (5, .int .u64 (((getB (rV (!(rOK wr rest 1)) (rR wr rest 1) 2)) : Nat) : Int)), (6, .int .i64 3), (22, pt p 0)] (by kernel_rfl) rfl ?_
    refine GL.call (j := 2) (Wrong_calls (ids [.blk p [.slice A147 ((rR (!(rOK wr rest 1)) (rR wr rest 1) 2).length) c148, .bool (!(rOK (!(rOK wr rest 1)) (rR wr rest 1) 2))] 74, .row R N C 5 1 (by8 whole)]) p A147 ((rR (!(rOK wr rest 1)) (rR wr rest 1) 2).length) c148 (!(rOK (!(rOK wr rest 1)) (rR wr rest 1) 2)) R N C whole w151 (Hp.startL (A := [.blk p [.slice A147 ((rR (!(rOK wr rest 1)) (rR wr rest 1) 2).length) c148, .bool (!(rOK (!(rOK wr rest 1)) (rR wr rest 1) 2))] 74, .row R N C 5 1 (by8 whole)]) (B := []) H152)) (by kernel_rfl) rfl (fun e_ w158 hR => ?_)
    obtain ⟨rfl, H160⟩ := hR
    have H159 : Hp w S [.blk p [.slice A147 ((rR (!(rOK wr rest 1)) (rR wr rest 1) 2).length) c148, .bool (!(rOK (!(rOK wr rest 1)) (rR wr rest 1) 2))] 74, .row R N C 5 1 (by8 whole)] w158 := Hp.callL (A := [.blk p [.slice A147 ((rR (!(rOK wr rest 1)) (rR wr rest 1) 2).length) c148, .bool (!(rOK (!(rOK wr rest 1)) (rR wr rest 1) 2))] 74, .row R N C 5 1 (by8 whole)]) (B := []) H152 H160
    refine ⟨_, rfl, [0, 1, 5, 6, 23], [(0, pt p 0), (1, .int .u64 (most : Int)), (5, .int .u64 (((getB (rV (!(rOK wr rest 1)) (rR wr rest 1) 2)) : Nat) : Int)), (6, .int .i64 3), (23, .bool (!(rOK (!(rOK wr rest 1)) (rR wr rest 1) 2)))], by kernel_rfl, ?_⟩
    refine GL.run (j := 3) 1 [0, 1, 5, 6, 24] [(0, pt p 0), (1, .int .u64 (most : Int)), (5, .int .u64 (((getB (rV (!(rOK wr rest 1)) (rR wr rest 1) 2)) : Nat) : Int)), (6, .int .i64 3), (24, .bool (!(rOK (!(rOK wr rest 1)) (rR wr rest 1) 2)))] (by kernel_rfl) rfl ?_
    cases hb161 : (rOK (!(rOK wr rest 1)) (rR wr rest 1) 2)
    · skip
      refine GL.run (j := 13) 10 [0, 5, 34] [(0, pt p 0), (5, .int .u64 (((getB (rV (!(rOK wr rest 1)) (rR wr rest 1) 2)) : Nat) : Int)), (34, .bool true)] (by kernel_rfl) rfl ?_
      refine GL.k rfl hK157 (fun _ _ h => h) ?_
      refine G.yes rfl ?_
      refine G.seqK fun K162 hK163 => ?_
      refine G.region ?_
      refine GL.run (j := 1) 1 [35] [(35, pt p 0)] (by kernel_rfl) rfl ?_
      refine GL.call (j := 2) (Fail_calls (ids [.blk p [.slice A147 ((rR (!(rOK wr rest 1)) (rR wr rest 1) 2).length) c148, .bool (!(rOK (!(rOK wr rest 1)) (rR wr rest 1) 2))] 74, .row R N C 5 1 (by8 whole)]) p A147 ((rR (!(rOK wr rest 1)) (rR wr rest 1) 2).length) c148 (!(rOK (!(rOK wr rest 1)) (rR wr rest 1) 2)) R N C whole w158 (Hp.startL (A := [.blk p [.slice A147 ((rR (!(rOK wr rest 1)) (rR wr rest 1) 2).length) c148, .bool (!(rOK (!(rOK wr rest 1)) (rR wr rest 1) 2))] 74, .row R N C 5 1 (by8 whole)]) (B := []) H159)) (by kernel_rfl) rfl (fun e_ w164 hR => ?_)
      obtain ⟨rfl, H166⟩ := hR
      have H165 : Hp w S [.blk p [.slice none 0 0, .bool true] 74, .row R N C 5 1 (by8 whole)] w164 := Hp.callL (A := [.blk p [.slice A147 ((rR (!(rOK wr rest 1)) (rR wr rest 1) 2).length) c148, .bool (!(rOK (!(rOK wr rest 1)) (rR wr rest 1) 2))] 74, .row R N C 5 1 (by8 whole)]) (B := []) H159 H166
      refine ⟨_, rfl, [], [], by kernel_rfl, ?_⟩
      refine GL.k rfl hK163 (fun _ _ h => h) ?_
      refine G.seqK fun K167 hK168 => ?_
      refine G.region ?_
      refine GL.run (j := 1) 1 [4] [(4, .int .u64 0)] (by kernel_rfl) rfl ?_
      refine GL.k rfl hK168 (fun _ _ h => h) ?_
      refine G.ret ?_
      intro F_ hF_ hM_
      refine hRet _ _ (bodyPost_1 rfl (RV.tmp rfl) ?_ F_ hF_ hM_)
      have hn : ctN wr rest = 2 := by unfold ctN; (repeat' split) <;> omega
      obtain ⟨eX, eW, eT⟩ := ct_long hn (by decide)
      obtain ⟨o1, o2, o3⟩ := ct_bad (most := most) (.inl (by rw [eW, ‹(rOK (!(rOK wr rest 1)) (rR wr rest 1) 2) = false›]; rfl))
      rw [o1, o2, o3]
      exact ⟨none, 0, rfl, H165, Cut.nil _ _ _, Nat.le_refl _⟩
    · skip
      refine GL.run (j := 5) 2 [0, 1, 5, 24, 25, 26] [(0, pt p 0), (1, .int .u64 (most : Int)), (5, .int .u64 (((getB (rV (!(rOK wr rest 1)) (rR wr rest 1) 2)) : Nat) : Int)), (24, .bool false), (25, .int .i64 3), (26, .int .u64 (((getB (rV (!(rOK wr rest 1)) (rR wr rest 1) 2)) : Nat) : Int))] (by kernel_rfl) rfl ?_
      refine GL.call (j := 6) (CountSize_calls (getB (rV (!(rOK wr rest 1)) (rR wr rest 1) 2)) w158) (by kernel_rfl) rfl (fun e_ w169 hR => ?_)
      obtain ⟨rfl, H171⟩ := hR
      have H170 : Hp w S [.blk p [.slice A147 ((rR (!(rOK wr rest 1)) (rR wr rest 1) 2).length) c148, .bool (!(rOK (!(rOK wr rest 1)) (rR wr rest 1) 2))] 74, .row R N C 5 1 (by8 whole)] w169 := H159.callNil H171
      refine ⟨_, rfl, [0, 1, 5, 24, 25, 27], [(0, pt p 0), (1, .int .u64 (most : Int)), (5, .int .u64 (((getB (rV (!(rOK wr rest 1)) (rR wr rest 1) 2)) : Nat) : Int)), (24, .bool false), (25, .int .i64 3), (27, .int .i64 (((cntSz (getB (rV (!(rOK wr rest 1)) (rR wr rest 1) 2))) : Nat) : Int))], by kernel_rfl, ?_⟩
      refine GL.run (j := 9) 3 [0, 1, 5, 30] [(0, pt p 0), (1, .int .u64 (most : Int)), (5, .int .u64 (((getB (rV (!(rOK wr rest 1)) (rR wr rest 1) 2)) : Nat) : Int)), (30, .bool ((3 : Int) != (((cntSz (getB (rV (!(rOK wr rest 1)) (rR wr rest 1) 2))) : Nat) : Int)))] (by kernel_rfl) rfl ?_
      cases hb172 : ((3 : Int) != (((cntSz (getB (rV (!(rOK wr rest 1)) (rR wr rest 1) 2))) : Nat) : Int))
      · skip
        have hb172f : (3 : Int) = (((cntSz (getB (rV (!(rOK wr rest 1)) (rR wr rest 1) 2))) : Nat) : Int) := bne_eq_false_iff_eq.1 hb172
        refine GL.run (j := 13) 4 [0, 5, 34] [(0, pt p 0), (5, .int .u64 (((getB (rV (!(rOK wr rest 1)) (rR wr rest 1) 2)) : Nat) : Int)), (34, .bool (decide ((most : Int) < (((getB (rV (!(rOK wr rest 1)) (rR wr rest 1) 2)) : Nat) : Int))))] (by kernel_rfl) rfl ?_
        refine GL.k rfl hK157 (fun _ _ h => h) ?_
        cases hb173 : (decide ((most : Int) < (((getB (rV (!(rOK wr rest 1)) (rR wr rest 1) 2)) : Nat) : Int)))
        · skip
          have hb173f := of_decide_eq_false hb173
          refine G.no rfl ?_
          refine G.skipK hK155 (fun _ _ h => h) ?_
          refine G.seqK fun K174 hK175 => ?_
          refine G.region ?_
          refine GL.run (j := 2) 2 [4] [(4, .int .u64 (((getB (rV (!(rOK wr rest 1)) (rR wr rest 1) 2)) : Nat) : Int))] (by kernel_rfl) rfl ?_
          refine GL.k rfl hK175 (fun _ _ h => h) ?_
          refine G.ret ?_
          intro F_ hF_ hM_
          refine hRet _ _ (bodyPost_1 rfl (RV.tmp rfl) ?_ F_ hF_ hM_)
          have hn : ctN wr rest = 2 := by unfold ctN; (repeat' split) <;> omega
          obtain ⟨eX, eW, eT⟩ := ct_long hn (by decide)
          obtain ⟨o1, o2, o3⟩ := ct_ok (most := most) (by rw [eW, ‹(rOK (!(rOK wr rest 1)) (rR wr rest 1) 2) = true›]; rfl) (by rw [eX, hn]; omega) (by rw [eX]; omega)
          rw [o1, o2, o3, eX, eT]
          have HF := H170
          rw [‹(rOK (!(rOK wr rest 1)) (rR wr rest 1) 2) = true›] at HF
          exact ⟨_, _, rfl, HF, hC149, hL150⟩
        · skip
          have hb173f := of_decide_eq_true hb173
          refine G.yes rfl ?_
          refine G.seqK fun K176 hK177 => ?_
          refine G.region ?_
          refine GL.run (j := 1) 1 [35] [(35, pt p 0)] (by kernel_rfl) rfl ?_
          refine GL.call (j := 2) (Fail_calls (ids [.blk p [.slice A147 ((rR (!(rOK wr rest 1)) (rR wr rest 1) 2).length) c148, .bool (!(rOK (!(rOK wr rest 1)) (rR wr rest 1) 2))] 74, .row R N C 5 1 (by8 whole)]) p A147 ((rR (!(rOK wr rest 1)) (rR wr rest 1) 2).length) c148 (!(rOK (!(rOK wr rest 1)) (rR wr rest 1) 2)) R N C whole w169 (Hp.startL (A := [.blk p [.slice A147 ((rR (!(rOK wr rest 1)) (rR wr rest 1) 2).length) c148, .bool (!(rOK (!(rOK wr rest 1)) (rR wr rest 1) 2))] 74, .row R N C 5 1 (by8 whole)]) (B := []) H170)) (by kernel_rfl) rfl (fun e_ w178 hR => ?_)
          obtain ⟨rfl, H180⟩ := hR
          have H179 : Hp w S [.blk p [.slice none 0 0, .bool true] 74, .row R N C 5 1 (by8 whole)] w178 := Hp.callL (A := [.blk p [.slice A147 ((rR (!(rOK wr rest 1)) (rR wr rest 1) 2).length) c148, .bool (!(rOK (!(rOK wr rest 1)) (rR wr rest 1) 2))] 74, .row R N C 5 1 (by8 whole)]) (B := []) H170 H180
          refine ⟨_, rfl, [], [], by kernel_rfl, ?_⟩
          refine GL.k rfl hK177 (fun _ _ h => h) ?_
          refine G.seqK fun K181 hK182 => ?_
          refine G.region ?_
          refine GL.run (j := 1) 1 [4] [(4, .int .u64 0)] (by kernel_rfl) rfl ?_
          refine GL.k rfl hK182 (fun _ _ h => h) ?_
          refine G.ret ?_
          intro F_ hF_ hM_
          refine hRet _ _ (bodyPost_1 rfl (RV.tmp rfl) ?_ F_ hF_ hM_)
          have hn : ctN wr rest = 2 := by unfold ctN; (repeat' split) <;> omega
          obtain ⟨eX, eW, eT⟩ := ct_long hn (by decide)
          obtain ⟨o1, o2, o3⟩ := ct_bad (wr := wr) (rest := rest) (most := most) (.inr (.inr (by rw [eX]; omega)))
          rw [o1, o2, o3]
          exact ⟨none, 0, rfl, H179, Cut.nil _ _ _, Nat.le_refl _⟩
      · skip
        have hb172f : (3 : Int) ≠ (((cntSz (getB (rV (!(rOK wr rest 1)) (rR wr rest 1) 2))) : Nat) : Int) := bne_iff_ne.1 hb172
        refine GL.run (j := 13) 4 [0, 5, 34] [(0, pt p 0), (5, .int .u64 (((getB (rV (!(rOK wr rest 1)) (rR wr rest 1) 2)) : Nat) : Int)), (34, .bool true)] (by kernel_rfl) rfl ?_
        refine GL.k rfl hK157 (fun _ _ h => h) ?_
        refine G.yes rfl ?_
        refine G.seqK fun K183 hK184 => ?_
        refine G.region ?_
        refine GL.run (j := 1) 1 [35] [(35, pt p 0)] (by kernel_rfl) rfl ?_
        refine GL.call (j := 2) (Fail_calls (ids [.blk p [.slice A147 ((rR (!(rOK wr rest 1)) (rR wr rest 1) 2).length) c148, .bool (!(rOK (!(rOK wr rest 1)) (rR wr rest 1) 2))] 74, .row R N C 5 1 (by8 whole)]) p A147 ((rR (!(rOK wr rest 1)) (rR wr rest 1) 2).length) c148 (!(rOK (!(rOK wr rest 1)) (rR wr rest 1) 2)) R N C whole w169 (Hp.startL (A := [.blk p [.slice A147 ((rR (!(rOK wr rest 1)) (rR wr rest 1) 2).length) c148, .bool (!(rOK (!(rOK wr rest 1)) (rR wr rest 1) 2))] 74, .row R N C 5 1 (by8 whole)]) (B := []) H170)) (by kernel_rfl) rfl (fun e_ w185 hR => ?_)
        obtain ⟨rfl, H187⟩ := hR
        have H186 : Hp w S [.blk p [.slice none 0 0, .bool true] 74, .row R N C 5 1 (by8 whole)] w185 := Hp.callL (A := [.blk p [.slice A147 ((rR (!(rOK wr rest 1)) (rR wr rest 1) 2).length) c148, .bool (!(rOK (!(rOK wr rest 1)) (rR wr rest 1) 2))] 74, .row R N C 5 1 (by8 whole)]) (B := []) H170 H187
        refine ⟨_, rfl, [], [], by kernel_rfl, ?_⟩
        refine GL.k rfl hK184 (fun _ _ h => h) ?_
        refine G.seqK fun K188 hK189 => ?_
        refine G.region ?_
        refine GL.run (j := 1) 1 [4] [(4, .int .u64 0)] (by kernel_rfl) rfl ?_
        refine GL.k rfl hK189 (fun _ _ h => h) ?_
        refine G.ret ?_
        intro F_ hF_ hM_
        refine hRet _ _ (bodyPost_1 rfl (RV.tmp rfl) ?_ F_ hF_ hM_)
        have hn : ctN wr rest = 2 := by unfold ctN; (repeat' split) <;> omega
        obtain ⟨eX, eW, eT⟩ := ct_long hn (by decide)
        obtain ⟨o1, o2, o3⟩ := ct_bad (wr := wr) (rest := rest) (most := most) (.inr (.inl (by rw [eX, hn]; omega)))
        rw [o1, o2, o3]
        exact ⟨none, 0, rfl, H186, Cut.nil _ _ _, Nat.le_refl _⟩
theorem RCounted_calls (S : List Nat) (p : Nat) (A : Option Addr) (k cap : Nat) (wr : Bool) (R : Option Addr) (N C : Nat) (whole rest : List UInt8) (most : Nat) (w : World) (h0 : Hp w S [.blk p [.slice A k cap, .bool wr] 74, .row R N C 5 1 (by8 whole)] w) (hcut : Cut R whole A rest) (hk : k = rest.length) (hcap : k ≤ cap) (hN : k ≤ 1000000) (hmost : most ≤ 9223372036854775807) : Calls Try.prog 29 #[pt p 0, .int .i64 (most : Int)] w fun e w' => ∃ B b D d, e = .returned (.slice D (cdV wr rest most).length d) ∧ Hp w S [.blk p [.slice B (cdR wr rest most).length b, .bool (!(cdOK wr rest most))] 74, .row R N C 5 1 (by8 whole), .row D (cdV wr rest most).length d 5 1 (by8 (cdV wr rest most))] w' ∧ Cut R whole B (cdR wr rest most) ∧ (cdR wr rest most).length ≤ b := by
  refine calls_G (args := [pt p 0, .int .i64 (most : Int)]) Try.func29 rfl Try.ntmps29 rfl ?_
  intro Q0 hRet hNor hPan
  have H := h0
  have H : Hp w S [.blk p [.slice A k cap, .bool wr] 74, .row R N C 5 1 (by8 whole)] w := H
  refine G.seqK fun K1 hK2 => ?_
  refine G.region ?_
  refine GL.run (j := 1) 1 [0, 1] [(0, pt p 0), (1, .int .i64 (most : Int))] (by kernel_rfl) rfl ?_
  refine GL.k rfl hK2 (fun _ _ h => h) ?_
  refine G.seqK fun K3 hK4 => ?_
  refine G.seqK fun K5 hK6 => ?_
  refine G.region ?_
  refine GL.run (j := 2) 2 [0, 1, 7] [(0, pt p 0), (1, .int .i64 (most : Int)), (7, .bool (decide ((most : Int) < 0)))] (by kernel_rfl) rfl ?_
  refine GL.k rfl hK6 (fun _ _ h => h) ?_
  have hb7 : (decide ((most : Int) < 0)) = false := decide_eq_false (by omega)
  rw [hb7]
  refine G.no rfl ?_
  refine G.skipK hK4 (fun _ _ h => h) ?_
  refine G.seqK fun K8 hK9 => ?_
  refine G.region ?_
  refine GL.run (j := 4) 4 [0, 10, 13] [(0, pt p 0), (10, pt p 0), (13, .int .u64 (IntKind.u64.wrap (if (0 : Int) > (most : Int) then (0 : Int) else (most : Int))))] (by kernel_rfl) rfl ?_
  have e10 : (if (0 : Int) > (most : Int) then (0 : Int) else (most : Int)) = (most : Int) := by rw [if_neg (by omega)]
  have e11 : (IntKind.u64.wrap (most : Int)) = (most : Int) := in_u64 (by omega)
  refine GL.eq (M' := [(0, pt p 0), (10, pt p 0), (13, .int .u64 (most : Int))]) (by rw [e10, e11]) ?_
  clear e10 e11
  refine GL.call (j := 5) (RCount_calls (ids [.blk p [.slice A k cap, .bool wr] 74, .row R N C 5 1 (by8 whole)]) p A k cap wr R N C whole rest most w (Hp.startL (A := [.blk p [.slice A k cap, .bool wr] 74, .row R N C 5 1 (by8 whole)]) (B := []) H) hcut (hk) (hcap) (hN)) (by kernel_rfl) rfl (fun e_ w16 hR => ?_)
  obtain ⟨A12, c13, rfl, H18, hC14, hL15⟩ := hR
  have H17 : Hp w S [.blk p [.slice A12 ((ctR wr rest most).length) c13, .bool (!(ctOK wr rest most))] 74, .row R N C 5 1 (by8 whole)] w16 := Hp.callL (A := [.blk p [.slice A k cap, .bool wr] 74, .row R N C 5 1 (by8 whole)]) (B := []) H H18
  refine ⟨_, rfl, [0, 14], [(0, pt p 0), (14, .int .u64 (((ctV wr rest most) : Nat) : Int))], by kernel_rfl, ?_⟩
  refine GL.run (j := 6) 1 [0, 5] [(0, pt p 0), (5, .int .u64 (((ctV wr rest most) : Nat) : Int))] (by kernel_rfl) rfl ?_
  refine GL.k rfl hK9 (fun _ _ h => h) ?_
  refine G.seqK fun K19 hK20 => ?_
  refine G.region ?_
  refine GL.run (j := 3) 3 [15, 17] [(15, pt p 0), (17, .int .i64 (IntKind.i64.wrap (((ctV wr rest most) : Nat) : Int)))] (by kernel_rfl) rfl ?_
  have e21 : (IntKind.i64.wrap (((ctV wr rest most) : Nat) : Int)) = (((ctV wr rest most) : Nat) : Int) := in_i64 (by have := ctV_le wr rest most; omega)
  refine GL.eq (M' := [(15, pt p 0), (17, .int .i64 (((ctV wr rest most) : Nat) : Int))]) (by rw [e21]) ?_
  clear e21
  refine GL.call (j := 4) (Raw_calls (ids [.blk p [.slice A12 ((ctR wr rest most).length) c13, .bool (!(ctOK wr rest most))] 74, .row R N C 5 1 (by8 whole)]) p A12 ((ctR wr rest most).length) c13 (!(ctOK wr rest most)) R N C whole (ctR wr rest most) (ctV wr rest most) w16 (Hp.startL (A := [.blk p [.slice A12 ((ctR wr rest most).length) c13, .bool (!(ctOK wr rest most))] 74, .row R N C 5 1 (by8 whole)]) (B := []) H17) hC14 (rfl) (hL15) ((Nat.le_trans (ctR_le _ _ _) (hk ▸ hN)))) (by kernel_rfl) rfl (fun e_ w28 hR => ?_)
  obtain ⟨A22, c23, A24, c25, rfl, H30, hC26, hL27⟩ := hR
  have H29 : Hp w S [.blk p [.slice A22 ((rR (!(ctOK wr rest most)) (ctR wr rest most) (ctV wr rest most)).length) c23, .bool (!(rOK (!(ctOK wr rest most)) (ctR wr rest most) (ctV wr rest most)))] 74, .row R N C 5 1 (by8 whole), .row A24 ((rV (!(ctOK wr rest most)) (ctR wr rest most) (ctV wr rest most)).length) c25 5 1 (by8 (rV (!(ctOK wr rest most)) (ctR wr rest most) (ctV wr rest most)))] w28 := Hp.callL (A := [.blk p [.slice A12 ((ctR wr rest most).length) c13, .bool (!(ctOK wr rest most))] 74, .row R N C 5 1 (by8 whole)]) (B := []) H17 H30
  refine ⟨_, rfl, [18], [(18, .slice A24 ((rV (!(ctOK wr rest most)) (ctR wr rest most) (ctV wr rest most)).length) c25)], by kernel_rfl, ?_⟩
  refine GL.run (j := 5) 1 [4] [(4, .slice A24 ((rV (!(ctOK wr rest most)) (ctR wr rest most) (ctV wr rest most)).length) c25)] (by kernel_rfl) rfl ?_
  refine GL.k rfl hK20 (fun _ _ h => h) ?_
  refine G.ret ?_
  intro F_ hF_ hM_
  refine hRet _ _ (bodyPost_1 rfl (RV.tmp rfl) ?_ F_ hF_ hM_)
  exact ⟨_, _, _, _, rfl, H29, hC26, hL27⟩
end Go.Proofs.Ytkfhcogdpmndkaa
namespace Go.Proofs.Ytkfhcogdpmndkaa
open Go.RowKit
theorem adr_copied {c0 c1 c2 c3 c4 y z : Value} {v : List UInt8} (h : v.length = 20 ∨ v.length = 0) : ([c0, c1, c2, c3, c4, .int .u8 0, .int .u8 0, .int .u8 0, .int .u8 0, .int .u8 0, .int .u8 0, .int .u8 0, .int .u8 0, .int .u8 0, .int .u8 0, .int .u8 0, .int .u8 0, .int .u8 0, .int .u8 0, .int .u8 0, .int .u8 0, .int .u8 0, .int .u8 0, .int .u8 0, .int .u8 0, y, z] : List Value).take 5 ++ by8 v ++ ([c0, c1, c2, c3, c4, .int .u8 0, .int .u8 0, .int .u8 0, .int .u8 0, .int .u8 0, .int .u8 0, .int .u8 0, .int .u8 0, .int .u8 0, .int .u8 0, .int .u8 0, .int .u8 0, .int .u8 0, .int .u8 0, .int .u8 0, .int .u8 0, .int .u8 0, .int .u8 0, .int .u8 0, .int .u8 0, y, z] : List Value).drop (5 + v.length) = [c0, c1, c2, c3, c4, .int .u8 ((v.getD 0 0).toNat : Int), .int .u8 ((v.getD 1 0).toNat : Int), .int .u8 ((v.getD 2 0).toNat : Int), .int .u8 ((v.getD 3 0).toNat : Int), .int .u8 ((v.getD 4 0).toNat : Int), .int .u8 ((v.getD 5 0).toNat : Int), .int .u8 ((v.getD 6 0).toNat : Int), .int .u8 ((v.getD 7 0).toNat : Int), .int .u8 ((v.getD 8 0).toNat : Int), .int .u8 ((v.getD 9 0).toNat : Int), .int .u8 ((v.getD 10 0).toNat : Int), .int .u8 ((v.getD 11 0).toNat : Int), .int .u8 ((v.getD 12 0).toNat : Int), .int .u8 ((v.getD 13 0).toNat : Int), .int .u8 ((v.getD 14 0).toNat : Int), .int .u8 ((v.getD 15 0).toNat : Int), .int .u8 ((v.getD 16 0).toNat : Int), .int .u8 ((v.getD 17 0).toNat : Int), .int .u8 ((v.getD 18 0).toNat : Int), .int .u8 ((v.getD 19 0).toNat : Int), y, z] := by
  rcases h with h | h
  · obtain ⟨f, rfl⟩ : ∃ f : Nat → UInt8, v = (List.range 20).map f := ⟨fun i => v.getD i 0, List.ext_getElem? fun i => by
      by_cases hi : i < 20
      · rw [List.getElem?_map, List.getElem?_range hi, getD8 (by omega)]
        rfl
      · rw [List.getElem?_eq_none (by omega), List.getElem?_eq_none (by simp; omega)]⟩
    rw [List.length_map, List.length_range]
    rfl
  · obtain rfl := List.eq_nil_of_length_eq_zero h
    rfl
abbrev bitP (o : UInt8) (k : Nat) : Prop := fm o.toNat / 2 ^ k % 2 = 1
def CP (xs : List UInt8) (o : UInt8) (v0 v1 v2 v3 v4 v5 v6 : List UInt8) (zE : Bool) (qE : List UInt8) : Prop :=
  ∃ (y : Bool) (p u : List UInt8) (z0 : Bool) (q0 : List UInt8) (z1 : Bool) (q1 : List UInt8) (z2 : Bool) (q2 : List UInt8) (z3 : Bool) (q3 : List UInt8) (z4 : Bool) (q4 : List UInt8) (z5 : Bool) (q5 : List UInt8),
    y = (!(rOK false xs 1)) ∧ p = rR false xs 1 ∧ u = rV false xs 1 ∧ getB u = o.toNat ∧ Stp (bitP o 0) 1 y p z0 q0 v0 ∧ Stp (bitP o 1) 1 z0 q0 z1 q1 v1 ∧ Stp (bitP o 2) 8 z1 q1 z2 q2 v2 ∧ Stp (bitP o 3) 8 z2 q2 z3 q3 v3 ∧ Stp (bitP o 4) 20 z3 q3 z4 q4 v4 ∧ Stp (bitP o 5) 1 z4 q4 z5 q5 v5 ∧ StpC (bitP o 6) 8192 z5 q5 zE qE v6
theorem fld_of {o : UInt8} {k n : Nat} {v : List UInt8} (h1 : bitP o k → v.length = n) (h0 : ¬ bitP o k → v = []) {x : List UInt8} (hx : bitP o k → x = v) : fld o.toNat k x = v := by
  unfold fld
  by_cases h : bitP o k
  · rw [if_pos h, hx h]
  · rw [if_neg h, h0 h]
theorem put_of {v : List UInt8} {n : Nat} (h : v.length = n) : putB (getB v) n = v := by
  subst h
  exact putB_get v
theorem cp_ok {xs : List UInt8} {o wh t : UInt8} {v0 v1 v2 v3 v4 v5 v6 : List UInt8} {zE : Bool} {qE : List UInt8} (h : CP xs o v0 v1 v2 v3 v4 v5 v6 zE qE) (hf : fm o.toNat ≠ 0) (h1 : getB v5 ≤ 1) (hz : zE = false) (hq : qE.length = 0) (hw : wh.toNat = getB v0) (ht : t.toNat = getB v1) :
    xs = cmdB o wh t (getB v2) (getB v3) (fun i => v4.getD i 0) (((getB v5 : Nat) : Int) == 1) v6 ∧ cmdE o wh t (getB v2) (getB v3) (fun i => v4.getD i 0) (((getB v5 : Nat) : Int) == 1) v6 = 0 ∧ v6.length ≤ 8192 := by
  obtain ⟨y, p, u, z0, q0, z1, q1, z2, q2, z3, q3, z4, q4, z5, q5, e1, e2, e3, e4, s0, s1, s2, s3, s4, s5, s6⟩ := h
  obtain ⟨f6, on6, off6⟩ := s6.back hz
  obtain ⟨f5, x5, on5, off5⟩ := s5.back f6
  obtain ⟨f4, x4, on4, off4⟩ := s4.back f5
  obtain ⟨f3, x3, on3, off3⟩ := s3.back f4
  obtain ⟨f2, x2, on2, off2⟩ := s2.back f3
  obtain ⟨f1, x1, on1, off1⟩ := s1.back f2
  obtain ⟨f0, x0, on0, off0⟩ := s0.back f1
  obtain ⟨_, hn, hd, hu⟩ := rd_back e1 e2 e3 f0
  have hqE := List.eq_nil_of_length_eq_zero hq
  have hul : u.length = 1 := by rw [hu, List.length_take]; omega
  have hx : xs = u ++ p := by rw [hu, hd, List.take_append_drop]
  have b0 : fld o.toNat 0 (putB wh.toNat 1) = v0 := fld_of on0 off0 fun hb => by rw [hw]; exact put_of (on0 hb)
  have b1 : fld o.toNat 1 (putB t.toNat 1) = v1 := fld_of on1 off1 fun hb => by rw [ht]; exact put_of (on1 hb)
  have b2 : fld o.toNat 2 (putB (getB v2) 8) = v2 := fld_of on2 off2 fun hb => put_of (on2 hb)
  have b3 : fld o.toNat 3 (putB (getB v3) 8) = v3 := fld_of on3 off3 fun hb => put_of (on3 hb)
  have b4 : fld o.toNat 4 ((List.range 20).map fun i => v4.getD i 0) = v4 := fld_of on4 off4 fun hb => by
    have hl := on4 hb
    refine List.ext_getElem? fun i => ?_
    by_cases hi : i < 20
    · rw [List.getElem?_map, List.getElem?_range hi, getD8 (by omega)]
      rfl
    · rw [List.getElem?_eq_none (by simp; omega), List.getElem?_eq_none (by omega)]
  have b5 : fld o.toNat 5 (putB (if (((getB v5 : Nat) : Int) == 1) = true then 1 else 0) 1) = v5 := fld_of on5 off5 fun hb => by
    have hl := on5 hb
    have e : (if (((getB v5 : Nat) : Int) == 1) = true then 1 else 0) = getB v5 := by
      by_cases hg : getB v5 = 1
      · rw [hg]; rfl
      · rw [show getB v5 = 0 by omega]; rfl
    rw [e]
    exact put_of hl
  have b6 : fld o.toNat 6 (cnt v6.length ++ v6) = q5 := by
    unfold fld
    by_cases hb : bitP o 6
    · rw [if_pos hb, (on6 hb).1, hqE, List.append_nil]
    · rw [if_neg hb, (off6 hb).2, hqE]
  have l6 : v6.length ≤ 8192 := by
    by_cases hb : bitP o 6
    · exact (on6 hb).2
    · rw [(off6 hb).1]; decide
  refine ⟨?_, ?_, l6⟩
  · unfold cmdB
    rw [b0, b1, b2, b3, b4, b5, b6, ← e4, put_of hul, ← x5, ← x4, ← x3, ← x2, ← x1, ← x0]
    exact hx
  · unfold cmdE
    rw [if_neg, if_neg (by omega)]
    rintro (hc | hc)
    · exact hf hc
    · apply hc
      obtain ⟨h0, h1', h2, h3, h4, h5, h6, _⟩ := has_bits o.toNat
      rw [lacks_iff, h0, h1', h2, h3, h4, h5, h6]
      have key : ∀ {k n : Nat} {v : List UInt8} {P : Prop}, (¬ bitP o k → v = []) → (v = [] → P) → (P ∨ fm o.toNat / 2 ^ k % 2 = 1) := by
        intro k n v P a b
        by_cases hb : bitP o k
        · exact .inr hb
        · exact .inl (b (a hb))
      refine ⟨⟨⟨⟨⟨⟨?_, ?_⟩, ?_⟩, ?_⟩, ?_⟩, ?_⟩, ?_⟩
      · exact key (n := 0) off0 fun e => by rw [hw, e]; rfl
      · exact key (n := 0) off1 fun e => by rw [ht, e]; rfl
      · exact key (n := 0) off2 fun e => by rw [e]; rfl
      · exact key (n := 0) off3 fun e => by rw [e]; rfl
      · exact key (n := 0) off4 fun e => by rw [e]; rfl
      · exact key (n := 0) off5 fun e => by rw [e]; rfl
      · exact key (n := 0) (fun hb => (off6 hb).1) fun e => e
theorem cp_no {xs : List UInt8} {o : UInt8} {v0 v1 v2 v3 v4 v5 v6 : List UInt8} {zE : Bool} {qE : List UInt8} (h : CP xs o v0 v1 v2 v3 v4 v5 v6 zE qE) {o' w' t' : UInt8} {am' id' : Nat} {ad' : Nat → UInt8} {ag' : Bool} {bd' : List UInt8} (he : cmdE o' w' t' am' id' ad' ag' bd' = 0) (hx : xs = cmdB o' w' t' am' id' ad' ag' bd') :
    fm o.toNat ≠ 0 ∧ getB v5 ≤ 1 ∧ zE = false ∧ qE.length = 0 := by
  obtain ⟨y, p, u, z0, q0, z1, q1, z2, q2, z3, q3, z4, q4, z5, q5, e1, e2, e3, e4, s0, s1, s2, s3, s4, s5, s6⟩ := h
  unfold cmdE at he
  have hc : ¬ (fm o'.toNat = 0 ∨ lacks (cmdM w' t' am' id' ad' ag' bd') (fm o'.toNat) ≠ 0) := fun hc => by rw [if_pos hc] at he; cases he
  rw [if_neg hc] at he
  have hl : ¬ 8192 < bd'.length := fun hc => by rw [if_pos hc] at he; cases he
  unfold cmdB at hx
  obtain ⟨f0, d0, t0⟩ := rd_on e1 e2 e3 rfl (by rw [hx, List.length_append, putB_length]; omega)
  rw [hx, List.drop_left' (putB_length 1 _)] at d0
  rw [hx, List.take_left' (putB_length 1 _)] at t0
  have ho : o = o' := UInt8.toNat_inj.1 (by rw [← e4, t0, getB_put]; exact Nat.mod_eq_of_lt o'.toNat_lt)
  subst ho
  have on : ∀ {k n : Nat} {x : List UInt8}, x.length = n → (bitP o k → (fld o.toNat k x).length = n) := fun hxl hb => by unfold fld; rw [if_pos hb]; exact hxl
  have off : ∀ {k : Nat} {x : List UInt8}, (¬ bitP o k → fld o.toNat k x = []) := fun hb => by unfold fld; rw [if_neg hb]
  obtain ⟨g0, r0, w0⟩ := s0.on_ f0 d0 (on (putB_length 1 _)) off
  obtain ⟨g1, r1, w1⟩ := s1.on_ g0 r0 (on (putB_length 1 _)) off
  obtain ⟨g2, r2, w2⟩ := s2.on_ g1 r1 (on (putB_length 8 _)) off
  obtain ⟨g3, r3, w3⟩ := s3.on_ g2 r2 (on (putB_length 8 _)) off
  obtain ⟨g4, r4, w4⟩ := s4.on_ g3 r3 (on (by simp)) off
  obtain ⟨g5, r5, w5⟩ := s5.on_ g4 r4 (on (putB_length 1 _)) off
  have h6 : zE = false ∧ qE = [] ∧ v6 = if bitP o 6 then bd' else [] := by
    refine s6.on_ g5 (fun hb => ?_) (by decide) (fun hb => ?_)
    · rw [r5, fld, if_pos hb, if_pos hb, List.append_nil]
      exact ⟨rfl, by omega⟩
    · rw [r5, fld, if_neg hb, if_neg hb]
      exact ⟨rfl, rfl⟩
  refine ⟨fun h => hc (.inl h), ?_, h6.1, by rw [h6.2.1]; rfl⟩
  rw [w5]
  unfold fld
  split
  · rw [getB_put]
    cases ag' <;> decide
  · decide
theorem cdV_le2 (wr : Bool) (rest : List UInt8) (most : Nat) : (cdV wr rest most).length ≤ most := Nat.le_trans (rV_le _ _ _) (ctV_le _ _ _)
set_option maxHeartbeats 4000000 in
theorem CParse_calls (xs : List UInt8) (A : Option Addr) (n c : Nat) (w : World) (hx : RdS w A (by8 xs)) (hn : n = xs.length) (hb : xs.length ≤ 1000000) : Calls Try.prog 14 #[.slice A n c] w fun e w' => ∃ (o wh t : UInt8) (am id : Nat) (ad : Nat → UInt8) (ag : Bool) (D : Option Addr) (bd : List UInt8) (d err : Nat), e = .returned (.tuple #[.agg #[.int .u8 (o.toNat : Int), .int .u8 (wh.toNat : Int), .int .u8 (t.toNat : Int), .int .u64 (am : Int), .int .u64 (id : Int), .int .u8 ((ad 0).toNat : Int), .int .u8 ((ad 1).toNat : Int), .int .u8 ((ad 2).toNat : Int), .int .u8 ((ad 3).toNat : Int), .int .u8 ((ad 4).toNat : Int), .int .u8 ((ad 5).toNat : Int), .int .u8 ((ad 6).toNat : Int), .int .u8 ((ad 7).toNat : Int), .int .u8 ((ad 8).toNat : Int), .int .u8 ((ad 9).toNat : Int), .int .u8 ((ad 10).toNat : Int), .int .u8 ((ad 11).toNat : Int), .int .u8 ((ad 12).toNat : Int), .int .u8 ((ad 13).toNat : Int), .int .u8 ((ad 14).toNat : Int), .int .u8 ((ad 15).toNat : Int), .int .u8 ((ad 16).toNat : Int), .int .u8 ((ad 17).toNat : Int), .int .u8 ((ad 18).toNat : Int), .int .u8 ((ad 19).toNat : Int), .bool ag, .slice D bd.length d], .int .i64 (err : Int)]) ∧ Hp w [] [.row D bd.length d 5 1 (by8 bd)] w' ∧ bd.length ≤ 8192 ∧ am < 18446744073709551616 ∧ id < 18446744073709551616 ∧ ((err = 0 ∧ xs = cmdB o wh t am id ad ag bd ∧ cmdE o wh t am id ad ag bd = 0) ∨ (err = 2 ∧ (o = 0 ∧ bd = []) ∧ ∀ (o' w' t' : UInt8) (am' id' : Nat) (ad' : Nat → UInt8) (ag' : Bool) (bd' : List UInt8), cmdE o' w' t' am' id' ad' ag' bd' = 0 → xs ≠ cmdB o' w' t' am' id' ad' ag' bd')) := by
  subst hn
  refine calls_G (args := [.slice A xs.length c]) Try.func14 rfl Try.ntmps14 rfl ?_
  intro Q0 hRet hNor hPan
  have H := Hp.start w
  have H : Hp w [] [] w := H
  refine G.seqK fun K1 hK2 => ?_
  refine G.region ?_
  obtain ⟨p3, w4, r5, H6⟩ := H.alloc (P := Try.prog) 28 [.int .u8 0, .int .u8 0, .int .u8 0, .int .u64 0, .int .u64 0, .int .u8 0, .int .u8 0, .int .u8 0, .int .u8 0, .int .u8 0, .int .u8 0, .int .u8 0, .int .u8 0, .int .u8 0, .int .u8 0, .int .u8 0, .int .u8 0, .int .u8 0, .int .u8 0, .int .u8 0, .int .u8 0, .int .u8 0, .int .u8 0, .int .u8 0, .int .u8 0, .bool false, .slice none 0 0] (by kernel_rfl)
  have H6 : Hp w [] [.blk p3 [.int .u8 0, .int .u8 0, .int .u8 0, .int .u64 0, .int .u64 0, .int .u8 0, .int .u8 0, .int .u8 0, .int .u8 0, .int .u8 0, .int .u8 0, .int .u8 0, .int .u8 0, .int .u8 0, .int .u8 0, .int .u8 0, .int .u8 0, .int .u8 0, .int .u8 0, .int .u8 0, .int .u8 0, .int .u8 0, .int .u8 0, .int .u8 0, .int .u8 0, .bool false, .slice none 0 0] 28] w4 := H6
  refine GL.sem (j := 1) (r5) [0, 2] [(0, .slice A xs.length c), (2, pt p3 0)] (by kernel_rfl) (by kernel_rfl) rfl ?_
  refine GL.run (j := 2) 1 [0, 2] [(0, .slice A xs.length c), (2, pt p3 0)] (by kernel_rfl) rfl ?_
  refine GL.k rfl hK2 (fun _ _ h => h) ?_
  refine G.seqK fun K7 hK8 => ?_
  refine G.region ?_
  refine GL.run (j := 1) 1 [2, 8] [(2, pt p3 0), (8, .slice A xs.length c)] (by kernel_rfl) rfl ?_
  refine GL.call (j := 2) (Read_calls xs A xs.length c w4 (hx.hp H6) (rfl) (by omega)) (by kernel_rfl) rfl (fun e_ w14 hR => ?_)
  obtain ⟨p9, A10, c11, rfl, H13⟩ := hR
  have H12 : Hp w [] [.blk p3 [.int .u8 0, .int .u8 0, .int .u8 0, .int .u64 0, .int .u64 0, .int .u8 0, .int .u8 0, .int .u8 0, .int .u8 0, .int .u8 0, .int .u8 0, .int .u8 0, .int .u8 0, .int .u8 0, .int .u8 0, .int .u8 0, .int .u8 0, .int .u8 0, .int .u8 0, .int .u8 0, .int .u8 0, .int .u8 0, .int .u8 0, .int .u8 0, .int .u8 0, .bool false, .slice none 0 0] 28, .row A10 xs.length c11 5 1 (by8 xs), .blk p9 [.slice A10 xs.length c11, .bool false] 74] w14 := H6.callNew H13
  have hk15 : xs.length = xs.length := rfl
  have hc16 := (H12.rowLe 1 rfl).1
  refine ⟨_, rfl, [2, 9], [(2, pt p3 0), (9, pt p9 0)], by kernel_rfl, ?_⟩
  refine GL.run (j := 3) 1 [2, 4] [(2, pt p3 0), (4, pt p9 0)] (by kernel_rfl) rfl ?_
  refine GL.k rfl hK8 (fun _ _ h => h) ?_
  refine G.seqK fun K17 hK18 => ?_
  refine G.region ?_
  refine GL.run (j := 1) 1 [2, 4, 10] [(2, pt p3 0), (4, pt p9 0), (10, pt p9 0)] (by kernel_rfl) rfl ?_
  obtain ⟨z25, hz25⟩ : ∃ z_ : Bool, z_ = (!(rOK false xs 1)) := ⟨_, rfl⟩
  obtain ⟨q26, hq26⟩ : ∃ q_ : List UInt8, q_ = rR false xs 1 := ⟨_, rfl⟩
  obtain ⟨v27, hv27⟩ : ∃ v_ : List UInt8, v_ = rV false xs 1 := ⟨_, rfl⟩
  have h6q26 : q26.length ≤ 1000000 := by rw [hq26]; refine Nat.le_trans (rR_le _ _ _) ?_; first | exact (by omega) | (rw [← hk15]; exact (by omega))
  have hlv27 : v27.length ≤ 1 := by rw [hv27]; exact rV_le _ _ _
  have hbv27 : getB v27 < 256 := Nat.lt_of_lt_of_le (getB_lt v27) (Nat.le_trans (Nat.pow_le_pow_right (by decide) hlv27) (by decide))
  have H28 := (Hp.reorder (L' := [.blk p9 [.slice A10 xs.length c11, .bool false] 74, .row A10 xs.length c11 5 1 (by8 xs), .blk p3 [.int .u8 0, .int .u8 0, .int .u8 0, .int .u64 0, .int .u64 0, .int .u8 0, .int .u8 0, .int .u8 0, .int .u8 0, .int .u8 0, .int .u8 0, .int .u8 0, .int .u8 0, .int .u8 0, .int .u8 0, .int .u8 0, .int .u8 0, .int .u8 0, .int .u8 0, .int .u8 0, .int .u8 0, .int .u8 0, .int .u8 0, .int .u8 0, .int .u8 0, .bool false, .slice none 0 0] 28]) H12 (List.Perm.trans (List.Perm.cons _ (List.Perm.swap _ _ _)) (List.Perm.trans (List.Perm.swap _ _ _) (List.Perm.cons _ (List.Perm.trans (List.Perm.swap _ _ _) (List.Perm.refl _))))))
  refine GL.call (j := 2) (Get1_calls (ids [.blk p9 [.slice A10 xs.length c11, .bool false] 74, .row A10 xs.length c11 5 1 (by8 xs)]) p9 A10 xs.length c11 false A10 xs.length c11 xs xs w14 (Hp.startL (A := [.blk p9 [.slice A10 xs.length c11, .bool false] 74, .row A10 xs.length c11 5 1 (by8 xs)]) (B := [.blk p3 [.int .u8 0, .int .u8 0, .int .u8 0, .int .u64 0, .int .u64 0, .int .u8 0, .int .u8 0, .int .u8 0, .int .u8 0, .int .u8 0, .int .u8 0, .int .u8 0, .int .u8 0, .int .u8 0, .int .u8 0, .int .u8 0, .int .u8 0, .int .u8 0, .int .u8 0, .int .u8 0, .int .u8 0, .int .u8 0, .int .u8 0, .int .u8 0, .int .u8 0, .bool false, .slice none 0 0] 28]) H28) (Cut.refl _ _) (hk15) (hc16) ((by omega))) (by kernel_rfl) rfl (fun e_ w29 hR => ?_)
  obtain ⟨A19, c20, rfl, H31, hC23, hL24⟩ := hR
  simp only [← hz25, ← hq26, ← hv27] at H31 hC23 hL24 ⊢
  have H30 : Hp w [] [.blk p9 [.slice A19 q26.length c20, .bool z25] 74, .row A10 xs.length c11 5 1 (by8 xs), .blk p3 [.int .u8 0, .int .u8 0, .int .u8 0, .int .u64 0, .int .u64 0, .int .u8 0, .int .u8 0, .int .u8 0, .int .u8 0, .int .u8 0, .int .u8 0, .int .u8 0, .int .u8 0, .int .u8 0, .int .u8 0, .int .u8 0, .int .u8 0, .int .u8 0, .int .u8 0, .int .u8 0, .int .u8 0, .int .u8 0, .int .u8 0, .int .u8 0, .int .u8 0, .bool false, .slice none 0 0] 28] w29 := Hp.callL (A := [.blk p9 [.slice A10 xs.length c11, .bool false] 74, .row A10 xs.length c11 5 1 (by8 xs)]) (B := [.blk p3 [.int .u8 0, .int .u8 0, .int .u8 0, .int .u64 0, .int .u64 0, .int .u8 0, .int .u8 0, .int .u8 0, .int .u8 0, .int .u8 0, .int .u8 0, .int .u8 0, .int .u8 0, .int .u8 0, .int .u8 0, .int .u8 0, .int .u8 0, .int .u8 0, .int .u8 0, .int .u8 0, .int .u8 0, .int .u8 0, .int .u8 0, .int .u8 0, .int .u8 0, .bool false, .slice none 0 0] 28]) H28 H31
  refine ⟨_, rfl, [2, 4, 11], [(2, pt p3 0), (4, pt p9 0), (11, .int .u64 (((getB v27) : Nat) : Int))], by kernel_rfl, ?_⟩
  obtain ⟨o, ho⟩ : ∃ o : UInt8, (getB v27) = o.toNat := ⟨UInt8.ofNat (getB v27), by rw [u8_ofNat]; omega⟩
  refine GL.run (j := 4) 2 [2, 4, 13] [(2, pt p3 0), (4, pt p9 0), (13, .agg #[.int .u8 (IntKind.u8.wrap (((getB v27) : Nat) : Int)), .int .u8 0, .int .u8 0, .int .u64 0, .int .u64 0, .int .u8 0, .int .u8 0, .int .u8 0, .int .u8 0, .int .u8 0, .int .u8 0, .int .u8 0, .int .u8 0, .int .u8 0, .int .u8 0, .int .u8 0, .int .u8 0, .int .u8 0, .int .u8 0, .int .u8 0, .int .u8 0, .int .u8 0, .int .u8 0, .int .u8 0, .int .u8 0, .bool false, .slice none 0 0])] (by kernel_rfl) rfl ?_
  have e32 : (IntKind.u8.wrap (((getB v27) : Nat) : Int)) = (o.toNat : Int) := by rw [in_u8 (by omega), ho]
  refine GL.eq (M' := [(2, pt p3 0), (4, pt p9 0), (13, .agg #[.int .u8 (o.toNat : Int), .int .u8 0, .int .u8 0, .int .u64 0, .int .u64 0, .int .u8 0, .int .u8 0, .int .u8 0, .int .u8 0, .int .u8 0, .int .u8 0, .int .u8 0, .int .u8 0, .int .u8 0, .int .u8 0, .int .u8 0, .int .u8 0, .int .u8 0, .int .u8 0, .int .u8 0, .int .u8 0, .int .u8 0, .int .u8 0, .int .u8 0, .int .u8 0, .bool false, .slice none 0 0])]) (by rw [e32]) ?_
  clear e32
  obtain ⟨p33, w34, r35, H36⟩ := H30.alloc (P := Try.prog) 28 [.int .u8 0, .int .u8 0, .int .u8 0, .int .u64 0, .int .u64 0, .int .u8 0, .int .u8 0, .int .u8 0, .int .u8 0, .int .u8 0, .int .u8 0, .int .u8 0, .int .u8 0, .int .u8 0, .int .u8 0, .int .u8 0, .int .u8 0, .int .u8 0, .int .u8 0, .int .u8 0, .int .u8 0, .int .u8 0, .int .u8 0, .int .u8 0, .int .u8 0, .bool false, .slice none 0 0] (by kernel_rfl)
  have H36 : Hp w [] [.blk p9 [.slice A19 q26.length c20, .bool z25] 74, .row A10 xs.length c11 5 1 (by8 xs), .blk p3 [.int .u8 0, .int .u8 0, .int .u8 0, .int .u64 0, .int .u64 0, .int .u8 0, .int .u8 0, .int .u8 0, .int .u8 0, .int .u8 0, .int .u8 0, .int .u8 0, .int .u8 0, .int .u8 0, .int .u8 0, .int .u8 0, .int .u8 0, .int .u8 0, .int .u8 0, .int .u8 0, .int .u8 0, .int .u8 0, .int .u8 0, .int .u8 0, .int .u8 0, .bool false, .slice none 0 0] 28, .blk p33 [.int .u8 0, .int .u8 0, .int .u8 0, .int .u64 0, .int .u64 0, .int .u8 0, .int .u8 0, .int .u8 0, .int .u8 0, .int .u8 0, .int .u8 0, .int .u8 0, .int .u8 0, .int .u8 0, .int .u8 0, .int .u8 0, .int .u8 0, .int .u8 0, .int .u8 0, .int .u8 0, .int .u8 0, .int .u8 0, .int .u8 0, .int .u8 0, .int .u8 0, .bool false, .slice none 0 0] 28] w34 := H36
  refine GL.sem (j := 5) (r35) [2, 4, 5, 13] [(2, pt p3 0), (4, pt p9 0), (5, pt p33 0), (13, .agg #[.int .u8 (o.toNat : Int), .int .u8 0, .int .u8 0, .int .u64 0, .int .u64 0, .int .u8 0, .int .u8 0, .int .u8 0, .int .u8 0, .int .u8 0, .int .u8 0, .int .u8 0, .int .u8 0, .int .u8 0, .int .u8 0, .int .u8 0, .int .u8 0, .int .u8 0, .int .u8 0, .int .u8 0, .int .u8 0, .int .u8 0, .int .u8 0, .int .u8 0, .int .u8 0, .bool false, .slice none 0 0])] (by kernel_rfl) (by kernel_rfl) rfl ?_
  obtain ⟨w37, r38, H39⟩ := H36.stA (P := Try.prog) (o := 0) (vs := [.int .u8 (o.toNat : Int), .int .u8 0, .int .u8 0, .int .u64 0, .int .u64 0, .int .u8 0, .int .u8 0, .int .u8 0, .int .u8 0, .int .u8 0, .int .u8 0, .int .u8 0, .int .u8 0, .int .u8 0, .int .u8 0, .int .u8 0, .int .u8 0, .int .u8 0, .int .u8 0, .int .u8 0, .int .u8 0, .int .u8 0, .int .u8 0, .int .u8 0, .int .u8 0, .bool false, .slice none 0 0]) (ty := 28) (m := 27) 3 rfl (by kernel_rfl) rfl (by simp) (by simp [Value.oneCell'])
  have H39 : Hp w [] [.blk p9 [.slice A19 q26.length c20, .bool z25] 74, .row A10 xs.length c11 5 1 (by8 xs), .blk p3 [.int .u8 0, .int .u8 0, .int .u8 0, .int .u64 0, .int .u64 0, .int .u8 0, .int .u8 0, .int .u8 0, .int .u8 0, .int .u8 0, .int .u8 0, .int .u8 0, .int .u8 0, .int .u8 0, .int .u8 0, .int .u8 0, .int .u8 0, .int .u8 0, .int .u8 0, .int .u8 0, .int .u8 0, .int .u8 0, .int .u8 0, .int .u8 0, .int .u8 0, .bool false, .slice none 0 0] 28, .blk p33 [.int .u8 (o.toNat : Int), .int .u8 0, .int .u8 0, .int .u64 0, .int .u64 0, .int .u8 0, .int .u8 0, .int .u8 0, .int .u8 0, .int .u8 0, .int .u8 0, .int .u8 0, .int .u8 0, .int .u8 0, .int .u8 0, .int .u8 0, .int .u8 0, .int .u8 0, .int .u8 0, .int .u8 0, .int .u8 0, .int .u8 0, .int .u8 0, .int .u8 0, .int .u8 0, .bool false, .slice none 0 0] 28] w37 := H39
  refine GL.semU (j := 6) r38 [2, 4, 5] [(2, pt p3 0), (4, pt p9 0), (5, pt p33 0)] (by kernel_rfl) rfl rfl rfl ?_
  refine GL.k rfl hK18 (fun _ _ h => h) ?_
  refine G.seqK fun K40 hK41 => ?_
  refine G.region ?_
  refine GL.run (j := 1) 1 [2, 4, 5, 14] [(2, pt p3 0), (4, pt p9 0), (5, pt p33 0), (14, pt p33 0)] (by kernel_rfl) rfl ?_
  refine GL.sem (j := 2) (H39.ld (o := 0) (ty := 5) (v := .int .u8 (o.toNat : Int)) 3 rfl (by kernel_rfl) rfl) [2, 4, 5, 15] [(2, pt p3 0), (4, pt p9 0), (5, pt p33 0), (15, .int .u8 (o.toNat : Int))] (by kernel_rfl) (by kernel_rfl) rfl ?_
  refine GL.call (j := 3) (fields_calls o w37) (by kernel_rfl) rfl (fun e_ w42 hR => ?_)
  obtain ⟨rfl, H44⟩ := hR
  have H43 : Hp w [] [.blk p9 [.slice A19 q26.length c20, .bool z25] 74, .row A10 xs.length c11 5 1 (by8 xs), .blk p3 [.int .u8 0, .int .u8 0, .int .u8 0, .int .u64 0, .int .u64 0, .int .u8 0, .int .u8 0, .int .u8 0, .int .u8 0, .int .u8 0, .int .u8 0, .int .u8 0, .int .u8 0, .int .u8 0, .int .u8 0, .int .u8 0, .int .u8 0, .int .u8 0, .int .u8 0, .int .u8 0, .int .u8 0, .int .u8 0, .int .u8 0, .int .u8 0, .int .u8 0, .bool false, .slice none 0 0] 28, .blk p33 [.int .u8 (o.toNat : Int), .int .u8 0, .int .u8 0, .int .u64 0, .int .u64 0, .int .u8 0, .int .u8 0, .int .u8 0, .int .u8 0, .int .u8 0, .int .u8 0, .int .u8 0, .int .u8 0, .int .u8 0, .int .u8 0, .int .u8 0, .int .u8 0, .int .u8 0, .int .u8 0, .int .u8 0, .int .u8 0, .int .u8 0, .int .u8 0, .int .u8 0, .int .u8 0, .bool false, .slice none 0 0] 28] w42 := H39.callNil H44
  refine ⟨_, rfl, [2, 4, 5, 16], [(2, pt p3 0), (4, pt p9 0), (5, pt p33 0), (16, .int .i64 (((fm o.toNat) : Nat) : Int))], by kernel_rfl, ?_⟩
  refine GL.run (j := 4) 1 [2, 4, 5, 6] [(2, pt p3 0), (4, pt p9 0), (5, pt p33 0), (6, .int .i64 (((fm o.toNat) : Nat) : Int))] (by kernel_rfl) rfl ?_
  refine GL.k rfl hK41 (fun _ _ h => h) ?_
  refine G.seqJ (X := Bool × List UInt8 × List UInt8 × Option Addr × Nat) (fun ⟨z0_, q0_, v0_, B0_, b0_⟩ => [(2, pt p3 0), (4, pt p9 0), (5, pt p33 0), (6, .int .i64 (((fm o.toNat) : Nat) : Int))]) (fun ⟨z0_, q0_, v0_, B0_, b0_⟩ w_ => (Stp (bitP o 0) 1 z25 q26 z0_ q0_ v0_ ∧ v0_.length ≤ 1 ∧ Cut A10 xs B0_ q0_ ∧ q0_.length ≤ b0_ ∧ q0_.length ≤ 1000000) ∧ Hp w [] [.blk p9 [.slice B0_ q0_.length b0_, .bool z0_] 74, .row A10 xs.length c11 5 1 (by8 xs), .blk p3 [.int .u8 0, .int .u8 0, .int .u8 0, .int .u64 0, .int .u64 0, .int .u8 0, .int .u8 0, .int .u8 0, .int .u8 0, .int .u8 0, .int .u8 0, .int .u8 0, .int .u8 0, .int .u8 0, .int .u8 0, .int .u8 0, .int .u8 0, .int .u8 0, .int .u8 0, .int .u8 0, .int .u8 0, .int .u8 0, .int .u8 0, .int .u8 0, .int .u8 0, .bool false, .slice none 0 0] 28, .blk p33 [.int .u8 (o.toNat : Int), .int .u8 ((getB v0_ : Nat) : Int), .int .u8 0, .int .u64 0, .int .u64 0, .int .u8 0, .int .u8 0, .int .u8 0, .int .u8 0, .int .u8 0, .int .u8 0, .int .u8 0, .int .u8 0, .int .u8 0, .int .u8 0, .int .u8 0, .int .u8 0, .int .u8 0, .int .u8 0, .int .u8 0, .int .u8 0, .int .u8 0, .int .u8 0, .int .u8 0, .int .u8 0, .bool false, .slice none 0 0] 28] w_) (fun J45 K46 hK47 => ?_) ?_
  · skip
    refine G.seqK fun K48 hK49 => ?_
    refine G.region ?_
    refine GL.run (j := 3) 3 [2, 4, 5, 6, 19] [(2, pt p3 0), (4, pt p9 0), (5, pt p33 0), (6, .int .i64 (((fm o.toNat) : Nat) : Int)), (19, .bool ((Go.bits .and .i64 (((fm o.toNat) : Nat) : Int) 1) != 0))] (by kernel_rfl) rfl ?_
    have e50 : (Go.bits .and .i64 (((fm o.toNat) : Nat) : Int) 1) = ((fm o.toNat % 2 : Nat) : Int) := i_and1 (fm_lt _)
    refine GL.eq (M' := [(2, pt p3 0), (4, pt p9 0), (5, pt p33 0), (6, .int .i64 (((fm o.toNat) : Nat) : Int)), (19, .bool (((fm o.toNat % 2 : Nat) : Int) != 0))]) (by rw [e50]) ?_
    clear e50
    refine GL.k rfl hK49 (fun _ _ h => h) ?_
    cases hb51 : (((fm o.toNat % 2 : Nat) : Int) != 0)
    · skip
      have hb51f : ((fm o.toNat % 2 : Nat) : Int) = 0 := bne_eq_false_iff_eq.1 hb51
      have hbit0 : ¬ bitP o 0 := by unfold bitP; omega
      refine G.no rfl ?_
      refine G.skipK hK47 (fun _ _ h => h) ?_
      have H53 : Hp w [] [.blk p9 [.slice A19 q26.length c20, .bool z25] 74, .row A10 xs.length c11 5 1 (by8 xs), .blk p3 [.int .u8 0, .int .u8 0, .int .u8 0, .int .u64 0, .int .u64 0, .int .u8 0, .int .u8 0, .int .u8 0, .int .u8 0, .int .u8 0, .int .u8 0, .int .u8 0, .int .u8 0, .int .u8 0, .int .u8 0, .int .u8 0, .int .u8 0, .int .u8 0, .int .u8 0, .int .u8 0, .int .u8 0, .int .u8 0, .int .u8 0, .int .u8 0, .int .u8 0, .bool false, .slice none 0 0] 28, .blk p33 [.int .u8 (o.toNat : Int), .int .u8 ((getB ([] : List UInt8) : Nat) : Int), .int .u8 0, .int .u64 0, .int .u64 0, .int .u8 0, .int .u8 0, .int .u8 0, .int .u8 0, .int .u8 0, .int .u8 0, .int .u8 0, .int .u8 0, .int .u8 0, .int .u8 0, .int .u8 0, .int .u8 0, .int .u8 0, .int .u8 0, .int .u8 0, .int .u8 0, .int .u8 0, .int .u8 0, .int .u8 0, .int .u8 0, .bool false, .slice none 0 0] 28] w42 := H43
      refine G.fit [2, 4, 5, 6] (M' := [(2, pt p3 0), (4, pt p9 0), (5, pt p33 0), (6, .int .i64 (((fm o.toNat) : Nat) : Int))]) (by kernel_rfl) ?_
      exact J45 ⟨z25, q26, ([] : List UInt8), A19, c20⟩ _ ⟨⟨⟨fun h_ => absurd h_ hbit0, fun _ => ⟨rfl, rfl, rfl⟩⟩, Nat.zero_le _, hC23, hL24, h6q26⟩, H53⟩
    · skip
      have hb51f : ((fm o.toNat % 2 : Nat) : Int) ≠ 0 := bne_iff_ne.1 hb51
      have hbit0 : bitP o 0 := by unfold bitP; omega
      refine G.yes rfl ?_
      refine G.region ?_
      refine GL.run (j := 1) 1 [2, 4, 5, 6, 20] [(2, pt p3 0), (4, pt p9 0), (5, pt p33 0), (6, .int .i64 (((fm o.toNat) : Nat) : Int)), (20, pt p9 0)] (by kernel_rfl) rfl ?_
      obtain ⟨z60, hz60⟩ : ∃ z_ : Bool, z_ = (!(rOK z25 q26 1)) := ⟨_, rfl⟩
      obtain ⟨q61, hq61⟩ : ∃ q_ : List UInt8, q_ = rR z25 q26 1 := ⟨_, rfl⟩
      obtain ⟨v62, hv62⟩ : ∃ v_ : List UInt8, v_ = rV z25 q26 1 := ⟨_, rfl⟩
      have h6q61 : q61.length ≤ 1000000 := by rw [hq61]; refine Nat.le_trans (rR_le _ _ _) ?_; first | exact h6q26 | (rw [← rfl]; exact h6q26)
      have hlv62 : v62.length ≤ 1 := by rw [hv62]; exact rV_le _ _ _
      have hbv62 : getB v62 < 256 := Nat.lt_of_lt_of_le (getB_lt v62) (Nat.le_trans (Nat.pow_le_pow_right (by decide) hlv62) (by decide))
      refine GL.call (j := 2) (Get1_calls (ids [.blk p9 [.slice A19 q26.length c20, .bool z25] 74, .row A10 xs.length c11 5 1 (by8 xs)]) p9 A19 q26.length c20 z25 A10 xs.length c11 xs q26 w42 (Hp.startL (A := [.blk p9 [.slice A19 q26.length c20, .bool z25] 74, .row A10 xs.length c11 5 1 (by8 xs)]) (B := [.blk p3 [.int .u8 0, .int .u8 0, .int .u8 0, .int .u64 0, .int .u64 0, .int .u8 0, .int .u8 0, .int .u8 0, .int .u8 0, .int .u8 0, .int .u8 0, .int .u8 0, .int .u8 0, .int .u8 0, .int .u8 0, .int .u8 0, .int .u8 0, .int .u8 0, .int .u8 0, .int .u8 0, .int .u8 0, .int .u8 0, .int .u8 0, .int .u8 0, .int .u8 0, .bool false, .slice none 0 0] 28, .blk p33 [.int .u8 (o.toNat : Int), .int .u8 0, .int .u8 0, .int .u64 0, .int .u64 0, .int .u8 0, .int .u8 0, .int .u8 0, .int .u8 0, .int .u8 0, .int .u8 0, .int .u8 0, .int .u8 0, .int .u8 0, .int .u8 0, .int .u8 0, .int .u8 0, .int .u8 0, .int .u8 0, .int .u8 0, .int .u8 0, .int .u8 0, .int .u8 0, .int .u8 0, .int .u8 0, .bool false, .slice none 0 0] 28]) H43) hC23 (rfl) (hL24) (h6q26)) (by kernel_rfl) rfl (fun e_ w63 hR => ?_)
      obtain ⟨A54, c55, rfl, H65, hC58, hL59⟩ := hR
      simp only [← hz60, ← hq61, ← hv62] at H65 hC58 hL59 ⊢
      have H64 : Hp w [] [.blk p9 [.slice A54 q61.length c55, .bool z60] 74, .row A10 xs.length c11 5 1 (by8 xs), .blk p3 [.int .u8 0, .int .u8 0, .int .u8 0, .int .u64 0, .int .u64 0, .int .u8 0, .int .u8 0, .int .u8 0, .int .u8 0, .int .u8 0, .int .u8 0, .int .u8 0, .int .u8 0, .int .u8 0, .int .u8 0, .int .u8 0, .int .u8 0, .int .u8 0, .int .u8 0, .int .u8 0, .int .u8 0, .int .u8 0, .int .u8 0, .int .u8 0, .int .u8 0, .bool false, .slice none 0 0] 28, .blk p33 [.int .u8 (o.toNat : Int), .int .u8 0, .int .u8 0, .int .u64 0, .int .u64 0, .int .u8 0, .int .u8 0, .int .u8 0, .int .u8 0, .int .u8 0, .int .u8 0, .int .u8 0, .int .u8 0, .int .u8 0, .int .u8 0, .int .u8 0, .int .u8 0, .int .u8 0, .int .u8 0, .int .u8 0, .int .u8 0, .int .u8 0, .int .u8 0, .int .u8 0, .int .u8 0, .bool false, .slice none 0 0] 28] w63 := Hp.callL (A := [.blk p9 [.slice A19 q26.length c20, .bool z25] 74, .row A10 xs.length c11 5 1 (by8 xs)]) (B := [.blk p3 [.int .u8 0, .int .u8 0, .int .u8 0, .int .u64 0, .int .u64 0, .int .u8 0, .int .u8 0, .int .u8 0, .int .u8 0, .int .u8 0, .int .u8 0, .int .u8 0, .int .u8 0, .int .u8 0, .int .u8 0, .int .u8 0, .int .u8 0, .int .u8 0, .int .u8 0, .int .u8 0, .int .u8 0, .int .u8 0, .int .u8 0, .int .u8 0, .int .u8 0, .bool false, .slice none 0 0] 28, .blk p33 [.int .u8 (o.toNat : Int), .int .u8 0, .int .u8 0, .int .u64 0, .int .u64 0, .int .u8 0, .int .u8 0, .int .u8 0, .int .u8 0, .int .u8 0, .int .u8 0, .int .u8 0, .int .u8 0, .int .u8 0, .int .u8 0, .int .u8 0, .int .u8 0, .int .u8 0, .int .u8 0, .int .u8 0, .int .u8 0, .int .u8 0, .int .u8 0, .int .u8 0, .int .u8 0, .bool false, .slice none 0 0] 28]) H43 H65
      refine ⟨_, rfl, [2, 4, 5, 6, 21], [(2, pt p3 0), (4, pt p9 0), (5, pt p33 0), (6, .int .i64 (((fm o.toNat) : Nat) : Int)), (21, .int .u64 (((getB v62) : Nat) : Int))], by kernel_rfl, ?_⟩
      refine GL.run (j := 4) 2 [2, 4, 5, 6, 22, 23] [(2, pt p3 0), (4, pt p9 0), (5, pt p33 0), (6, .int .i64 (((fm o.toNat) : Nat) : Int)), (22, .int .u8 (IntKind.u8.wrap (((getB v62) : Nat) : Int))), (23, pt p33 1)] (by kernel_rfl) rfl ?_
      have e66 : (IntKind.u8.wrap (((getB v62) : Nat) : Int)) = (((getB v62) : Nat) : Int) := in_u8 (by omega)
      refine GL.eq (M' := [(2, pt p3 0), (4, pt p9 0), (5, pt p33 0), (6, .int .i64 (((fm o.toNat) : Nat) : Int)), (22, .int .u8 (((getB v62) : Nat) : Int)), (23, pt p33 1)]) (by rw [e66]) ?_
      clear e66
      obtain ⟨w67, r68, H69⟩ := H64.st (P := Try.prog) (o := 1) (ty := 22) (v := .int .u8 (((getB v62) : Nat) : Int)) 3 rfl (by kernel_rfl) (by simp) rfl
      have H69 : Hp w [] [.blk p9 [.slice A54 q61.length c55, .bool z60] 74, .row A10 xs.length c11 5 1 (by8 xs), .blk p3 [.int .u8 0, .int .u8 0, .int .u8 0, .int .u64 0, .int .u64 0, .int .u8 0, .int .u8 0, .int .u8 0, .int .u8 0, .int .u8 0, .int .u8 0, .int .u8 0, .int .u8 0, .int .u8 0, .int .u8 0, .int .u8 0, .int .u8 0, .int .u8 0, .int .u8 0, .int .u8 0, .int .u8 0, .int .u8 0, .int .u8 0, .int .u8 0, .int .u8 0, .bool false, .slice none 0 0] 28, .blk p33 [.int .u8 (o.toNat : Int), .int .u8 (((getB v62) : Nat) : Int), .int .u8 0, .int .u64 0, .int .u64 0, .int .u8 0, .int .u8 0, .int .u8 0, .int .u8 0, .int .u8 0, .int .u8 0, .int .u8 0, .int .u8 0, .int .u8 0, .int .u8 0, .int .u8 0, .int .u8 0, .int .u8 0, .int .u8 0, .int .u8 0, .int .u8 0, .int .u8 0, .int .u8 0, .int .u8 0, .int .u8 0, .bool false, .slice none 0 0] 28] w67 := H69
      refine GL.semU (j := 5) r68 [2, 4, 5, 6] [(2, pt p3 0), (4, pt p9 0), (5, pt p33 0), (6, .int .i64 (((fm o.toNat) : Nat) : Int))] (by kernel_rfl) rfl rfl rfl ?_
      refine GL.k rfl hK47 (fun _ _ h => h) ?_
      have H71 : Hp w [] [.blk p9 [.slice A54 q61.length c55, .bool z60] 74, .row A10 xs.length c11 5 1 (by8 xs), .blk p3 [.int .u8 0, .int .u8 0, .int .u8 0, .int .u64 0, .int .u64 0, .int .u8 0, .int .u8 0, .int .u8 0, .int .u8 0, .int .u8 0, .int .u8 0, .int .u8 0, .int .u8 0, .int .u8 0, .int .u8 0, .int .u8 0, .int .u8 0, .int .u8 0, .int .u8 0, .int .u8 0, .int .u8 0, .int .u8 0, .int .u8 0, .int .u8 0, .int .u8 0, .bool false, .slice none 0 0] 28, .blk p33 [.int .u8 (o.toNat : Int), .int .u8 ((getB v62 : Nat) : Int), .int .u8 0, .int .u64 0, .int .u64 0, .int .u8 0, .int .u8 0, .int .u8 0, .int .u8 0, .int .u8 0, .int .u8 0, .int .u8 0, .int .u8 0, .int .u8 0, .int .u8 0, .int .u8 0, .int .u8 0, .int .u8 0, .int .u8 0, .int .u8 0, .int .u8 0, .int .u8 0, .int .u8 0, .int .u8 0, .int .u8 0, .bool false, .slice none 0 0] 28] w67 := H69
      refine G.fit [2, 4, 5, 6] (M' := [(2, pt p3 0), (4, pt p9 0), (5, pt p33 0), (6, .int .i64 (((fm o.toNat) : Nat) : Int))]) (by kernel_rfl) ?_
      exact J45 ⟨z60, q61, v62, A54, c55⟩ _ ⟨⟨⟨fun _ => ⟨hz60, hq61, hv62⟩, fun h_ => absurd hbit0 h_⟩, hlv62, hC58, hL59, h6q61⟩, H71⟩
  · skip
    rintro ⟨z0_, q0_, v0_, B0_, b0_⟩ w72 ⟨hi73, H74⟩
    refine G.eq (M' := [(2, pt p3 0), (4, pt p9 0), (5, pt p33 0), (6, .int .i64 (((fm o.toNat) : Nat) : Int))]) rfl ?_
    have H74 : Hp w [] [.blk p9 [.slice B0_ q0_.length b0_, .bool z0_] 74, .row A10 xs.length c11 5 1 (by8 xs), .blk p3 [.int .u8 0, .int .u8 0, .int .u8 0, .int .u64 0, .int .u64 0, .int .u8 0, .int .u8 0, .int .u8 0, .int .u8 0, .int .u8 0, .int .u8 0, .int .u8 0, .int .u8 0, .int .u8 0, .int .u8 0, .int .u8 0, .int .u8 0, .int .u8 0, .int .u8 0, .int .u8 0, .int .u8 0, .int .u8 0, .int .u8 0, .int .u8 0, .int .u8 0, .bool false, .slice none 0 0] 28, .blk p33 [.int .u8 (o.toNat : Int), .int .u8 ((getB v0_ : Nat) : Int), .int .u8 0, .int .u64 0, .int .u64 0, .int .u8 0, .int .u8 0, .int .u8 0, .int .u8 0, .int .u8 0, .int .u8 0, .int .u8 0, .int .u8 0, .int .u8 0, .int .u8 0, .int .u8 0, .int .u8 0, .int .u8 0, .int .u8 0, .int .u8 0, .int .u8 0, .int .u8 0, .int .u8 0, .int .u8 0, .int .u8 0, .bool false, .slice none 0 0] 28] w72 := H74
    obtain ⟨hst0, hvl0, hcut0, hcap0, h6_0⟩ := hi73
    have hgb0 : getB v0_ < 256 := Nat.lt_of_lt_of_le (getB_lt _) (Nat.le_trans (Nat.pow_le_pow_right (by decide) hvl0) (by decide))
    refine G.seqJ (X := Bool × List UInt8 × List UInt8 × Option Addr × Nat) (fun ⟨z1_, q1_, v1_, B1_, b1_⟩ => [(2, pt p3 0), (4, pt p9 0), (5, pt p33 0), (6, .int .i64 (((fm o.toNat) : Nat) : Int))]) (fun ⟨z1_, q1_, v1_, B1_, b1_⟩ w_ => (Stp (bitP o 1) 1 z0_ q0_ z1_ q1_ v1_ ∧ v1_.length ≤ 1 ∧ Cut A10 xs B1_ q1_ ∧ q1_.length ≤ b1_ ∧ q1_.length ≤ 1000000) ∧ Hp w [] [.blk p9 [.slice B1_ q1_.length b1_, .bool z1_] 74, .row A10 xs.length c11 5 1 (by8 xs), .blk p3 [.int .u8 0, .int .u8 0, .int .u8 0, .int .u64 0, .int .u64 0, .int .u8 0, .int .u8 0, .int .u8 0, .int .u8 0, .int .u8 0, .int .u8 0, .int .u8 0, .int .u8 0, .int .u8 0, .int .u8 0, .int .u8 0, .int .u8 0, .int .u8 0, .int .u8 0, .int .u8 0, .int .u8 0, .int .u8 0, .int .u8 0, .int .u8 0, .int .u8 0, .bool false, .slice none 0 0] 28, .blk p33 [.int .u8 (o.toNat : Int), .int .u8 ((getB v0_ : Nat) : Int), .int .u8 ((getB v1_ : Nat) : Int), .int .u64 0, .int .u64 0, .int .u8 0, .int .u8 0, .int .u8 0, .int .u8 0, .int .u8 0, .int .u8 0, .int .u8 0, .int .u8 0, .int .u8 0, .int .u8 0, .int .u8 0, .int .u8 0, .int .u8 0, .int .u8 0, .int .u8 0, .int .u8 0, .int .u8 0, .int .u8 0, .int .u8 0, .int .u8 0, .bool false, .slice none 0 0] 28] w_) (fun J75 K76 hK77 => ?_) ?_
    · skip
      refine G.seqK fun K78 hK79 => ?_
      refine G.region ?_
      refine GL.run (j := 3) 3 [2, 4, 5, 6, 26] [(2, pt p3 0), (4, pt p9 0), (5, pt p33 0), (6, .int .i64 (((fm o.toNat) : Nat) : Int)), (26, .bool ((Go.bits .and .i64 (((fm o.toNat) : Nat) : Int) 2) != 0))] (by kernel_rfl) rfl ?_
      have e80 : (Go.bits .and .i64 (((fm o.toNat) : Nat) : Int) 2) = ((fm o.toNat / 2 ^ 1 % 2 * 2 ^ 1 : Nat) : Int) := i_andbit (k := 1) (by decide) (fm_lt _)
      refine GL.eq (M' := [(2, pt p3 0), (4, pt p9 0), (5, pt p33 0), (6, .int .i64 (((fm o.toNat) : Nat) : Int)), (26, .bool (((fm o.toNat / 2 ^ 1 % 2 * 2 ^ 1 : Nat) : Int) != 0))]) (by rw [e80]) ?_
      clear e80
      refine GL.k rfl hK79 (fun _ _ h => h) ?_
      cases hb81 : (((fm o.toNat / 2 ^ 1 % 2 * 2 ^ 1 : Nat) : Int) != 0)
      · skip
        have hb81f : ((fm o.toNat / 2 ^ 1 % 2 * 2 ^ 1 : Nat) : Int) = 0 := bne_eq_false_iff_eq.1 hb81
        have hbit1 : ¬ bitP o 1 := by unfold bitP; omega
        refine G.no rfl ?_
        refine G.skipK hK77 (fun _ _ h => h) ?_
        have H83 : Hp w [] [.blk p9 [.slice B0_ q0_.length b0_, .bool z0_] 74, .row A10 xs.length c11 5 1 (by8 xs), .blk p3 [.int .u8 0, .int .u8 0, .int .u8 0, .int .u64 0, .int .u64 0, .int .u8 0, .int .u8 0, .int .u8 0, .int .u8 0, .int .u8 0, .int .u8 0, .int .u8 0, .int .u8 0, .int .u8 0, .int .u8 0, .int .u8 0, .int .u8 0, .int .u8 0, .int .u8 0, .int .u8 0, .int .u8 0, .int .u8 0, .int .u8 0, .int .u8 0, .int .u8 0, .bool false, .slice none 0 0] 28, .blk p33 [.int .u8 (o.toNat : Int), .int .u8 ((getB v0_ : Nat) : Int), .int .u8 ((getB ([] : List UInt8) : Nat) : Int), .int .u64 0, .int .u64 0, .int .u8 0, .int .u8 0, .int .u8 0, .int .u8 0, .int .u8 0, .int .u8 0, .int .u8 0, .int .u8 0, .int .u8 0, .int .u8 0, .int .u8 0, .int .u8 0, .int .u8 0, .int .u8 0, .int .u8 0, .int .u8 0, .int .u8 0, .int .u8 0, .int .u8 0, .int .u8 0, .bool false, .slice none 0 0] 28] w72 := H74
        refine G.fit [2, 4, 5, 6] (M' := [(2, pt p3 0), (4, pt p9 0), (5, pt p33 0), (6, .int .i64 (((fm o.toNat) : Nat) : Int))]) (by kernel_rfl) ?_
        exact J75 ⟨z0_, q0_, ([] : List UInt8), B0_, b0_⟩ _ ⟨⟨⟨fun h_ => absurd h_ hbit1, fun _ => ⟨rfl, rfl, rfl⟩⟩, Nat.zero_le _, hcut0, hcap0, h6_0⟩, H83⟩
      · skip
        have hb81f : ((fm o.toNat / 2 ^ 1 % 2 * 2 ^ 1 : Nat) : Int) ≠ 0 := bne_iff_ne.1 hb81
        have hbit1 : bitP o 1 := by unfold bitP; omega
        refine G.yes rfl ?_
        refine G.region ?_
        refine GL.run (j := 1) 1 [2, 4, 5, 6, 27] [(2, pt p3 0), (4, pt p9 0), (5, pt p33 0), (6, .int .i64 (((fm o.toNat) : Nat) : Int)), (27, pt p9 0)] (by kernel_rfl) rfl ?_
        obtain ⟨z90, hz90⟩ : ∃ z_ : Bool, z_ = (!(rOK z0_ q0_ 1)) := ⟨_, rfl⟩
        obtain ⟨q91, hq91⟩ : ∃ q_ : List UInt8, q_ = rR z0_ q0_ 1 := ⟨_, rfl⟩
        obtain ⟨v92, hv92⟩ : ∃ v_ : List UInt8, v_ = rV z0_ q0_ 1 := ⟨_, rfl⟩
        have h6q91 : q91.length ≤ 1000000 := by rw [hq91]; refine Nat.le_trans (rR_le _ _ _) ?_; first | exact h6_0 | (rw [← rfl]; exact h6_0)
        have hlv92 : v92.length ≤ 1 := by rw [hv92]; exact rV_le _ _ _
        have hbv92 : getB v92 < 256 := Nat.lt_of_lt_of_le (getB_lt v92) (Nat.le_trans (Nat.pow_le_pow_right (by decide) hlv92) (by decide))
        refine GL.call (j := 2) (Get1_calls (ids [.blk p9 [.slice B0_ q0_.length b0_, .bool z0_] 74, .row A10 xs.length c11 5 1 (by8 xs)]) p9 B0_ q0_.length b0_ z0_ A10 xs.length c11 xs q0_ w72 (Hp.startL (A := [.blk p9 [.slice B0_ q0_.length b0_, .bool z0_] 74, .row A10 xs.length c11 5 1 (by8 xs)]) (B := [.blk p3 [.int .u8 0, .int .u8 0, .int .u8 0, .int .u64 0, .int .u64 0, .int .u8 0, .int .u8 0, .int .u8 0, .int .u8 0, .int .u8 0, .int .u8 0, .int .u8 0, .int .u8 0, .int .u8 0, .int .u8 0, .int .u8 0, .int .u8 0, .int .u8 0, .int .u8 0, .int .u8 0, .int .u8 0, .int .u8 0, .int .u8 0, .int .u8 0, .int .u8 0, .bool false, .slice none 0 0] 28, .blk p33 [.int .u8 (o.toNat : Int), .int .u8 ((getB v0_ : Nat) : Int), .int .u8 0, .int .u64 0, .int .u64 0, .int .u8 0, .int .u8 0, .int .u8 0, .int .u8 0, .int .u8 0, .int .u8 0, .int .u8 0, .int .u8 0, .int .u8 0, .int .u8 0, .int .u8 0, .int .u8 0, .int .u8 0, .int .u8 0, .int .u8 0, .int .u8 0, .int .u8 0, .int .u8 0, .int .u8 0, .int .u8 0, .bool false, .slice none 0 0] 28]) H74) hcut0 (rfl) (hcap0) (h6_0)) (by kernel_rfl) rfl (fun e_ w93 hR => ?_)
        obtain ⟨A84, c85, rfl, H95, hC88, hL89⟩ := hR
        simp only [← hz90, ← hq91, ← hv92] at H95 hC88 hL89 ⊢
        have H94 : Hp w [] [.blk p9 [.slice A84 q91.length c85, .bool z90] 74, .row A10 xs.length c11 5 1 (by8 xs), .blk p3 [.int .u8 0, .int .u8 0, .int .u8 0, .int .u64 0, .int .u64 0, .int .u8 0, .int .u8 0, .int .u8 0, .int .u8 0, .int .u8 0, .int .u8 0, .int .u8 0, .int .u8 0, .int .u8 0, .int .u8 0, .int .u8 0, .int .u8 0, .int .u8 0, .int .u8 0, .int .u8 0, .int .u8 0, .int .u8 0, .int .u8 0, .int .u8 0, .int .u8 0, .bool false, .slice none 0 0] 28, .blk p33 [.int .u8 (o.toNat : Int), .int .u8 ((getB v0_ : Nat) : Int), .int .u8 0, .int .u64 0, .int .u64 0, .int .u8 0, .int .u8 0, .int .u8 0, .int .u8 0, .int .u8 0, .int .u8 0, .int .u8 0, .int .u8 0, .int .u8 0, .int .u8 0, .int .u8 0, .int .u8 0, .int .u8 0, .int .u8 0, .int .u8 0, .int .u8 0, .int .u8 0, .int .u8 0, .int .u8 0, .int .u8 0, .bool false, .slice none 0 0] 28] w93 := Hp.callL (A := [.blk p9 [.slice B0_ q0_.length b0_, .bool z0_] 74, .row A10 xs.length c11 5 1 (by8 xs)]) (B := [.blk p3 [.int .u8 0, .int .u8 0, .int .u8 0, .int .u64 0, .int .u64 0, .int .u8 0, .int .u8 0, .int .u8 0, .int .u8 0, .int .u8 0, .int .u8 0, .int .u8 0, .int .u8 0, .int .u8 0, .int .u8 0, .int .u8 0, .int .u8 0, .int .u8 0, .int .u8 0, .int .u8 0, .int .u8 0, .int .u8 0, .int .u8 0, .int .u8 0, .int .u8 0, .bool false, .slice none 0 0] 28, .blk p33 [.int .u8 (o.toNat : Int), .int .u8 ((getB v0_ : Nat) : Int), .int .u8 0, .int .u64 0, .int .u64 0, .int .u8 0, .int .u8 0, .int .u8 0, .int .u8 0, .int .u8 0, .int .u8 0, .int .u8 0, .int .u8 0, .int .u8 0, .int .u8 0, .int .u8 0, .int .u8 0, .int .u8 0, .int .u8 0, .int .u8 0, .int .u8 0, .int .u8 0, .int .u8 0, .int .u8 0, .int .u8 0, .bool false, .slice none 0 0] 28]) H74 H95
        refine ⟨_, rfl, [2, 4, 5, 6, 28], [(2, pt p3 0), (4, pt p9 0), (5, pt p33 0), (6, .int .i64 (((fm o.toNat) : Nat) : Int)), (28, .int .u64 (((getB v92) : Nat) : Int))], by kernel_rfl, ?_⟩
        refine GL.run (j := 4) 2 [2, 4, 5, 6, 29, 30] [(2, pt p3 0), (4, pt p9 0), (5, pt p33 0), (6, .int .i64 (((fm o.toNat) : Nat) : Int)), (29, .int .u8 (IntKind.u8.wrap (((getB v92) : Nat) : Int))), (30, pt p33 2)] (by kernel_rfl) rfl ?_
        have e96 : (IntKind.u8.wrap (((getB v92) : Nat) : Int)) = (((getB v92) : Nat) : Int) := in_u8 (by omega)
        refine GL.eq (M' := [(2, pt p3 0), (4, pt p9 0), (5, pt p33 0), (6, .int .i64 (((fm o.toNat) : Nat) : Int)), (29, .int .u8 (((getB v92) : Nat) : Int)), (30, pt p33 2)]) (by rw [e96]) ?_
        clear e96
        obtain ⟨w97, r98, H99⟩ := H94.st (P := Try.prog) (o := 2) (ty := 22) (v := .int .u8 (((getB v92) : Nat) : Int)) 3 rfl (by kernel_rfl) (by simp) rfl
        have H99 : Hp w [] [.blk p9 [.slice A84 q91.length c85, .bool z90] 74, .row A10 xs.length c11 5 1 (by8 xs), .blk p3 [.int .u8 0, .int .u8 0, .int .u8 0, .int .u64 0, .int .u64 0, .int .u8 0, .int .u8 0, .int .u8 0, .int .u8 0, .int .u8 0, .int .u8 0, .int .u8 0, .int .u8 0, .int .u8 0, .int .u8 0, .int .u8 0, .int .u8 0, .int .u8 0, .int .u8 0, .int .u8 0, .int .u8 0, .int .u8 0, .int .u8 0, .int .u8 0, .int .u8 0, .bool false, .slice none 0 0] 28, .blk p33 [.int .u8 (o.toNat : Int), .int .u8 ((getB v0_ : Nat) : Int), .int .u8 (((getB v92) : Nat) : Int), .int .u64 0, .int .u64 0, .int .u8 0, .int .u8 0, .int .u8 0, .int .u8 0, .int .u8 0, .int .u8 0, .int .u8 0, .int .u8 0, .int .u8 0, .int .u8 0, .int .u8 0, .int .u8 0, .int .u8 0, .int .u8 0, .int .u8 0, .int .u8 0, .int .u8 0, .int .u8 0, .int .u8 0, .int .u8 0, .bool false, .slice none 0 0] 28] w97 := H99
        refine GL.semU (j := 5) r98 [2, 4, 5, 6] [(2, pt p3 0), (4, pt p9 0), (5, pt p33 0), (6, .int .i64 (((fm o.toNat) : Nat) : Int))] (by kernel_rfl) rfl rfl rfl ?_
        refine GL.k rfl hK77 (fun _ _ h => h) ?_
        have H101 : Hp w [] [.blk p9 [.slice A84 q91.length c85, .bool z90] 74, .row A10 xs.length c11 5 1 (by8 xs), .blk p3 [.int .u8 0, .int .u8 0, .int .u8 0, .int .u64 0, .int .u64 0, .int .u8 0, .int .u8 0, .int .u8 0, .int .u8 0, .int .u8 0, .int .u8 0, .int .u8 0, .int .u8 0, .int .u8 0, .int .u8 0, .int .u8 0, .int .u8 0, .int .u8 0, .int .u8 0, .int .u8 0, .int .u8 0, .int .u8 0, .int .u8 0, .int .u8 0, .int .u8 0, .bool false, .slice none 0 0] 28, .blk p33 [.int .u8 (o.toNat : Int), .int .u8 ((getB v0_ : Nat) : Int), .int .u8 ((getB v92 : Nat) : Int), .int .u64 0, .int .u64 0, .int .u8 0, .int .u8 0, .int .u8 0, .int .u8 0, .int .u8 0, .int .u8 0, .int .u8 0, .int .u8 0, .int .u8 0, .int .u8 0, .int .u8 0, .int .u8 0, .int .u8 0, .int .u8 0, .int .u8 0, .int .u8 0, .int .u8 0, .int .u8 0, .int .u8 0, .int .u8 0, .bool false, .slice none 0 0] 28] w97 := H99
        refine G.fit [2, 4, 5, 6] (M' := [(2, pt p3 0), (4, pt p9 0), (5, pt p33 0), (6, .int .i64 (((fm o.toNat) : Nat) : Int))]) (by kernel_rfl) ?_
        exact J75 ⟨z90, q91, v92, A84, c85⟩ _ ⟨⟨⟨fun _ => ⟨hz90, hq91, hv92⟩, fun h_ => absurd hbit1 h_⟩, hlv92, hC88, hL89, h6q91⟩, H101⟩
    · skip
      rintro ⟨z1_, q1_, v1_, B1_, b1_⟩ w102 ⟨hi103, H104⟩
      refine G.eq (M' := [(2, pt p3 0), (4, pt p9 0), (5, pt p33 0), (6, .int .i64 (((fm o.toNat) : Nat) : Int))]) rfl ?_
      have H104 : Hp w [] [.blk p9 [.slice B1_ q1_.length b1_, .bool z1_] 74, .row A10 xs.length c11 5 1 (by8 xs), .blk p3 [.int .u8 0, .int .u8 0, .int .u8 0, .int .u64 0, .int .u64 0, .int .u8 0, .int .u8 0, .int .u8 0, .int .u8 0, .int .u8 0, .int .u8 0, .int .u8 0, .int .u8 0, .int .u8 0, .int .u8 0, .int .u8 0, .int .u8 0, .int .u8 0, .int .u8 0, .int .u8 0, .int .u8 0, .int .u8 0, .int .u8 0, .int .u8 0, .int .u8 0, .bool false, .slice none 0 0] 28, .blk p33 [.int .u8 (o.toNat : Int), .int .u8 ((getB v0_ : Nat) : Int), .int .u8 ((getB v1_ : Nat) : Int), .int .u64 0, .int .u64 0, .int .u8 0, .int .u8 0, .int .u8 0, .int .u8 0, .int .u8 0, .int .u8 0, .int .u8 0, .int .u8 0, .int .u8 0, .int .u8 0, .int .u8 0, .int .u8 0, .int .u8 0, .int .u8 0, .int .u8 0, .int .u8 0, .int .u8 0, .int .u8 0, .int .u8 0, .int .u8 0, .bool false, .slice none 0 0] 28] w102 := H104
      obtain ⟨hst1, hvl1, hcut1, hcap1, h6_1⟩ := hi103
      have hgb1 : getB v1_ < 256 := Nat.lt_of_lt_of_le (getB_lt _) (Nat.le_trans (Nat.pow_le_pow_right (by decide) hvl1) (by decide))
      refine G.seqJ (X := Bool × List UInt8 × List UInt8 × Option Addr × Nat) (fun ⟨z2_, q2_, v2_, B2_, b2_⟩ => [(2, pt p3 0), (4, pt p9 0), (5, pt p33 0), (6, .int .i64 (((fm o.toNat) : Nat) : Int))]) (fun ⟨z2_, q2_, v2_, B2_, b2_⟩ w_ => (Stp (bitP o 2) 8 z1_ q1_ z2_ q2_ v2_ ∧ v2_.length ≤ 8 ∧ Cut A10 xs B2_ q2_ ∧ q2_.length ≤ b2_ ∧ q2_.length ≤ 1000000) ∧ Hp w [] [.blk p9 [.slice B2_ q2_.length b2_, .bool z2_] 74, .row A10 xs.length c11 5 1 (by8 xs), .blk p3 [.int .u8 0, .int .u8 0, .int .u8 0, .int .u64 0, .int .u64 0, .int .u8 0, .int .u8 0, .int .u8 0, .int .u8 0, .int .u8 0, .int .u8 0, .int .u8 0, .int .u8 0, .int .u8 0, .int .u8 0, .int .u8 0, .int .u8 0, .int .u8 0, .int .u8 0, .int .u8 0, .int .u8 0, .int .u8 0, .int .u8 0, .int .u8 0, .int .u8 0, .bool false, .slice none 0 0] 28, .blk p33 [.int .u8 (o.toNat : Int), .int .u8 ((getB v0_ : Nat) : Int), .int .u8 ((getB v1_ : Nat) : Int), .int .u64 ((getB v2_ : Nat) : Int), .int .u64 0, .int .u8 0, .int .u8 0, .int .u8 0, .int .u8 0, .int .u8 0, .int .u8 0, .int .u8 0, .int .u8 0, .int .u8 0, .int .u8 0, .int .u8 0, .int .u8 0, .int .u8 0, .int .u8 0, .int .u8 0, .int .u8 0, .int .u8 0, .int .u8 0, .int .u8 0, .int .u8 0, .bool false, .slice none 0 0] 28] w_) (fun J105 K106 hK107 => ?_) ?_
      · skip
        refine G.seqK fun K108 hK109 => ?_
        refine G.region ?_
        refine GL.run (j := 3) 3 [2, 4, 5, 6, 33] [(2, pt p3 0), (4, pt p9 0), (5, pt p33 0), (6, .int .i64 (((fm o.toNat) : Nat) : Int)), (33, .bool ((Go.bits .and .i64 (((fm o.toNat) : Nat) : Int) 4) != 0))] (by kernel_rfl) rfl ?_
        have e110 : (Go.bits .and .i64 (((fm o.toNat) : Nat) : Int) 4) = ((fm o.toNat / 2 ^ 2 % 2 * 2 ^ 2 : Nat) : Int) := i_andbit (k := 2) (by decide) (fm_lt _)
        refine GL.eq (M' := [(2, pt p3 0), (4, pt p9 0), (5, pt p33 0), (6, .int .i64 (((fm o.toNat) : Nat) : Int)), (33, .bool (((fm o.toNat / 2 ^ 2 % 2 * 2 ^ 2 : Nat) : Int) != 0))]) (by rw [e110]) ?_
        clear e110
        refine GL.k rfl hK109 (fun _ _ h => h) ?_
        cases hb111 : (((fm o.toNat / 2 ^ 2 % 2 * 2 ^ 2 : Nat) : Int) != 0)
        · skip
          have hb111f : ((fm o.toNat / 2 ^ 2 % 2 * 2 ^ 2 : Nat) : Int) = 0 := bne_eq_false_iff_eq.1 hb111
          have hbit2 : ¬ bitP o 2 := by unfold bitP; omega
          refine G.no rfl ?_
          refine G.skipK hK107 (fun _ _ h => h) ?_
          have H113 : Hp w [] [.blk p9 [.slice B1_ q1_.length b1_, .bool z1_] 74, .row A10 xs.length c11 5 1 (by8 xs), .blk p3 [.int .u8 0, .int .u8 0, .int .u8 0, .int .u64 0, .int .u64 0, .int .u8 0, .int .u8 0, .int .u8 0, .int .u8 0, .int .u8 0, .int .u8 0, .int .u8 0, .int .u8 0, .int .u8 0, .int .u8 0, .int .u8 0, .int .u8 0, .int .u8 0, .int .u8 0, .int .u8 0, .int .u8 0, .int .u8 0, .int .u8 0, .int .u8 0, .int .u8 0, .bool false, .slice none 0 0] 28, .blk p33 [.int .u8 (o.toNat : Int), .int .u8 ((getB v0_ : Nat) : Int), .int .u8 ((getB v1_ : Nat) : Int), .int .u64 ((getB ([] : List UInt8) : Nat) : Int), .int .u64 0, .int .u8 0, .int .u8 0, .int .u8 0, .int .u8 0, .int .u8 0, .int .u8 0, .int .u8 0, .int .u8 0, .int .u8 0, .int .u8 0, .int .u8 0, .int .u8 0, .int .u8 0, .int .u8 0, .int .u8 0, .int .u8 0, .int .u8 0, .int .u8 0, .int .u8 0, .int .u8 0, .bool false, .slice none 0 0] 28] w102 := H104
          refine G.fit [2, 4, 5, 6] (M' := [(2, pt p3 0), (4, pt p9 0), (5, pt p33 0), (6, .int .i64 (((fm o.toNat) : Nat) : Int))]) (by kernel_rfl) ?_
          exact J105 ⟨z1_, q1_, ([] : List UInt8), B1_, b1_⟩ _ ⟨⟨⟨fun h_ => absurd h_ hbit2, fun _ => ⟨rfl, rfl, rfl⟩⟩, Nat.zero_le _, hcut1, hcap1, h6_1⟩, H113⟩
        · skip
          have hb111f : ((fm o.toNat / 2 ^ 2 % 2 * 2 ^ 2 : Nat) : Int) ≠ 0 := bne_iff_ne.1 hb111
          have hbit2 : bitP o 2 := by unfold bitP; omega
          refine G.yes rfl ?_
          refine G.region ?_
          refine GL.run (j := 1) 1 [2, 4, 5, 6, 34] [(2, pt p3 0), (4, pt p9 0), (5, pt p33 0), (6, .int .i64 (((fm o.toNat) : Nat) : Int)), (34, pt p9 0)] (by kernel_rfl) rfl ?_
          obtain ⟨z120, hz120⟩ : ∃ z_ : Bool, z_ = (!(rOK z1_ q1_ 8)) := ⟨_, rfl⟩
          obtain ⟨q121, hq121⟩ : ∃ q_ : List UInt8, q_ = rR z1_ q1_ 8 := ⟨_, rfl⟩
          obtain ⟨v122, hv122⟩ : ∃ v_ : List UInt8, v_ = rV z1_ q1_ 8 := ⟨_, rfl⟩
          have h6q121 : q121.length ≤ 1000000 := by rw [hq121]; refine Nat.le_trans (rR_le _ _ _) ?_; first | exact h6_1 | (rw [← rfl]; exact h6_1)
          have hlv122 : v122.length ≤ 8 := by rw [hv122]; exact rV_le _ _ _
          have hbv122 : getB v122 < 18446744073709551616 := Nat.lt_of_lt_of_le (getB_lt v122) (Nat.le_trans (Nat.pow_le_pow_right (by decide) hlv122) (by decide))
          refine GL.call (j := 2) (Get8_calls (ids [.blk p9 [.slice B1_ q1_.length b1_, .bool z1_] 74, .row A10 xs.length c11 5 1 (by8 xs)]) p9 B1_ q1_.length b1_ z1_ A10 xs.length c11 xs q1_ w102 (Hp.startL (A := [.blk p9 [.slice B1_ q1_.length b1_, .bool z1_] 74, .row A10 xs.length c11 5 1 (by8 xs)]) (B := [.blk p3 [.int .u8 0, .int .u8 0, .int .u8 0, .int .u64 0, .int .u64 0, .int .u8 0, .int .u8 0, .int .u8 0, .int .u8 0, .int .u8 0, .int .u8 0, .int .u8 0, .int .u8 0, .int .u8 0, .int .u8 0, .int .u8 0, .int .u8 0, .int .u8 0, .int .u8 0, .int .u8 0, .int .u8 0, .int .u8 0, .int .u8 0, .int .u8 0, .int .u8 0, .bool false, .slice none 0 0] 28, .blk p33 [.int .u8 (o.toNat : Int), .int .u8 ((getB v0_ : Nat) : Int), .int .u8 ((getB v1_ : Nat) : Int), .int .u64 0, .int .u64 0, .int .u8 0, .int .u8 0, .int .u8 0, .int .u8 0, .int .u8 0, .int .u8 0, .int .u8 0, .int .u8 0, .int .u8 0, .int .u8 0, .int .u8 0, .int .u8 0, .int .u8 0, .int .u8 0, .int .u8 0, .int .u8 0, .int .u8 0, .int .u8 0, .int .u8 0, .int .u8 0, .bool false, .slice none 0 0] 28]) H104) hcut1 (rfl) (hcap1) (h6_1)) (by kernel_rfl) rfl (fun e_ w123 hR => ?_)
          obtain ⟨A114, c115, rfl, H125, hC118, hL119⟩ := hR
          simp only [← hz120, ← hq121, ← hv122] at H125 hC118 hL119 ⊢
          have H124 : Hp w [] [.blk p9 [.slice A114 q121.length c115, .bool z120] 74, .row A10 xs.length c11 5 1 (by8 xs), .blk p3 [.int .u8 0, .int .u8 0, .int .u8 0, .int .u64 0, .int .u64 0, .int .u8 0, .int .u8 0, .int .u8 0, .int .u8 0, .int .u8 0, .int .u8 0, .int .u8 0, .int .u8 0, .int .u8 0, .int .u8 0, .int .u8 0, .int .u8 0, .int .u8 0, .int .u8 0, .int .u8 0, .int .u8 0, .int .u8 0, .int .u8 0, .int .u8 0, .int .u8 0, .bool false, .slice none 0 0] 28, .blk p33 [.int .u8 (o.toNat : Int), .int .u8 ((getB v0_ : Nat) : Int), .int .u8 ((getB v1_ : Nat) : Int), .int .u64 0, .int .u64 0, .int .u8 0, .int .u8 0, .int .u8 0, .int .u8 0, .int .u8 0, .int .u8 0, .int .u8 0, .int .u8 0, .int .u8 0, .int .u8 0, .int .u8 0, .int .u8 0, .int .u8 0, .int .u8 0, .int .u8 0, .int .u8 0, .int .u8 0, .int .u8 0, .int .u8 0, .int .u8 0, .bool false, .slice none 0 0] 28] w123 := Hp.callL (A := [.blk p9 [.slice B1_ q1_.length b1_, .bool z1_] 74, .row A10 xs.length c11 5 1 (by8 xs)]) (B := [.blk p3 [.int .u8 0, .int .u8 0, .int .u8 0, .int .u64 0, .int .u64 0, .int .u8 0, .int .u8 0, .int .u8 0, .int .u8 0, .int .u8 0, .int .u8 0, .int .u8 0, .int .u8 0, .int .u8 0, .int .u8 0, .int .u8 0, .int .u8 0, .int .u8 0, .int .u8 0, .int .u8 0, .int .u8 0, .int .u8 0, .int .u8 0, .int .u8 0, .int .u8 0, .bool false, .slice none 0 0] 28, .blk p33 [.int .u8 (o.toNat : Int), .int .u8 ((getB v0_ : Nat) : Int), .int .u8 ((getB v1_ : Nat) : Int), .int .u64 0, .int .u64 0, .int .u8 0, .int .u8 0, .int .u8 0, .int .u8 0, .int .u8 0, .int .u8 0, .int .u8 0, .int .u8 0, .int .u8 0, .int .u8 0, .int .u8 0, .int .u8 0, .int .u8 0, .int .u8 0, .int .u8 0, .int .u8 0, .int .u8 0, .int .u8 0, .int .u8 0, .int .u8 0, .bool false, .slice none 0 0] 28]) H104 H125
          refine ⟨_, rfl, [2, 4, 5, 6, 35], [(2, pt p3 0), (4, pt p9 0), (5, pt p33 0), (6, .int .i64 (((fm o.toNat) : Nat) : Int)), (35, .int .u64 (((getB v122) : Nat) : Int))], by kernel_rfl, ?_⟩
          refine GL.run (j := 3) 1 [2, 4, 5, 6, 35, 36] [(2, pt p3 0), (4, pt p9 0), (5, pt p33 0), (6, .int .i64 (((fm o.toNat) : Nat) : Int)), (35, .int .u64 (((getB v122) : Nat) : Int)), (36, pt p33 3)] (by kernel_rfl) rfl ?_
          obtain ⟨w126, r127, H128⟩ := H124.st (P := Try.prog) (o := 3) (ty := 23) (v := .int .u64 (((getB v122) : Nat) : Int)) 3 rfl (by kernel_rfl) (by simp) rfl
          have H128 : Hp w [] [.blk p9 [.slice A114 q121.length c115, .bool z120] 74, .row A10 xs.length c11 5 1 (by8 xs), .blk p3 [.int .u8 0, .int .u8 0, .int .u8 0, .int .u64 0, .int .u64 0, .int .u8 0, .int .u8 0, .int .u8 0, .int .u8 0, .int .u8 0, .int .u8 0, .int .u8 0, .int .u8 0, .int .u8 0, .int .u8 0, .int .u8 0, .int .u8 0, .int .u8 0, .int .u8 0, .int .u8 0, .int .u8 0, .int .u8 0, .int .u8 0, .int .u8 0, .int .u8 0, .bool false, .slice none 0 0] 28, .blk p33 [.int .u8 (o.toNat : Int), .int .u8 ((getB v0_ : Nat) : Int), .int .u8 ((getB v1_ : Nat) : Int), .int .u64 (((getB v122) : Nat) : Int), .int .u64 0, .int .u8 0, .int .u8 0, .int .u8 0, .int .u8 0, .int .u8 0, .int .u8 0, .int .u8 0, .int .u8 0, .int .u8 0, .int .u8 0, .int .u8 0, .int .u8 0, .int .u8 0, .int .u8 0, .int .u8 0, .int .u8 0, .int .u8 0, .int .u8 0, .int .u8 0, .int .u8 0, .bool false, .slice none 0 0] 28] w126 := H128
          refine GL.semU (j := 4) r127 [2, 4, 5, 6] [(2, pt p3 0), (4, pt p9 0), (5, pt p33 0), (6, .int .i64 (((fm o.toNat) : Nat) : Int))] (by kernel_rfl) rfl rfl rfl ?_
          refine GL.k rfl hK107 (fun _ _ h => h) ?_
          have H130 : Hp w [] [.blk p9 [.slice A114 q121.length c115, .bool z120] 74, .row A10 xs.length c11 5 1 (by8 xs), .blk p3 [.int .u8 0, .int .u8 0, .int .u8 0, .int .u64 0, .int .u64 0, .int .u8 0, .int .u8 0, .int .u8 0, .int .u8 0, .int .u8 0, .int .u8 0, .int .u8 0, .int .u8 0, .int .u8 0, .int .u8 0, .int .u8 0, .int .u8 0, .int .u8 0, .int .u8 0, .int .u8 0, .int .u8 0, .int .u8 0, .int .u8 0, .int .u8 0, .int .u8 0, .bool false, .slice none 0 0] 28, .blk p33 [.int .u8 (o.toNat : Int), .int .u8 ((getB v0_ : Nat) : Int), .int .u8 ((getB v1_ : Nat) : Int), .int .u64 ((getB v122 : Nat) : Int), .int .u64 0, .int .u8 0, .int .u8 0, .int .u8 0, .int .u8 0, .int .u8 0, .int .u8 0, .int .u8 0, .int .u8 0, .int .u8 0, .int .u8 0, .int .u8 0, .int .u8 0, .int .u8 0, .int .u8 0, .int .u8 0, .int .u8 0, .int .u8 0, .int .u8 0, .int .u8 0, .int .u8 0, .bool false, .slice none 0 0] 28] w126 := H128
          refine G.fit [2, 4, 5, 6] (M' := [(2, pt p3 0), (4, pt p9 0), (5, pt p33 0), (6, .int .i64 (((fm o.toNat) : Nat) : Int))]) (by kernel_rfl) ?_
          exact J105 ⟨z120, q121, v122, A114, c115⟩ _ ⟨⟨⟨fun _ => ⟨hz120, hq121, hv122⟩, fun h_ => absurd hbit2 h_⟩, hlv122, hC118, hL119, h6q121⟩, H130⟩
      · skip
        rintro ⟨z2_, q2_, v2_, B2_, b2_⟩ w131 ⟨hi132, H133⟩
        refine G.eq (M' := [(2, pt p3 0), (4, pt p9 0), (5, pt p33 0), (6, .int .i64 (((fm o.toNat) : Nat) : Int))]) rfl ?_
        have H133 : Hp w [] [.blk p9 [.slice B2_ q2_.length b2_, .bool z2_] 74, .row A10 xs.length c11 5 1 (by8 xs), .blk p3 [.int .u8 0, .int .u8 0, .int .u8 0, .int .u64 0, .int .u64 0, .int .u8 0, .int .u8 0, .int .u8 0, .int .u8 0, .int .u8 0, .int .u8 0, .int .u8 0, .int .u8 0, .int .u8 0, .int .u8 0, .int .u8 0, .int .u8 0, .int .u8 0, .int .u8 0, .int .u8 0, .int .u8 0, .int .u8 0, .int .u8 0, .int .u8 0, .int .u8 0, .bool false, .slice none 0 0] 28, .blk p33 [.int .u8 (o.toNat : Int), .int .u8 ((getB v0_ : Nat) : Int), .int .u8 ((getB v1_ : Nat) : Int), .int .u64 ((getB v2_ : Nat) : Int), .int .u64 0, .int .u8 0, .int .u8 0, .int .u8 0, .int .u8 0, .int .u8 0, .int .u8 0, .int .u8 0, .int .u8 0, .int .u8 0, .int .u8 0, .int .u8 0, .int .u8 0, .int .u8 0, .int .u8 0, .int .u8 0, .int .u8 0, .int .u8 0, .int .u8 0, .int .u8 0, .int .u8 0, .bool false, .slice none 0 0] 28] w131 := H133
        obtain ⟨hst2, hvl2, hcut2, hcap2, h6_2⟩ := hi132
        have hgb2 : getB v2_ < 18446744073709551616 := Nat.lt_of_lt_of_le (getB_lt _) (Nat.le_trans (Nat.pow_le_pow_right (by decide) hvl2) (by decide))
        refine G.seqJ (X := Bool × List UInt8 × List UInt8 × Option Addr × Nat) (fun ⟨z3_, q3_, v3_, B3_, b3_⟩ => [(2, pt p3 0), (4, pt p9 0), (5, pt p33 0), (6, .int .i64 (((fm o.toNat) : Nat) : Int))]) (fun ⟨z3_, q3_, v3_, B3_, b3_⟩ w_ => (Stp (bitP o 3) 8 z2_ q2_ z3_ q3_ v3_ ∧ v3_.length ≤ 8 ∧ Cut A10 xs B3_ q3_ ∧ q3_.length ≤ b3_ ∧ q3_.length ≤ 1000000) ∧ Hp w [] [.blk p9 [.slice B3_ q3_.length b3_, .bool z3_] 74, .row A10 xs.length c11 5 1 (by8 xs), .blk p3 [.int .u8 0, .int .u8 0, .int .u8 0, .int .u64 0, .int .u64 0, .int .u8 0, .int .u8 0, .int .u8 0, .int .u8 0, .int .u8 0, .int .u8 0, .int .u8 0, .int .u8 0, .int .u8 0, .int .u8 0, .int .u8 0, .int .u8 0, .int .u8 0, .int .u8 0, .int .u8 0, .int .u8 0, .int .u8 0, .int .u8 0, .int .u8 0, .int .u8 0, .bool false, .slice none 0 0] 28, .blk p33 [.int .u8 (o.toNat : Int), .int .u8 ((getB v0_ : Nat) : Int), .int .u8 ((getB v1_ : Nat) : Int), .int .u64 ((getB v2_ : Nat) : Int), .int .u64 ((getB v3_ : Nat) : Int), .int .u8 0, .int .u8 0, .int .u8 0, .int .u8 0, .int .u8 0, .int .u8 0, .int .u8 0, .int .u8 0, .int .u8 0, .int .u8 0, .int .u8 0, .int .u8 0, .int .u8 0, .int .u8 0, .int .u8 0, .int .u8 0, .int .u8 0, .int .u8 0, .int .u8 0, .int .u8 0, .bool false, .slice none 0 0] 28] w_) (fun J134 K135 hK136 => ?_) ?_
        · skip
          refine G.seqK fun K137 hK138 => ?_
          refine G.region ?_
          refine GL.run (j := 3) 3 [2, 4, 5, 6, 39] [(2, pt p3 0), (4, pt p9 0), (5, pt p33 0), (6, .int .i64 (((fm o.toNat) : Nat) : Int)), (39, .bool ((Go.bits .and .i64 (((fm o.toNat) : Nat) : Int) 8) != 0))] (by kernel_rfl) rfl ?_
          have e139 : (Go.bits .and .i64 (((fm o.toNat) : Nat) : Int) 8) = ((fm o.toNat / 2 ^ 3 % 2 * 2 ^ 3 : Nat) : Int) := i_andbit (k := 3) (by decide) (fm_lt _)
          refine GL.eq (M' := [(2, pt p3 0), (4, pt p9 0), (5, pt p33 0), (6, .int .i64 (((fm o.toNat) : Nat) : Int)), (39, .bool (((fm o.toNat / 2 ^ 3 % 2 * 2 ^ 3 : Nat) : Int) != 0))]) (by rw [e139]) ?_
          clear e139
          refine GL.k rfl hK138 (fun _ _ h => h) ?_
          cases hb140 : (((fm o.toNat / 2 ^ 3 % 2 * 2 ^ 3 : Nat) : Int) != 0)
          · skip
            have hb140f : ((fm o.toNat / 2 ^ 3 % 2 * 2 ^ 3 : Nat) : Int) = 0 := bne_eq_false_iff_eq.1 hb140
            have hbit3 : ¬ bitP o 3 := by unfold bitP; omega
            refine G.no rfl ?_
            refine G.skipK hK136 (fun _ _ h => h) ?_
            have H142 : Hp w [] [.blk p9 [.slice B2_ q2_.length b2_, .bool z2_] 74, .row A10 xs.length c11 5 1 (by8 xs), .blk p3 [.int .u8 0, .int .u8 0, .int .u8 0, .int .u64 0, .int .u64 0, .int .u8 0, .int .u8 0, .int .u8 0, .int .u8 0, .int .u8 0, .int .u8 0, .int .u8 0, .int .u8 0, .int .u8 0, .int .u8 0, .int .u8 0, .int .u8 0, .int .u8 0, .int .u8 0, .int .u8 0, .int .u8 0, .int .u8 0, .int .u8 0, .int .u8 0, .int .u8 0, .bool false, .slice none 0 0] 28, .blk p33 [.int .u8 (o.toNat : Int), .int .u8 ((getB v0_ : Nat) : Int), .int .u8 ((getB v1_ : Nat) : Int), .int .u64 ((getB v2_ : Nat) : Int), .int .u64 ((getB ([] : List UInt8) : Nat) : Int), .int .u8 0, .int .u8 0, .int .u8 0, .int .u8 0, .int .u8 0, .int .u8 0, .int .u8 0, .int .u8 0, .int .u8 0, .int .u8 0, .int .u8 0, .int .u8 0, .int .u8 0, .int .u8 0, .int .u8 0, .int .u8 0, .int .u8 0, .int .u8 0, .int .u8 0, .int .u8 0, .bool false, .slice none 0 0] 28] w131 := H133
            refine G.fit [2, 4, 5, 6] (M' := [(2, pt p3 0), (4, pt p9 0), (5, pt p33 0), (6, .int .i64 (((fm o.toNat) : Nat) : Int))]) (by kernel_rfl) ?_
            exact J134 ⟨z2_, q2_, ([] : List UInt8), B2_, b2_⟩ _ ⟨⟨⟨fun h_ => absurd h_ hbit3, fun _ => ⟨rfl, rfl, rfl⟩⟩, Nat.zero_le _, hcut2, hcap2, h6_2⟩, H142⟩
          · skip
            have hb140f : ((fm o.toNat / 2 ^ 3 % 2 * 2 ^ 3 : Nat) : Int) ≠ 0 := bne_iff_ne.1 hb140
            have hbit3 : bitP o 3 := by unfold bitP; omega
            refine G.yes rfl ?_
            refine G.region ?_
            refine GL.run (j := 1) 1 [2, 4, 5, 6, 40] [(2, pt p3 0), (4, pt p9 0), (5, pt p33 0), (6, .int .i64 (((fm o.toNat) : Nat) : Int)), (40, pt p9 0)] (by kernel_rfl) rfl ?_
            obtain ⟨z149, hz149⟩ : ∃ z_ : Bool, z_ = (!(rOK z2_ q2_ 8)) := ⟨_, rfl⟩
            obtain ⟨q150, hq150⟩ : ∃ q_ : List UInt8, q_ = rR z2_ q2_ 8 := ⟨_, rfl⟩
            obtain ⟨v151, hv151⟩ : ∃ v_ : List UInt8, v_ = rV z2_ q2_ 8 := ⟨_, rfl⟩
            have h6q150 : q150.length ≤ 1000000 := by rw [hq150]; refine Nat.le_trans (rR_le _ _ _) ?_; first | exact h6_2 | (rw [← rfl]; exact h6_2)
            have hlv151 : v151.length ≤ 8 := by rw [hv151]; exact rV_le _ _ _
            have hbv151 : getB v151 < 18446744073709551616 := Nat.lt_of_lt_of_le (getB_lt v151) (Nat.le_trans (Nat.pow_le_pow_right (by decide) hlv151) (by decide))
            refine GL.call (j := 2) (Get8_calls (ids [.blk p9 [.slice B2_ q2_.length b2_, .bool z2_] 74, .row A10 xs.length c11 5 1 (by8 xs)]) p9 B2_ q2_.length b2_ z2_ A10 xs.length c11 xs q2_ w131 (Hp.startL (A := [.blk p9 [.slice B2_ q2_.length b2_, .bool z2_] 74, .row A10 xs.length c11 5 1 (by8 xs)]) (B := [.blk p3 [.int .u8 0, .int .u8 0, .int .u8 0, .int .u64 0, .int .u64 0, .int .u8 0, .int .u8 0, .int .u8 0, .int .u8 0, .int .u8 0, .int .u8 0, .int .u8 0, .int .u8 0, .int .u8 0, .int .u8 0, .int .u8 0, .int .u8 0, .int .u8 0, .int .u8 0, .int .u8 0, .int .u8 0, .int .u8 0, .int .u8 0, .int .u8 0, .int .u8 0, .bool false, .slice none 0 0] 28, .blk p33 [.int .u8 (o.toNat : Int), .int .u8 ((getB v0_ : Nat) : Int), .int .u8 ((getB v1_ : Nat) : Int), .int .u64 ((getB v2_ : Nat) : Int), .int .u64 0, .int .u8 0, .int .u8 0, .int .u8 0, .int .u8 0, .int .u8 0, .int .u8 0, .int .u8 0, .int .u8 0, .int .u8 0, .int .u8 0, .int .u8 0, .int .u8 0, .int .u8 0, .int .u8 0, .int .u8 0, .int .u8 0, .int .u8 0, .int .u8 0, .int .u8 0, .int .u8 0, .bool false, .slice none 0 0] 28]) H133) hcut2 (rfl) (hcap2) (h6_2)) (by kernel_rfl) rfl (fun e_ w152 hR => ?_)
            obtain ⟨A143, c144, rfl, H154, hC147, hL148⟩ := hR
            simp only [← hz149, ← hq150, ← hv151] at H154 hC147 hL148 ⊢
            have H153 : Hp w [] [.blk p9 [.slice A143 q150.length c144, .bool z149] 74, .row A10 xs.length c11 5 1 (by8 xs), .blk p3 [.int .u8 0, .int .u8 0, .int .u8 0, .int .u64 0, .int .u64 0, .int .u8 0, .int .u8 0, .int .u8 0, .int .u8 0, .int .u8 0, .int .u8 0, .int .u8 0, .int .u8 0, .int .u8 0, .int .u8 0, .int .u8 0, .int .u8 0, .int .u8 0, .int .u8 0, .int .u8 0, .int .u8 0, .int .u8 0, .int .u8 0, .int .u8 0, .int .u8 0, .bool false, .slice none 0 0] 28, .blk p33 [.int .u8 (o.toNat : Int), .int .u8 ((getB v0_ : Nat) : Int), .int .u8 ((getB v1_ : Nat) : Int), .int .u64 ((getB v2_ : Nat) : Int), .int .u64 0, .int .u8 0, .int .u8 0, .int .u8 0, .int .u8 0, .int .u8 0, .int .u8 0, .int .u8 0, .int .u8 0, .int .u8 0, .int .u8 0, .int .u8 0, .int .u8 0, .int .u8 0, .int .u8 0, .int .u8 0, .int .u8 0, .int .u8 0, .int .u8 0, .int .u8 0, .int .u8 0, .bool false, .slice none 0 0] 28] w152 := Hp.callL (A := [.blk p9 [.slice B2_ q2_.length b2_, .bool z2_] 74, .row A10 xs.length c11 5 1 (by8 xs)]) (B := [.blk p3 [.int .u8 0, .int .u8 0, .int .u8 0, .int .u64 0, .int .u64 0, .int .u8 0, .int .u8 0, .int .u8 0, .int .u8 0, .int .u8 0, .int .u8 0, .int .u8 0, .int .u8 0, .int .u8 0, .int .u8 0, .int .u8 0, .int .u8 0, .int .u8 0, .int .u8 0, .int .u8 0, .int .u8 0, .int .u8 0, .int .u8 0, .int .u8 0, .int .u8 0, .bool false, .slice none 0 0] 28, .blk p33 [.int .u8 (o.toNat : Int), .int .u8 ((getB v0_ : Nat) : Int), .int .u8 ((getB v1_ : Nat) : Int), .int .u64 ((getB v2_ : Nat) : Int), .int .u64 0, .int .u8 0, .int .u8 0, .int .u8 0, .int .u8 0, .int .u8 0, .int .u8 0, .int .u8 0, .int .u8 0, .int .u8 0, .int .u8 0, .int .u8 0, .int .u8 0, .int .u8 0, .int .u8 0, .int .u8 0, .int .u8 0, .int .u8 0, .int .u8 0, .int .u8 0, .int .u8 0, .bool false, .slice none 0 0] 28]) H133 H154
            refine ⟨_, rfl, [2, 4, 5, 6, 41], [(2, pt p3 0), (4, pt p9 0), (5, pt p33 0), (6, .int .i64 (((fm o.toNat) : Nat) : Int)), (41, .int .u64 (((getB v151) : Nat) : Int))], by kernel_rfl, ?_⟩
            refine GL.run (j := 3) 1 [2, 4, 5, 6, 41, 42] [(2, pt p3 0), (4, pt p9 0), (5, pt p33 0), (6, .int .i64 (((fm o.toNat) : Nat) : Int)), (41, .int .u64 (((getB v151) : Nat) : Int)), (42, pt p33 4)] (by kernel_rfl) rfl ?_
            obtain ⟨w155, r156, H157⟩ := H153.st (P := Try.prog) (o := 4) (ty := 23) (v := .int .u64 (((getB v151) : Nat) : Int)) 3 rfl (by kernel_rfl) (by simp) rfl
            have H157 : Hp w [] [.blk p9 [.slice A143 q150.length c144, .bool z149] 74, .row A10 xs.length c11 5 1 (by8 xs), .blk p3 [.int .u8 0, .int .u8 0, .int .u8 0, .int .u64 0, .int .u64 0, .int .u8 0, .int .u8 0, .int .u8 0, .int .u8 0, .int .u8 0, .int .u8 0, .int .u8 0, .int .u8 0, .int .u8 0, .int .u8 0, .int .u8 0, .int .u8 0, .int .u8 0, .int .u8 0, .int .u8 0, .int .u8 0, .int .u8 0, .int .u8 0, .int .u8 0, .int .u8 0, .bool false, .slice none 0 0] 28, .blk p33 [.int .u8 (o.toNat : Int), .int .u8 ((getB v0_ : Nat) : Int), .int .u8 ((getB v1_ : Nat) : Int), .int .u64 ((getB v2_ : Nat) : Int), .int .u64 (((getB v151) : Nat) : Int), .int .u8 0, .int .u8 0, .int .u8 0, .int .u8 0, .int .u8 0, .int .u8 0, .int .u8 0, .int .u8 0, .int .u8 0, .int .u8 0, .int .u8 0, .int .u8 0, .int .u8 0, .int .u8 0, .int .u8 0, .int .u8 0, .int .u8 0, .int .u8 0, .int .u8 0, .int .u8 0, .bool false, .slice none 0 0] 28] w155 := H157
            refine GL.semU (j := 4) r156 [2, 4, 5, 6] [(2, pt p3 0), (4, pt p9 0), (5, pt p33 0), (6, .int .i64 (((fm o.toNat) : Nat) : Int))] (by kernel_rfl) rfl rfl rfl ?_
            refine GL.k rfl hK136 (fun _ _ h => h) ?_
            have H159 : Hp w [] [.blk p9 [.slice A143 q150.length c144, .bool z149] 74, .row A10 xs.length c11 5 1 (by8 xs), .blk p3 [.int .u8 0, .int .u8 0, .int .u8 0, .int .u64 0, .int .u64 0, .int .u8 0, .int .u8 0, .int .u8 0, .int .u8 0, .int .u8 0, .int .u8 0, .int .u8 0, .int .u8 0, .int .u8 0, .int .u8 0, .int .u8 0, .int .u8 0, .int .u8 0, .int .u8 0, .int .u8 0, .int .u8 0, .int .u8 0, .int .u8 0, .int .u8 0, .int .u8 0, .bool false, .slice none 0 0] 28, .blk p33 [.int .u8 (o.toNat : Int), .int .u8 ((getB v0_ : Nat) : Int), .int .u8 ((getB v1_ : Nat) : Int), .int .u64 ((getB v2_ : Nat) : Int), .int .u64 ((getB v151 : Nat) : Int), .int .u8 0, .int .u8 0, .int .u8 0, .int .u8 0, .int .u8 0, .int .u8 0, .int .u8 0, .int .u8 0, .int .u8 0, .int .u8 0, .int .u8 0, .int .u8 0, .int .u8 0, .int .u8 0, .int .u8 0, .int .u8 0, .int .u8 0, .int .u8 0, .int .u8 0, .int .u8 0, .bool false, .slice none 0 0] 28] w155 := H157
            refine G.fit [2, 4, 5, 6] (M' := [(2, pt p3 0), (4, pt p9 0), (5, pt p33 0), (6, .int .i64 (((fm o.toNat) : Nat) : Int))]) (by kernel_rfl) ?_
            exact J134 ⟨z149, q150, v151, A143, c144⟩ _ ⟨⟨⟨fun _ => ⟨hz149, hq150, hv151⟩, fun h_ => absurd hbit3 h_⟩, hlv151, hC147, hL148, h6q150⟩, H159⟩
        · skip
          rintro ⟨z3_, q3_, v3_, B3_, b3_⟩ w160 ⟨hi161, H162⟩
          refine G.eq (M' := [(2, pt p3 0), (4, pt p9 0), (5, pt p33 0), (6, .int .i64 (((fm o.toNat) : Nat) : Int))]) rfl ?_
          have H162 : Hp w [] [.blk p9 [.slice B3_ q3_.length b3_, .bool z3_] 74, .row A10 xs.length c11 5 1 (by8 xs), .blk p3 [.int .u8 0, .int .u8 0, .int .u8 0, .int .u64 0, .int .u64 0, .int .u8 0, .int .u8 0, .int .u8 0, .int .u8 0, .int .u8 0, .int .u8 0, .int .u8 0, .int .u8 0, .int .u8 0, .int .u8 0, .int .u8 0, .int .u8 0, .int .u8 0, .int .u8 0, .int .u8 0, .int .u8 0, .int .u8 0, .int .u8 0, .int .u8 0, .int .u8 0, .bool false, .slice none 0 0] 28, .blk p33 [.int .u8 (o.toNat : Int), .int .u8 ((getB v0_ : Nat) : Int), .int .u8 ((getB v1_ : Nat) : Int), .int .u64 ((getB v2_ : Nat) : Int), .int .u64 ((getB v3_ : Nat) : Int), .int .u8 0, .int .u8 0, .int .u8 0, .int .u8 0, .int .u8 0, .int .u8 0, .int .u8 0, .int .u8 0, .int .u8 0, .int .u8 0, .int .u8 0, .int .u8 0, .int .u8 0, .int .u8 0, .int .u8 0, .int .u8 0, .int .u8 0, .int .u8 0, .int .u8 0, .int .u8 0, .bool false, .slice none 0 0] 28] w160 := H162
          obtain ⟨hst3, hvl3, hcut3, hcap3, h6_3⟩ := hi161
          have hgb3 : getB v3_ < 18446744073709551616 := Nat.lt_of_lt_of_le (getB_lt _) (Nat.le_trans (Nat.pow_le_pow_right (by decide) hvl3) (by decide))
          refine G.seqJ (X := Bool × List UInt8 × List UInt8 × Option Addr × Nat) (fun ⟨z4_, q4_, v4_, B4_, b4_⟩ => [(2, pt p3 0), (4, pt p9 0), (5, pt p33 0), (6, .int .i64 (((fm o.toNat) : Nat) : Int))]) (fun ⟨z4_, q4_, v4_, B4_, b4_⟩ w_ => (Stp (bitP o 4) 20 z3_ q3_ z4_ q4_ v4_ ∧ v4_.length ≤ 20 ∧ Cut A10 xs B4_ q4_ ∧ q4_.length ≤ b4_ ∧ q4_.length ≤ 1000000) ∧ Hp w [] [.blk p9 [.slice B4_ q4_.length b4_, .bool z4_] 74, .row A10 xs.length c11 5 1 (by8 xs), .blk p3 [.int .u8 0, .int .u8 0, .int .u8 0, .int .u64 0, .int .u64 0, .int .u8 0, .int .u8 0, .int .u8 0, .int .u8 0, .int .u8 0, .int .u8 0, .int .u8 0, .int .u8 0, .int .u8 0, .int .u8 0, .int .u8 0, .int .u8 0, .int .u8 0, .int .u8 0, .int .u8 0, .int .u8 0, .int .u8 0, .int .u8 0, .int .u8 0, .int .u8 0, .bool false, .slice none 0 0] 28, .blk p33 [.int .u8 (o.toNat : Int), .int .u8 ((getB v0_ : Nat) : Int), .int .u8 ((getB v1_ : Nat) : Int), .int .u64 ((getB v2_ : Nat) : Int), .int .u64 ((getB v3_ : Nat) : Int), .int .u8 ((v4_.getD 0 0).toNat : Int), .int .u8 ((v4_.getD 1 0).toNat : Int), .int .u8 ((v4_.getD 2 0).toNat : Int), .int .u8 ((v4_.getD 3 0).toNat : Int), .int .u8 ((v4_.getD 4 0).toNat : Int), .int .u8 ((v4_.getD 5 0).toNat : Int), .int .u8 ((v4_.getD 6 0).toNat : Int), .int .u8 ((v4_.getD 7 0).toNat : Int), .int .u8 ((v4_.getD 8 0).toNat : Int), .int .u8 ((v4_.getD 9 0).toNat : Int), .int .u8 ((v4_.getD 10 0).toNat : Int), .int .u8 ((v4_.getD 11 0).toNat : Int), .int .u8 ((v4_.getD 12 0).toNat : Int), .int .u8 ((v4_.getD 13 0).toNat : Int), .int .u8 ((v4_.getD 14 0).toNat : Int), .int .u8 ((v4_.getD 15 0).toNat : Int), .int .u8 ((v4_.getD 16 0).toNat : Int), .int .u8 ((v4_.getD 17 0).toNat : Int), .int .u8 ((v4_.getD 18 0).toNat : Int), .int .u8 ((v4_.getD 19 0).toNat : Int), .bool false, .slice none 0 0] 28] w_) (fun J163 K164 hK165 => ?_) ?_
          · skip
            refine G.seqK fun K166 hK167 => ?_
            refine G.region ?_
            refine GL.run (j := 3) 3 [2, 4, 5, 6, 45] [(2, pt p3 0), (4, pt p9 0), (5, pt p33 0), (6, .int .i64 (((fm o.toNat) : Nat) : Int)), (45, .bool ((Go.bits .and .i64 (((fm o.toNat) : Nat) : Int) 16) != 0))] (by kernel_rfl) rfl ?_
            have e168 : (Go.bits .and .i64 (((fm o.toNat) : Nat) : Int) 16) = ((fm o.toNat / 2 ^ 4 % 2 * 2 ^ 4 : Nat) : Int) := i_andbit (k := 4) (by decide) (fm_lt _)
            refine GL.eq (M' := [(2, pt p3 0), (4, pt p9 0), (5, pt p33 0), (6, .int .i64 (((fm o.toNat) : Nat) : Int)), (45, .bool (((fm o.toNat / 2 ^ 4 % 2 * 2 ^ 4 : Nat) : Int) != 0))]) (by rw [e168]) ?_
            clear e168
            refine GL.k rfl hK167 (fun _ _ h => h) ?_
            cases hb169 : (((fm o.toNat / 2 ^ 4 % 2 * 2 ^ 4 : Nat) : Int) != 0)
            · skip
              have hb169f : ((fm o.toNat / 2 ^ 4 % 2 * 2 ^ 4 : Nat) : Int) = 0 := bne_eq_false_iff_eq.1 hb169
              have hbit4 : ¬ bitP o 4 := by unfold bitP; omega
              refine G.no rfl ?_
              refine G.skipK hK165 (fun _ _ h => h) ?_
              have H171 : Hp w [] [.blk p9 [.slice B3_ q3_.length b3_, .bool z3_] 74, .row A10 xs.length c11 5 1 (by8 xs), .blk p3 [.int .u8 0, .int .u8 0, .int .u8 0, .int .u64 0, .int .u64 0, .int .u8 0, .int .u8 0, .int .u8 0, .int .u8 0, .int .u8 0, .int .u8 0, .int .u8 0, .int .u8 0, .int .u8 0, .int .u8 0, .int .u8 0, .int .u8 0, .int .u8 0, .int .u8 0, .int .u8 0, .int .u8 0, .int .u8 0, .int .u8 0, .int .u8 0, .int .u8 0, .bool false, .slice none 0 0] 28, .blk p33 [.int .u8 (o.toNat : Int), .int .u8 ((getB v0_ : Nat) : Int), .int .u8 ((getB v1_ : Nat) : Int), .int .u64 ((getB v2_ : Nat) : Int), .int .u64 ((getB v3_ : Nat) : Int), .int .u8 ((([] : List UInt8).getD 0 0).toNat : Int), .int .u8 ((([] : List UInt8).getD 1 0).toNat : Int), .int .u8 ((([] : List UInt8).getD 2 0).toNat : Int), .int .u8 ((([] : List UInt8).getD 3 0).toNat : Int), .int .u8 ((([] : List UInt8).getD 4 0).toNat : Int), .int .u8 ((([] : List UInt8).getD 5 0).toNat : Int), .int .u8 ((([] : List UInt8).getD 6 0).toNat : Int), .int .u8 ((([] : List UInt8).getD 7 0).toNat : Int), .int .u8 ((([] : List UInt8).getD 8 0).toNat : Int), .int .u8 ((([] : List UInt8).getD 9 0).toNat : Int), .int .u8 ((([] : List UInt8).getD 10 0).toNat : Int), .int .u8 ((([] : List UInt8).getD 11 0).toNat : Int), .int .u8 ((([] : List UInt8).getD 12 0).toNat : Int), .int .u8 ((([] : List UInt8).getD 13 0).toNat : Int), .int .u8 ((([] : List UInt8).getD 14 0).toNat : Int), .int .u8 ((([] : List UInt8).getD 15 0).toNat : Int), .int .u8 ((([] : List UInt8).getD 16 0).toNat : Int), .int .u8 ((([] : List UInt8).getD 17 0).toNat : Int), .int .u8 ((([] : List UInt8).getD 18 0).toNat : Int), .int .u8 ((([] : List UInt8).getD 19 0).toNat : Int), .bool false, .slice none 0 0] 28] w160 := H162
              refine G.fit [2, 4, 5, 6] (M' := [(2, pt p3 0), (4, pt p9 0), (5, pt p33 0), (6, .int .i64 (((fm o.toNat) : Nat) : Int))]) (by kernel_rfl) ?_
              exact J163 ⟨z3_, q3_, ([] : List UInt8), B3_, b3_⟩ _ ⟨⟨⟨fun h_ => absurd h_ hbit4, fun _ => ⟨rfl, rfl, rfl⟩⟩, Nat.zero_le _, hcut3, hcap3, h6_3⟩, H171⟩
            · skip
              have hb169f : ((fm o.toNat / 2 ^ 4 % 2 * 2 ^ 4 : Nat) : Int) ≠ 0 := bne_iff_ne.1 hb169
              have hbit4 : bitP o 4 := by unfold bitP; omega
              refine G.yes rfl ?_
              refine G.heldP (Hp w [] [.row A10 xs.length c11 5 1 (by8 xs), .blk p3 [.int .u8 0, .int .u8 0, .int .u8 0, .int .u64 0, .int .u64 0, .int .u8 0, .int .u8 0, .int .u8 0, .int .u8 0, .int .u8 0, .int .u8 0, .int .u8 0, .int .u8 0, .int .u8 0, .int .u8 0, .int .u8 0, .int .u8 0, .int .u8 0, .int .u8 0, .int .u8 0, .int .u8 0, .int .u8 0, .int .u8 0, .int .u8 0, .int .u8 0, .bool false, .slice none 0 0] 28]) (by kernel_rfl) (by kernel_rfl) (fun c_ a_ d_ v_ w_ h_ => hPan c_ a_ d_ v_ w_ h_) ?_
              have H172 := H162.drew
              generalize ({ w160 with drawn := w160.drawn + 1 } : World) = w173 at H172 ⊢
              have hS174 : Hp w [] [.row A10 xs.length c11 5 1 (by8 xs), .blk p3 [.int .u8 0, .int .u8 0, .int .u8 0, .int .u64 0, .int .u64 0, .int .u8 0, .int .u8 0, .int .u8 0, .int .u8 0, .int .u8 0, .int .u8 0, .int .u8 0, .int .u8 0, .int .u8 0, .int .u8 0, .int .u8 0, .int .u8 0, .int .u8 0, .int .u8 0, .int .u8 0, .int .u8 0, .int .u8 0, .int .u8 0, .int .u8 0, .int .u8 0, .bool false, .slice none 0 0] 28] w173 := H172.sub (List.Sublist.cons _ (List.Sublist.cons_cons _ (List.Sublist.cons_cons _ (List.Sublist.cons _ (List.Sublist.slnil)))))
              refine GP.run [0, 1, 2] [2, 4, 5, 6, 47, 48] [(2, pt p3 0), (4, pt p9 0), (5, pt p33 0), (6, .int .i64 (((fm o.toNat) : Nat) : Int)), (47, .slice (some ⟨p33, 5, none⟩) 20 20), (48, pt p9 0)] [0, 1, 2] (by kernel_rfl) rfl hS174 ?_
              obtain ⟨z181, hz181⟩ : ∃ z_ : Bool, z_ = (!(rOK z3_ q3_ 20)) := ⟨_, rfl⟩
              obtain ⟨q182, hq182⟩ : ∃ q_ : List UInt8, q_ = rR z3_ q3_ 20 := ⟨_, rfl⟩
              obtain ⟨v183, hv183⟩ : ∃ v_ : List UInt8, v_ = rV z3_ q3_ 20 := ⟨_, rfl⟩
              have h6q182 : q182.length ≤ 1000000 := by rw [hq182]; refine Nat.le_trans (rR_le _ _ _) ?_; first | exact h6_3 | (rw [← rfl]; exact h6_3)
              have hlv183 : v183.length ≤ 20 := by rw [hv183]; exact rV_le _ _ _
              have hov183 : v183.length = 20 ∨ v183.length = 0 := by rw [hv183]; exact rV_or _ _ _
              refine GP.call 3 (Raw_calls (ids [.blk p9 [.slice B3_ q3_.length b3_, .bool z3_] 74, .row A10 xs.length c11 5 1 (by8 xs)]) p9 B3_ q3_.length b3_ z3_ A10 xs.length c11 xs q3_ 20 w173 (Hp.startL (A := [.blk p9 [.slice B3_ q3_.length b3_, .bool z3_] 74, .row A10 xs.length c11 5 1 (by8 xs)]) (B := [.blk p3 [.int .u8 0, .int .u8 0, .int .u8 0, .int .u64 0, .int .u64 0, .int .u8 0, .int .u8 0, .int .u8 0, .int .u8 0, .int .u8 0, .int .u8 0, .int .u8 0, .int .u8 0, .int .u8 0, .int .u8 0, .int .u8 0, .int .u8 0, .int .u8 0, .int .u8 0, .int .u8 0, .int .u8 0, .int .u8 0, .int .u8 0, .int .u8 0, .int .u8 0, .bool false, .slice none 0 0] 28, .blk p33 [.int .u8 (o.toNat : Int), .int .u8 ((getB v0_ : Nat) : Int), .int .u8 ((getB v1_ : Nat) : Int), .int .u64 ((getB v2_ : Nat) : Int), .int .u64 ((getB v3_ : Nat) : Int), .int .u8 0, .int .u8 0, .int .u8 0, .int .u8 0, .int .u8 0, .int .u8 0, .int .u8 0, .int .u8 0, .int .u8 0, .int .u8 0, .int .u8 0, .int .u8 0, .int .u8 0, .int .u8 0, .int .u8 0, .int .u8 0, .int .u8 0, .int .u8 0, .int .u8 0, .int .u8 0, .bool false, .slice none 0 0] 28]) H172) hcut3 (rfl) (hcap3) (h6_3)) (by kernel_rfl) (by kernel_rfl) (fun e_ w184 hR => ?_)
              obtain ⟨A175, c176, A177, c178, rfl, H186, hC179, hL180⟩ := hR
              simp only [← hz181, ← hq182, ← hv183] at H186 hC179 hL180 ⊢
              have H185 : Hp w [] [.blk p9 [.slice A175 q182.length c176, .bool z181] 74, .row A10 xs.length c11 5 1 (by8 xs), .row A177 v183.length c178 5 1 (by8 v183), .blk p3 [.int .u8 0, .int .u8 0, .int .u8 0, .int .u64 0, .int .u64 0, .int .u8 0, .int .u8 0, .int .u8 0, .int .u8 0, .int .u8 0, .int .u8 0, .int .u8 0, .int .u8 0, .int .u8 0, .int .u8 0, .int .u8 0, .int .u8 0, .int .u8 0, .int .u8 0, .int .u8 0, .int .u8 0, .int .u8 0, .int .u8 0, .int .u8 0, .int .u8 0, .bool false, .slice none 0 0] 28, .blk p33 [.int .u8 (o.toNat : Int), .int .u8 ((getB v0_ : Nat) : Int), .int .u8 ((getB v1_ : Nat) : Int), .int .u64 ((getB v2_ : Nat) : Int), .int .u64 ((getB v3_ : Nat) : Int), .int .u8 0, .int .u8 0, .int .u8 0, .int .u8 0, .int .u8 0, .int .u8 0, .int .u8 0, .int .u8 0, .int .u8 0, .int .u8 0, .int .u8 0, .int .u8 0, .int .u8 0, .int .u8 0, .int .u8 0, .int .u8 0, .int .u8 0, .int .u8 0, .int .u8 0, .int .u8 0, .bool false, .slice none 0 0] 28] w184 := Hp.callL (A := [.blk p9 [.slice B3_ q3_.length b3_, .bool z3_] 74, .row A10 xs.length c11 5 1 (by8 xs)]) (B := [.blk p3 [.int .u8 0, .int .u8 0, .int .u8 0, .int .u64 0, .int .u64 0, .int .u8 0, .int .u8 0, .int .u8 0, .int .u8 0, .int .u8 0, .int .u8 0, .int .u8 0, .int .u8 0, .int .u8 0, .int .u8 0, .int .u8 0, .int .u8 0, .int .u8 0, .int .u8 0, .int .u8 0, .int .u8 0, .int .u8 0, .int .u8 0, .int .u8 0, .int .u8 0, .bool false, .slice none 0 0] 28, .blk p33 [.int .u8 (o.toNat : Int), .int .u8 ((getB v0_ : Nat) : Int), .int .u8 ((getB v1_ : Nat) : Int), .int .u64 ((getB v2_ : Nat) : Int), .int .u64 ((getB v3_ : Nat) : Int), .int .u8 0, .int .u8 0, .int .u8 0, .int .u8 0, .int .u8 0, .int .u8 0, .int .u8 0, .int .u8 0, .int .u8 0, .int .u8 0, .int .u8 0, .int .u8 0, .int .u8 0, .int .u8 0, .int .u8 0, .int .u8 0, .int .u8 0, .int .u8 0, .int .u8 0, .int .u8 0, .bool false, .slice none 0 0] 28]) H172 H186
              have hS187 : Hp w [] [.row A10 xs.length c11 5 1 (by8 xs), .blk p3 [.int .u8 0, .int .u8 0, .int .u8 0, .int .u64 0, .int .u64 0, .int .u8 0, .int .u8 0, .int .u8 0, .int .u8 0, .int .u8 0, .int .u8 0, .int .u8 0, .int .u8 0, .int .u8 0, .int .u8 0, .int .u8 0, .int .u8 0, .int .u8 0, .int .u8 0, .int .u8 0, .int .u8 0, .int .u8 0, .int .u8 0, .int .u8 0, .int .u8 0, .bool false, .slice none 0 0] 28] w184 := H185.sub (List.Sublist.cons _ (List.Sublist.cons_cons _ (List.Sublist.cons _ (List.Sublist.cons_cons _ (List.Sublist.cons _ (List.Sublist.slnil))))))
              refine ⟨_, rfl, hS187, [2, 4, 5, 6, 47, 49], [(2, pt p3 0), (4, pt p9 0), (5, pt p33 0), (6, .int .i64 (((fm o.toNat) : Nat) : Int)), (47, .slice (some ⟨p33, 5, none⟩) 20 20), (49, .slice A177 v183.length c178)], by kernel_rfl, ?_⟩
              obtain ⟨w188, r189, H190⟩ := H185.copyBlk (P := Try.prog) (o := 5) (n := 20) (c := 20) (m := v183.length) (d := c178) (t := 26) (t2 := 26) (ty := 3) (ys := v183) 4 rfl (by kernel_rfl) (H185.rdRow 2 rfl) (rfl) (by omega) (by simp; omega)
              rw [adr_copied hov183] at H190
              have H190 : Hp w [] [.blk p9 [.slice A175 q182.length c176, .bool z181] 74, .row A10 xs.length c11 5 1 (by8 xs), .row A177 v183.length c178 5 1 (by8 v183), .blk p3 [.int .u8 0, .int .u8 0, .int .u8 0, .int .u64 0, .int .u64 0, .int .u8 0, .int .u8 0, .int .u8 0, .int .u8 0, .int .u8 0, .int .u8 0, .int .u8 0, .int .u8 0, .int .u8 0, .int .u8 0, .int .u8 0, .int .u8 0, .int .u8 0, .int .u8 0, .int .u8 0, .int .u8 0, .int .u8 0, .int .u8 0, .int .u8 0, .int .u8 0, .bool false, .slice none 0 0] 28, .blk p33 [.int .u8 (o.toNat : Int), .int .u8 ((getB v0_ : Nat) : Int), .int .u8 ((getB v1_ : Nat) : Int), .int .u64 ((getB v2_ : Nat) : Int), .int .u64 ((getB v3_ : Nat) : Int), .int .u8 ((v183.getD 0 0).toNat : Int), .int .u8 ((v183.getD 1 0).toNat : Int), .int .u8 ((v183.getD 2 0).toNat : Int), .int .u8 ((v183.getD 3 0).toNat : Int), .int .u8 ((v183.getD 4 0).toNat : Int), .int .u8 ((v183.getD 5 0).toNat : Int), .int .u8 ((v183.getD 6 0).toNat : Int), .int .u8 ((v183.getD 7 0).toNat : Int), .int .u8 ((v183.getD 8 0).toNat : Int), .int .u8 ((v183.getD 9 0).toNat : Int), .int .u8 ((v183.getD 10 0).toNat : Int), .int .u8 ((v183.getD 11 0).toNat : Int), .int .u8 ((v183.getD 12 0).toNat : Int), .int .u8 ((v183.getD 13 0).toNat : Int), .int .u8 ((v183.getD 14 0).toNat : Int), .int .u8 ((v183.getD 15 0).toNat : Int), .int .u8 ((v183.getD 16 0).toNat : Int), .int .u8 ((v183.getD 17 0).toNat : Int), .int .u8 ((v183.getD 18 0).toNat : Int), .int .u8 ((v183.getD 19 0).toNat : Int), .bool false, .slice none 0 0] 28] w188 := H190
              have hS191 : Hp w [] [.row A10 xs.length c11 5 1 (by8 xs), .blk p3 [.int .u8 0, .int .u8 0, .int .u8 0, .int .u64 0, .int .u64 0, .int .u8 0, .int .u8 0, .int .u8 0, .int .u8 0, .int .u8 0, .int .u8 0, .int .u8 0, .int .u8 0, .int .u8 0, .int .u8 0, .int .u8 0, .int .u8 0, .int .u8 0, .int .u8 0, .int .u8 0, .int .u8 0, .int .u8 0, .int .u8 0, .int .u8 0, .int .u8 0, .bool false, .slice none 0 0] 28] w188 := H190.sub (List.Sublist.cons _ (List.Sublist.cons_cons _ (List.Sublist.cons _ (List.Sublist.cons_cons _ (List.Sublist.cons _ (List.Sublist.slnil))))))
              refine GP.made 4 r189 [2, 4, 5, 6] [(2, pt p3 0), (4, pt p9 0), (5, pt p33 0), (6, .int .i64 (((fm o.toNat) : Nat) : Int))] (by kernel_rfl) (by kernel_rfl) (by kernel_rfl) hS191 ?_
              refine GP.k (by kernel_rfl) hK165 (fun _ _ h => h) ?_
              have H192 : Hp w [] [.blk p9 [.slice A175 q182.length c176, .bool z181] 74, .row A10 xs.length c11 5 1 (by8 xs), .blk p3 [.int .u8 0, .int .u8 0, .int .u8 0, .int .u64 0, .int .u64 0, .int .u8 0, .int .u8 0, .int .u8 0, .int .u8 0, .int .u8 0, .int .u8 0, .int .u8 0, .int .u8 0, .int .u8 0, .int .u8 0, .int .u8 0, .int .u8 0, .int .u8 0, .int .u8 0, .int .u8 0, .int .u8 0, .int .u8 0, .int .u8 0, .int .u8 0, .int .u8 0, .bool false, .slice none 0 0] 28, .blk p33 [.int .u8 (o.toNat : Int), .int .u8 ((getB v0_ : Nat) : Int), .int .u8 ((getB v1_ : Nat) : Int), .int .u64 ((getB v2_ : Nat) : Int), .int .u64 ((getB v3_ : Nat) : Int), .int .u8 ((v183.getD 0 0).toNat : Int), .int .u8 ((v183.getD 1 0).toNat : Int), .int .u8 ((v183.getD 2 0).toNat : Int), .int .u8 ((v183.getD 3 0).toNat : Int), .int .u8 ((v183.getD 4 0).toNat : Int), .int .u8 ((v183.getD 5 0).toNat : Int), .int .u8 ((v183.getD 6 0).toNat : Int), .int .u8 ((v183.getD 7 0).toNat : Int), .int .u8 ((v183.getD 8 0).toNat : Int), .int .u8 ((v183.getD 9 0).toNat : Int), .int .u8 ((v183.getD 10 0).toNat : Int), .int .u8 ((v183.getD 11 0).toNat : Int), .int .u8 ((v183.getD 12 0).toNat : Int), .int .u8 ((v183.getD 13 0).toNat : Int), .int .u8 ((v183.getD 14 0).toNat : Int), .int .u8 ((v183.getD 15 0).toNat : Int), .int .u8 ((v183.getD 16 0).toNat : Int), .int .u8 ((v183.getD 17 0).toNat : Int), .int .u8 ((v183.getD 18 0).toNat : Int), .int .u8 ((v183.getD 19 0).toNat : Int), .bool false, .slice none 0 0] 28] w188 := H190.sub (List.Sublist.cons_cons _ (List.Sublist.cons_cons _ (List.Sublist.cons _ (List.Sublist.cons_cons _ (List.Sublist.cons_cons _ (List.Sublist.slnil))))))
              have H194 : Hp w [] [.blk p9 [.slice A175 q182.length c176, .bool z181] 74, .row A10 xs.length c11 5 1 (by8 xs), .blk p3 [.int .u8 0, .int .u8 0, .int .u8 0, .int .u64 0, .int .u64 0, .int .u8 0, .int .u8 0, .int .u8 0, .int .u8 0, .int .u8 0, .int .u8 0, .int .u8 0, .int .u8 0, .int .u8 0, .int .u8 0, .int .u8 0, .int .u8 0, .int .u8 0, .int .u8 0, .int .u8 0, .int .u8 0, .int .u8 0, .int .u8 0, .int .u8 0, .int .u8 0, .bool false, .slice none 0 0] 28, .blk p33 [.int .u8 (o.toNat : Int), .int .u8 ((getB v0_ : Nat) : Int), .int .u8 ((getB v1_ : Nat) : Int), .int .u64 ((getB v2_ : Nat) : Int), .int .u64 ((getB v3_ : Nat) : Int), .int .u8 ((v183.getD 0 0).toNat : Int), .int .u8 ((v183.getD 1 0).toNat : Int), .int .u8 ((v183.getD 2 0).toNat : Int), .int .u8 ((v183.getD 3 0).toNat : Int), .int .u8 ((v183.getD 4 0).toNat : Int), .int .u8 ((v183.getD 5 0).toNat : Int), .int .u8 ((v183.getD 6 0).toNat : Int), .int .u8 ((v183.getD 7 0).toNat : Int), .int .u8 ((v183.getD 8 0).toNat : Int), .int .u8 ((v183.getD 9 0).toNat : Int), .int .u8 ((v183.getD 10 0).toNat : Int), .int .u8 ((v183.getD 11 0).toNat : Int), .int .u8 ((v183.getD 12 0).toNat : Int), .int .u8 ((v183.getD 13 0).toNat : Int), .int .u8 ((v183.getD 14 0).toNat : Int), .int .u8 ((v183.getD 15 0).toNat : Int), .int .u8 ((v183.getD 16 0).toNat : Int), .int .u8 ((v183.getD 17 0).toNat : Int), .int .u8 ((v183.getD 18 0).toNat : Int), .int .u8 ((v183.getD 19 0).toNat : Int), .bool false, .slice none 0 0] 28] w188 := H192
              refine G.fit [2, 4, 5, 6] (M' := [(2, pt p3 0), (4, pt p9 0), (5, pt p33 0), (6, .int .i64 (((fm o.toNat) : Nat) : Int))]) (by kernel_rfl) ?_
              exact J163 ⟨z181, q182, v183, A175, c176⟩ _ ⟨⟨⟨fun _ => ⟨hz181, hq182, hv183⟩, fun h_ => absurd hbit4 h_⟩, hlv183, hC179, hL180, h6q182⟩, H194⟩
          · skip
            rintro ⟨z4_, q4_, v4_, B4_, b4_⟩ w195 ⟨hi196, H197⟩
            refine G.eq (M' := [(2, pt p3 0), (4, pt p9 0), (5, pt p33 0), (6, .int .i64 (((fm o.toNat) : Nat) : Int))]) rfl ?_
            have H197 : Hp w [] [.blk p9 [.slice B4_ q4_.length b4_, .bool z4_] 74, .row A10 xs.length c11 5 1 (by8 xs), .blk p3 [.int .u8 0, .int .u8 0, .int .u8 0, .int .u64 0, .int .u64 0, .int .u8 0, .int .u8 0, .int .u8 0, .int .u8 0, .int .u8 0, .int .u8 0, .int .u8 0, .int .u8 0, .int .u8 0, .int .u8 0, .int .u8 0, .int .u8 0, .int .u8 0, .int .u8 0, .int .u8 0, .int .u8 0, .int .u8 0, .int .u8 0, .int .u8 0, .int .u8 0, .bool false, .slice none 0 0] 28, .blk p33 [.int .u8 (o.toNat : Int), .int .u8 ((getB v0_ : Nat) : Int), .int .u8 ((getB v1_ : Nat) : Int), .int .u64 ((getB v2_ : Nat) : Int), .int .u64 ((getB v3_ : Nat) : Int), .int .u8 ((v4_.getD 0 0).toNat : Int), .int .u8 ((v4_.getD 1 0).toNat : Int), .int .u8 ((v4_.getD 2 0).toNat : Int), .int .u8 ((v4_.getD 3 0).toNat : Int), .int .u8 ((v4_.getD 4 0).toNat : Int), .int .u8 ((v4_.getD 5 0).toNat : Int), .int .u8 ((v4_.getD 6 0).toNat : Int), .int .u8 ((v4_.getD 7 0).toNat : Int), .int .u8 ((v4_.getD 8 0).toNat : Int), .int .u8 ((v4_.getD 9 0).toNat : Int), .int .u8 ((v4_.getD 10 0).toNat : Int), .int .u8 ((v4_.getD 11 0).toNat : Int), .int .u8 ((v4_.getD 12 0).toNat : Int), .int .u8 ((v4_.getD 13 0).toNat : Int), .int .u8 ((v4_.getD 14 0).toNat : Int), .int .u8 ((v4_.getD 15 0).toNat : Int), .int .u8 ((v4_.getD 16 0).toNat : Int), .int .u8 ((v4_.getD 17 0).toNat : Int), .int .u8 ((v4_.getD 18 0).toNat : Int), .int .u8 ((v4_.getD 19 0).toNat : Int), .bool false, .slice none 0 0] 28] w195 := H197
            obtain ⟨hst4, hvl4, hcut4, hcap4, h6_4⟩ := hi196
            refine G.seqK fun K198 hK199 => ?_
            refine G.region ?_
            refine GL.run (j := 1) 1 [2, 4, 5, 6, 7] [(2, pt p3 0), (4, pt p9 0), (5, pt p33 0), (6, .int .i64 (((fm o.toNat) : Nat) : Int)), (7, .int .u64 0)] (by kernel_rfl) rfl ?_
            refine GL.k rfl hK199 (fun _ _ h => h) ?_
            refine G.seqJ (X := Bool × List UInt8 × List UInt8 × Option Addr × Nat) (fun ⟨z5_, q5_, v5_, B5_, b5_⟩ => [(2, pt p3 0), (4, pt p9 0), (5, pt p33 0), (6, .int .i64 (((fm o.toNat) : Nat) : Int)), (7, .int .u64 ((getB v5_ : Nat) : Int))]) (fun ⟨z5_, q5_, v5_, B5_, b5_⟩ w_ => (Stp (bitP o 5) 1 z4_ q4_ z5_ q5_ v5_ ∧ v5_.length ≤ 1 ∧ Cut A10 xs B5_ q5_ ∧ q5_.length ≤ b5_ ∧ q5_.length ≤ 1000000) ∧ Hp w [] [.blk p9 [.slice B5_ q5_.length b5_, .bool z5_] 74, .row A10 xs.length c11 5 1 (by8 xs), .blk p3 [.int .u8 0, .int .u8 0, .int .u8 0, .int .u64 0, .int .u64 0, .int .u8 0, .int .u8 0, .int .u8 0, .int .u8 0, .int .u8 0, .int .u8 0, .int .u8 0, .int .u8 0, .int .u8 0, .int .u8 0, .int .u8 0, .int .u8 0, .int .u8 0, .int .u8 0, .int .u8 0, .int .u8 0, .int .u8 0, .int .u8 0, .int .u8 0, .int .u8 0, .bool false, .slice none 0 0] 28, .blk p33 [.int .u8 (o.toNat : Int), .int .u8 ((getB v0_ : Nat) : Int), .int .u8 ((getB v1_ : Nat) : Int), .int .u64 ((getB v2_ : Nat) : Int), .int .u64 ((getB v3_ : Nat) : Int), .int .u8 ((v4_.getD 0 0).toNat : Int), .int .u8 ((v4_.getD 1 0).toNat : Int), .int .u8 ((v4_.getD 2 0).toNat : Int), .int .u8 ((v4_.getD 3 0).toNat : Int), .int .u8 ((v4_.getD 4 0).toNat : Int), .int .u8 ((v4_.getD 5 0).toNat : Int), .int .u8 ((v4_.getD 6 0).toNat : Int), .int .u8 ((v4_.getD 7 0).toNat : Int), .int .u8 ((v4_.getD 8 0).toNat : Int), .int .u8 ((v4_.getD 9 0).toNat : Int), .int .u8 ((v4_.getD 10 0).toNat : Int), .int .u8 ((v4_.getD 11 0).toNat : Int), .int .u8 ((v4_.getD 12 0).toNat : Int), .int .u8 ((v4_.getD 13 0).toNat : Int), .int .u8 ((v4_.getD 14 0).toNat : Int), .int .u8 ((v4_.getD 15 0).toNat : Int), .int .u8 ((v4_.getD 16 0).toNat : Int), .int .u8 ((v4_.getD 17 0).toNat : Int), .int .u8 ((v4_.getD 18 0).toNat : Int), .int .u8 ((v4_.getD 19 0).toNat : Int), .bool (((getB v5_ : Nat) : Int) == 1), .slice none 0 0] 28] w_) (fun J200 K201 hK202 => ?_) ?_
            · skip
              refine G.seqK fun K203 hK204 => ?_
              refine G.region ?_
              refine GL.run (j := 3) 3 [2, 4, 5, 6, 7, 53] [(2, pt p3 0), (4, pt p9 0), (5, pt p33 0), (6, .int .i64 (((fm o.toNat) : Nat) : Int)), (7, .int .u64 0), (53, .bool ((Go.bits .and .i64 (((fm o.toNat) : Nat) : Int) 32) != 0))] (by kernel_rfl) rfl ?_
              have e205 : (Go.bits .and .i64 (((fm o.toNat) : Nat) : Int) 32) = ((fm o.toNat / 2 ^ 5 % 2 * 2 ^ 5 : Nat) : Int) := i_andbit (k := 5) (by decide) (fm_lt _)
              refine GL.eq (M' := [(2, pt p3 0), (4, pt p9 0), (5, pt p33 0), (6, .int .i64 (((fm o.toNat) : Nat) : Int)), (7, .int .u64 0), (53, .bool (((fm o.toNat / 2 ^ 5 % 2 * 2 ^ 5 : Nat) : Int) != 0))]) (by rw [e205]) ?_
              clear e205
              refine GL.k rfl hK204 (fun _ _ h => h) ?_
              cases hb206 : (((fm o.toNat / 2 ^ 5 % 2 * 2 ^ 5 : Nat) : Int) != 0)
              · skip
                have hb206f : ((fm o.toNat / 2 ^ 5 % 2 * 2 ^ 5 : Nat) : Int) = 0 := bne_eq_false_iff_eq.1 hb206
                have hbit5 : ¬ bitP o 5 := by unfold bitP; omega
                refine G.no rfl ?_
                refine G.skipK hK202 (fun _ _ h => h) ?_
                have H208 : Hp w [] [.blk p9 [.slice B4_ q4_.length b4_, .bool z4_] 74, .row A10 xs.length c11 5 1 (by8 xs), .blk p3 [.int .u8 0, .int .u8 0, .int .u8 0, .int .u64 0, .int .u64 0, .int .u8 0, .int .u8 0, .int .u8 0, .int .u8 0, .int .u8 0, .int .u8 0, .int .u8 0, .int .u8 0, .int .u8 0, .int .u8 0, .int .u8 0, .int .u8 0, .int .u8 0, .int .u8 0, .int .u8 0, .int .u8 0, .int .u8 0, .int .u8 0, .int .u8 0, .int .u8 0, .bool false, .slice none 0 0] 28, .blk p33 [.int .u8 (o.toNat : Int), .int .u8 ((getB v0_ : Nat) : Int), .int .u8 ((getB v1_ : Nat) : Int), .int .u64 ((getB v2_ : Nat) : Int), .int .u64 ((getB v3_ : Nat) : Int), .int .u8 ((v4_.getD 0 0).toNat : Int), .int .u8 ((v4_.getD 1 0).toNat : Int), .int .u8 ((v4_.getD 2 0).toNat : Int), .int .u8 ((v4_.getD 3 0).toNat : Int), .int .u8 ((v4_.getD 4 0).toNat : Int), .int .u8 ((v4_.getD 5 0).toNat : Int), .int .u8 ((v4_.getD 6 0).toNat : Int), .int .u8 ((v4_.getD 7 0).toNat : Int), .int .u8 ((v4_.getD 8 0).toNat : Int), .int .u8 ((v4_.getD 9 0).toNat : Int), .int .u8 ((v4_.getD 10 0).toNat : Int), .int .u8 ((v4_.getD 11 0).toNat : Int), .int .u8 ((v4_.getD 12 0).toNat : Int), .int .u8 ((v4_.getD 13 0).toNat : Int), .int .u8 ((v4_.getD 14 0).toNat : Int), .int .u8 ((v4_.getD 15 0).toNat : Int), .int .u8 ((v4_.getD 16 0).toNat : Int), .int .u8 ((v4_.getD 17 0).toNat : Int), .int .u8 ((v4_.getD 18 0).toNat : Int), .int .u8 ((v4_.getD 19 0).toNat : Int), .bool (((getB ([] : List UInt8) : Nat) : Int) == 1), .slice none 0 0] 28] w195 := H197
                refine G.fit [2, 4, 5, 6, 7] (M' := [(2, pt p3 0), (4, pt p9 0), (5, pt p33 0), (6, .int .i64 (((fm o.toNat) : Nat) : Int)), (7, .int .u64 0)]) (by kernel_rfl) ?_
                refine G.eq (M' := [(2, pt p3 0), (4, pt p9 0), (5, pt p33 0), (6, .int .i64 (((fm o.toNat) : Nat) : Int)), (7, .int .u64 ((getB ([] : List UInt8) : Nat) : Int))]) (by rfl) ?_
                exact J200 ⟨z4_, q4_, ([] : List UInt8), B4_, b4_⟩ _ ⟨⟨⟨fun h_ => absurd h_ hbit5, fun _ => ⟨rfl, rfl, rfl⟩⟩, Nat.zero_le _, hcut4, hcap4, h6_4⟩, H208⟩
              · skip
                have hb206f : ((fm o.toNat / 2 ^ 5 % 2 * 2 ^ 5 : Nat) : Int) ≠ 0 := bne_iff_ne.1 hb206
                have hbit5 : bitP o 5 := by unfold bitP; omega
                refine G.yes rfl ?_
                refine G.seqK fun K209 hK210 => ?_
                refine G.region ?_
                refine GL.run (j := 1) 1 [2, 4, 5, 6, 54] [(2, pt p3 0), (4, pt p9 0), (5, pt p33 0), (6, .int .i64 (((fm o.toNat) : Nat) : Int)), (54, pt p9 0)] (by kernel_rfl) rfl ?_
                obtain ⟨z217, hz217⟩ : ∃ z_ : Bool, z_ = (!(rOK z4_ q4_ 1)) := ⟨_, rfl⟩
                obtain ⟨q218, hq218⟩ : ∃ q_ : List UInt8, q_ = rR z4_ q4_ 1 := ⟨_, rfl⟩
                obtain ⟨v219, hv219⟩ : ∃ v_ : List UInt8, v_ = rV z4_ q4_ 1 := ⟨_, rfl⟩
                have h6q218 : q218.length ≤ 1000000 := by rw [hq218]; refine Nat.le_trans (rR_le _ _ _) ?_; first | exact h6_4 | (rw [← rfl]; exact h6_4)
                have hlv219 : v219.length ≤ 1 := by rw [hv219]; exact rV_le _ _ _
                have hbv219 : getB v219 < 256 := Nat.lt_of_lt_of_le (getB_lt v219) (Nat.le_trans (Nat.pow_le_pow_right (by decide) hlv219) (by decide))
                refine GL.call (j := 2) (Get1_calls (ids [.blk p9 [.slice B4_ q4_.length b4_, .bool z4_] 74, .row A10 xs.length c11 5 1 (by8 xs)]) p9 B4_ q4_.length b4_ z4_ A10 xs.length c11 xs q4_ w195 (Hp.startL (A := [.blk p9 [.slice B4_ q4_.length b4_, .bool z4_] 74, .row A10 xs.length c11 5 1 (by8 xs)]) (B := [.blk p3 [.int .u8 0, .int .u8 0, .int .u8 0, .int .u64 0, .int .u64 0, .int .u8 0, .int .u8 0, .int .u8 0, .int .u8 0, .int .u8 0, .int .u8 0, .int .u8 0, .int .u8 0, .int .u8 0, .int .u8 0, .int .u8 0, .int .u8 0, .int .u8 0, .int .u8 0, .int .u8 0, .int .u8 0, .int .u8 0, .int .u8 0, .int .u8 0, .int .u8 0, .bool false, .slice none 0 0] 28, .blk p33 [.int .u8 (o.toNat : Int), .int .u8 ((getB v0_ : Nat) : Int), .int .u8 ((getB v1_ : Nat) : Int), .int .u64 ((getB v2_ : Nat) : Int), .int .u64 ((getB v3_ : Nat) : Int), .int .u8 ((v4_.getD 0 0).toNat : Int), .int .u8 ((v4_.getD 1 0).toNat : Int), .int .u8 ((v4_.getD 2 0).toNat : Int), .int .u8 ((v4_.getD 3 0).toNat : Int), .int .u8 ((v4_.getD 4 0).toNat : Int), .int .u8 ((v4_.getD 5 0).toNat : Int), .int .u8 ((v4_.getD 6 0).toNat : Int), .int .u8 ((v4_.getD 7 0).toNat : Int), .int .u8 ((v4_.getD 8 0).toNat : Int), .int .u8 ((v4_.getD 9 0).toNat : Int), .int .u8 ((v4_.getD 10 0).toNat : Int), .int .u8 ((v4_.getD 11 0).toNat : Int), .int .u8 ((v4_.getD 12 0).toNat : Int), .int .u8 ((v4_.getD 13 0).toNat : Int), .int .u8 ((v4_.getD 14 0).toNat : Int), .int .u8 ((v4_.getD 15 0).toNat : Int), .int .u8 ((v4_.getD 16 0).toNat : Int), .int .u8 ((v4_.getD 17 0).toNat : Int), .int .u8 ((v4_.getD 18 0).toNat : Int), .int .u8 ((v4_.getD 19 0).toNat : Int), .bool false, .slice none 0 0] 28]) H197) hcut4 (rfl) (hcap4) (h6_4)) (by kernel_rfl) rfl (fun e_ w220 hR => ?_)
                obtain ⟨A211, c212, rfl, H222, hC215, hL216⟩ := hR
                simp only [← hz217, ← hq218, ← hv219] at H222 hC215 hL216 ⊢
                have H221 : Hp w [] [.blk p9 [.slice A211 q218.length c212, .bool z217] 74, .row A10 xs.length c11 5 1 (by8 xs), .blk p3 [.int .u8 0, .int .u8 0, .int .u8 0, .int .u64 0, .int .u64 0, .int .u8 0, .int .u8 0, .int .u8 0, .int .u8 0, .int .u8 0, .int .u8 0, .int .u8 0, .int .u8 0, .int .u8 0, .int .u8 0, .int .u8 0, .int .u8 0, .int .u8 0, .int .u8 0, .int .u8 0, .int .u8 0, .int .u8 0, .int .u8 0, .int .u8 0, .int .u8 0, .bool false, .slice none 0 0] 28, .blk p33 [.int .u8 (o.toNat : Int), .int .u8 ((getB v0_ : Nat) : Int), .int .u8 ((getB v1_ : Nat) : Int), .int .u64 ((getB v2_ : Nat) : Int), .int .u64 ((getB v3_ : Nat) : Int), .int .u8 ((v4_.getD 0 0).toNat : Int), .int .u8 ((v4_.getD 1 0).toNat : Int), .int .u8 ((v4_.getD 2 0).toNat : Int), .int .u8 ((v4_.getD 3 0).toNat : Int), .int .u8 ((v4_.getD 4 0).toNat : Int), .int .u8 ((v4_.getD 5 0).toNat : Int), .int .u8 ((v4_.getD 6 0).toNat : Int), .int .u8 ((v4_.getD 7 0).toNat : Int), .int .u8 ((v4_.getD 8 0).toNat : Int), .int .u8 ((v4_.getD 9 0).toNat : Int), .int .u8 ((v4_.getD 10 0).toNat : Int), .int .u8 ((v4_.getD 11 0).toNat : Int), .int .u8 ((v4_.getD 12 0).toNat : Int), .int .u8 ((v4_.getD 13 0).toNat : Int), .int .u8 ((v4_.getD 14 0).toNat : Int), .int .u8 ((v4_.getD 15 0).toNat : Int), .int .u8 ((v4_.getD 16 0).toNat : Int), .int .u8 ((v4_.getD 17 0).toNat : Int), .int .u8 ((v4_.getD 18 0).toNat : Int), .int .u8 ((v4_.getD 19 0).toNat : Int), .bool false, .slice none 0 0] 28] w220 := Hp.callL (A := [.blk p9 [.slice B4_ q4_.length b4_, .bool z4_] 74, .row A10 xs.length c11 5 1 (by8 xs)]) (B := [.blk p3 [.int .u8 0, .int .u8 0, .int .u8 0, .int .u64 0, .int .u64 0, .int .u8 0, .int .u8 0, .int .u8 0, .int .u8 0, .int .u8 0, .int .u8 0, .int .u8 0, .int .u8 0, .int .u8 0, .int .u8 0, .int .u8 0, .int .u8 0, .int .u8 0, .int .u8 0, .int .u8 0, .int .u8 0, .int .u8 0, .int .u8 0, .int .u8 0, .int .u8 0, .bool false, .slice none 0 0] 28, .blk p33 [.int .u8 (o.toNat : Int), .int .u8 ((getB v0_ : Nat) : Int), .int .u8 ((getB v1_ : Nat) : Int), .int .u64 ((getB v2_ : Nat) : Int), .int .u64 ((getB v3_ : Nat) : Int), .int .u8 ((v4_.getD 0 0).toNat : Int), .int .u8 ((v4_.getD 1 0).toNat : Int), .int .u8 ((v4_.getD 2 0).toNat : Int), .int .u8 ((v4_.getD 3 0).toNat : Int), .int .u8 ((v4_.getD 4 0).toNat : Int), .int .u8 ((v4_.getD 5 0).toNat : Int), .int .u8 ((v4_.getD 6 0).toNat : Int), .int .u8 ((v4_.getD 7 0).toNat : Int), .int .u8 ((v4_.getD 8 0).toNat : Int), .int .u8 ((v4_.getD 9 0).toNat : Int), .int .u8 ((v4_.getD 10 0).toNat : Int), .int .u8 ((v4_.getD 11 0).toNat : Int), .int .u8 ((v4_.getD 12 0).toNat : Int), .int .u8 ((v4_.getD 13 0).toNat : Int), .int .u8 ((v4_.getD 14 0).toNat : Int), .int .u8 ((v4_.getD 15 0).toNat : Int), .int .u8 ((v4_.getD 16 0).toNat : Int), .int .u8 ((v4_.getD 17 0).toNat : Int), .int .u8 ((v4_.getD 18 0).toNat : Int), .int .u8 ((v4_.getD 19 0).toNat : Int), .bool false, .slice none 0 0] 28]) H197 H222
                refine ⟨_, rfl, [2, 4, 5, 6, 55], [(2, pt p3 0), (4, pt p9 0), (5, pt p33 0), (6, .int .i64 (((fm o.toNat) : Nat) : Int)), (55, .int .u64 (((getB v219) : Nat) : Int))], by kernel_rfl, ?_⟩
                refine GL.run (j := 3) 1 [2, 4, 5, 6, 7] [(2, pt p3 0), (4, pt p9 0), (5, pt p33 0), (6, .int .i64 (((fm o.toNat) : Nat) : Int)), (7, .int .u64 (((getB v219) : Nat) : Int))] (by kernel_rfl) rfl ?_
                refine GL.k rfl hK210 (fun _ _ h => h) ?_
                refine G.region ?_
                refine GL.run (j := 3) 3 [2, 4, 5, 6, 7, 57, 58] [(2, pt p3 0), (4, pt p9 0), (5, pt p33 0), (6, .int .i64 (((fm o.toNat) : Nat) : Int)), (7, .int .u64 (((getB v219) : Nat) : Int)), (57, .bool ((((getB v219) : Nat) : Int) == 1)), (58, pt p33 25)] (by kernel_rfl) rfl ?_
                obtain ⟨w223, r224, H225⟩ := H221.st (P := Try.prog) (o := 25) (ty := 4) (v := .bool ((((getB v219) : Nat) : Int) == 1)) 3 rfl (by kernel_rfl) (by simp) rfl
                have H225 : Hp w [] [.blk p9 [.slice A211 q218.length c212, .bool z217] 74, .row A10 xs.length c11 5 1 (by8 xs), .blk p3 [.int .u8 0, .int .u8 0, .int .u8 0, .int .u64 0, .int .u64 0, .int .u8 0, .int .u8 0, .int .u8 0, .int .u8 0, .int .u8 0, .int .u8 0, .int .u8 0, .int .u8 0, .int .u8 0, .int .u8 0, .int .u8 0, .int .u8 0, .int .u8 0, .int .u8 0, .int .u8 0, .int .u8 0, .int .u8 0, .int .u8 0, .int .u8 0, .int .u8 0, .bool false, .slice none 0 0] 28, .blk p33 [.int .u8 (o.toNat : Int), .int .u8 ((getB v0_ : Nat) : Int), .int .u8 ((getB v1_ : Nat) : Int), .int .u64 ((getB v2_ : Nat) : Int), .int .u64 ((getB v3_ : Nat) : Int), .int .u8 ((v4_.getD 0 0).toNat : Int), .int .u8 ((v4_.getD 1 0).toNat : Int), .int .u8 ((v4_.getD 2 0).toNat : Int), .int .u8 ((v4_.getD 3 0).toNat : Int), .int .u8 ((v4_.getD 4 0).toNat : Int), .int .u8 ((v4_.getD 5 0).toNat : Int), .int .u8 ((v4_.getD 6 0).toNat : Int), .int .u8 ((v4_.getD 7 0).toNat : Int), .int .u8 ((v4_.getD 8 0).toNat : Int), .int .u8 ((v4_.getD 9 0).toNat : Int), .int .u8 ((v4_.getD 10 0).toNat : Int), .int .u8 ((v4_.getD 11 0).toNat : Int), .int .u8 ((v4_.getD 12 0).toNat : Int), .int .u8 ((v4_.getD 13 0).toNat : Int), .int .u8 ((v4_.getD 14 0).toNat : Int), .int .u8 ((v4_.getD 15 0).toNat : Int), .int .u8 ((v4_.getD 16 0).toNat : Int), .int .u8 ((v4_.getD 17 0).toNat : Int), .int .u8 ((v4_.getD 18 0).toNat : Int), .int .u8 ((v4_.getD 19 0).toNat : Int), .bool ((((getB v219) : Nat) : Int) == 1), .slice none 0 0] 28] w223 := H225
                refine GL.semU (j := 4) r224 [2, 4, 5, 6, 7] [(2, pt p3 0), (4, pt p9 0), (5, pt p33 0), (6, .int .i64 (((fm o.toNat) : Nat) : Int)), (7, .int .u64 (((getB v219) : Nat) : Int))] (by kernel_rfl) rfl rfl rfl ?_
                refine GL.k rfl hK202 (fun _ _ h => h) ?_
                have H227 : Hp w [] [.blk p9 [.slice A211 q218.length c212, .bool z217] 74, .row A10 xs.length c11 5 1 (by8 xs), .blk p3 [.int .u8 0, .int .u8 0, .int .u8 0, .int .u64 0, .int .u64 0, .int .u8 0, .int .u8 0, .int .u8 0, .int .u8 0, .int .u8 0, .int .u8 0, .int .u8 0, .int .u8 0, .int .u8 0, .int .u8 0, .int .u8 0, .int .u8 0, .int .u8 0, .int .u8 0, .int .u8 0, .int .u8 0, .int .u8 0, .int .u8 0, .int .u8 0, .int .u8 0, .bool false, .slice none 0 0] 28, .blk p33 [.int .u8 (o.toNat : Int), .int .u8 ((getB v0_ : Nat) : Int), .int .u8 ((getB v1_ : Nat) : Int), .int .u64 ((getB v2_ : Nat) : Int), .int .u64 ((getB v3_ : Nat) : Int), .int .u8 ((v4_.getD 0 0).toNat : Int), .int .u8 ((v4_.getD 1 0).toNat : Int), .int .u8 ((v4_.getD 2 0).toNat : Int), .int .u8 ((v4_.getD 3 0).toNat : Int), .int .u8 ((v4_.getD 4 0).toNat : Int), .int .u8 ((v4_.getD 5 0).toNat : Int), .int .u8 ((v4_.getD 6 0).toNat : Int), .int .u8 ((v4_.getD 7 0).toNat : Int), .int .u8 ((v4_.getD 8 0).toNat : Int), .int .u8 ((v4_.getD 9 0).toNat : Int), .int .u8 ((v4_.getD 10 0).toNat : Int), .int .u8 ((v4_.getD 11 0).toNat : Int), .int .u8 ((v4_.getD 12 0).toNat : Int), .int .u8 ((v4_.getD 13 0).toNat : Int), .int .u8 ((v4_.getD 14 0).toNat : Int), .int .u8 ((v4_.getD 15 0).toNat : Int), .int .u8 ((v4_.getD 16 0).toNat : Int), .int .u8 ((v4_.getD 17 0).toNat : Int), .int .u8 ((v4_.getD 18 0).toNat : Int), .int .u8 ((v4_.getD 19 0).toNat : Int), .bool (((getB v219 : Nat) : Int) == 1), .slice none 0 0] 28] w223 := H225
                refine G.fit [2, 4, 5, 6, 7] (M' := [(2, pt p3 0), (4, pt p9 0), (5, pt p33 0), (6, .int .i64 (((fm o.toNat) : Nat) : Int)), (7, .int .u64 (((getB v219) : Nat) : Int))]) (by kernel_rfl) ?_
                refine G.eq (M' := [(2, pt p3 0), (4, pt p9 0), (5, pt p33 0), (6, .int .i64 (((fm o.toNat) : Nat) : Int)), (7, .int .u64 ((getB v219 : Nat) : Int))]) (by rfl) ?_
                exact J200 ⟨z217, q218, v219, A211, c212⟩ _ ⟨⟨⟨fun _ => ⟨hz217, hq218, hv219⟩, fun h_ => absurd hbit5 h_⟩, hlv219, hC215, hL216, h6q218⟩, H227⟩
            · skip
              rintro ⟨z5_, q5_, v5_, B5_, b5_⟩ w228 ⟨hi229, H230⟩
              refine G.eq (M' := [(2, pt p3 0), (4, pt p9 0), (5, pt p33 0), (6, .int .i64 (((fm o.toNat) : Nat) : Int)), (7, .int .u64 ((getB v5_ : Nat) : Int))]) rfl ?_
              have H230 : Hp w [] [.blk p9 [.slice B5_ q5_.length b5_, .bool z5_] 74, .row A10 xs.length c11 5 1 (by8 xs), .blk p3 [.int .u8 0, .int .u8 0, .int .u8 0, .int .u64 0, .int .u64 0, .int .u8 0, .int .u8 0, .int .u8 0, .int .u8 0, .int .u8 0, .int .u8 0, .int .u8 0, .int .u8 0, .int .u8 0, .int .u8 0, .int .u8 0, .int .u8 0, .int .u8 0, .int .u8 0, .int .u8 0, .int .u8 0, .int .u8 0, .int .u8 0, .int .u8 0, .int .u8 0, .bool false, .slice none 0 0] 28, .blk p33 [.int .u8 (o.toNat : Int), .int .u8 ((getB v0_ : Nat) : Int), .int .u8 ((getB v1_ : Nat) : Int), .int .u64 ((getB v2_ : Nat) : Int), .int .u64 ((getB v3_ : Nat) : Int), .int .u8 ((v4_.getD 0 0).toNat : Int), .int .u8 ((v4_.getD 1 0).toNat : Int), .int .u8 ((v4_.getD 2 0).toNat : Int), .int .u8 ((v4_.getD 3 0).toNat : Int), .int .u8 ((v4_.getD 4 0).toNat : Int), .int .u8 ((v4_.getD 5 0).toNat : Int), .int .u8 ((v4_.getD 6 0).toNat : Int), .int .u8 ((v4_.getD 7 0).toNat : Int), .int .u8 ((v4_.getD 8 0).toNat : Int), .int .u8 ((v4_.getD 9 0).toNat : Int), .int .u8 ((v4_.getD 10 0).toNat : Int), .int .u8 ((v4_.getD 11 0).toNat : Int), .int .u8 ((v4_.getD 12 0).toNat : Int), .int .u8 ((v4_.getD 13 0).toNat : Int), .int .u8 ((v4_.getD 14 0).toNat : Int), .int .u8 ((v4_.getD 15 0).toNat : Int), .int .u8 ((v4_.getD 16 0).toNat : Int), .int .u8 ((v4_.getD 17 0).toNat : Int), .int .u8 ((v4_.getD 18 0).toNat : Int), .int .u8 ((v4_.getD 19 0).toNat : Int), .bool (((getB v5_ : Nat) : Int) == 1), .slice none 0 0] 28] w228 := H230
              obtain ⟨hst5, hvl5, hcut5, hcap5, h6_5⟩ := hi229
              have hgb5 : getB v5_ < 256 := Nat.lt_of_lt_of_le (getB_lt _) (Nat.le_trans (Nat.pow_le_pow_right (by decide) hvl5) (by decide))
              refine G.seqJ (X := Bool × List UInt8 × List UInt8 × Option Addr × Nat × Option Addr × Nat) (fun ⟨z6_, q6_, v6_, B6_, b6_, D_, d_⟩ => [(2, pt p3 0), (4, pt p9 0), (5, pt p33 0), (6, .int .i64 (((fm o.toNat) : Nat) : Int)), (7, .int .u64 ((getB v5_ : Nat) : Int))]) (fun ⟨z6_, q6_, v6_, B6_, b6_, D_, d_⟩ w_ => (StpC (bitP o 6) 8192 z5_ q5_ z6_ q6_ v6_ ∧ v6_.length ≤ 8192 ∧ Cut A10 xs B6_ q6_ ∧ q6_.length ≤ b6_ ∧ q6_.length ≤ 1000000) ∧ Hp w [] [.blk p9 [.slice B6_ q6_.length b6_, .bool z6_] 74, .row A10 xs.length c11 5 1 (by8 xs), .blk p3 [.int .u8 0, .int .u8 0, .int .u8 0, .int .u64 0, .int .u64 0, .int .u8 0, .int .u8 0, .int .u8 0, .int .u8 0, .int .u8 0, .int .u8 0, .int .u8 0, .int .u8 0, .int .u8 0, .int .u8 0, .int .u8 0, .int .u8 0, .int .u8 0, .int .u8 0, .int .u8 0, .int .u8 0, .int .u8 0, .int .u8 0, .int .u8 0, .int .u8 0, .bool false, .slice none 0 0] 28, .blk p33 [.int .u8 (o.toNat : Int), .int .u8 ((getB v0_ : Nat) : Int), .int .u8 ((getB v1_ : Nat) : Int), .int .u64 ((getB v2_ : Nat) : Int), .int .u64 ((getB v3_ : Nat) : Int), .int .u8 ((v4_.getD 0 0).toNat : Int), .int .u8 ((v4_.getD 1 0).toNat : Int), .int .u8 ((v4_.getD 2 0).toNat : Int), .int .u8 ((v4_.getD 3 0).toNat : Int), .int .u8 ((v4_.getD 4 0).toNat : Int), .int .u8 ((v4_.getD 5 0).toNat : Int), .int .u8 ((v4_.getD 6 0).toNat : Int), .int .u8 ((v4_.getD 7 0).toNat : Int), .int .u8 ((v4_.getD 8 0).toNat : Int), .int .u8 ((v4_.getD 9 0).toNat : Int), .int .u8 ((v4_.getD 10 0).toNat : Int), .int .u8 ((v4_.getD 11 0).toNat : Int), .int .u8 ((v4_.getD 12 0).toNat : Int), .int .u8 ((v4_.getD 13 0).toNat : Int), .int .u8 ((v4_.getD 14 0).toNat : Int), .int .u8 ((v4_.getD 15 0).toNat : Int), .int .u8 ((v4_.getD 16 0).toNat : Int), .int .u8 ((v4_.getD 17 0).toNat : Int), .int .u8 ((v4_.getD 18 0).toNat : Int), .int .u8 ((v4_.getD 19 0).toNat : Int), .bool (((getB v5_ : Nat) : Int) == 1), .slice D_ v6_.length d_] 28, .row D_ v6_.length d_ 5 1 (by8 v6_)] w_) (fun J231 K232 hK233 => ?_) ?_
              · skip
                refine G.seqK fun K234 hK235 => ?_
                refine G.region ?_
                refine GL.run (j := 3) 3 [2, 4, 5, 6, 7, 61] [(2, pt p3 0), (4, pt p9 0), (5, pt p33 0), (6, .int .i64 (((fm o.toNat) : Nat) : Int)), (7, .int .u64 ((getB v5_ : Nat) : Int)), (61, .bool ((Go.bits .and .i64 (((fm o.toNat) : Nat) : Int) 64) != 0))] (by kernel_rfl) rfl ?_
                have e236 : (Go.bits .and .i64 (((fm o.toNat) : Nat) : Int) 64) = ((fm o.toNat / 2 ^ 6 % 2 * 2 ^ 6 : Nat) : Int) := i_andbit (k := 6) (by decide) (fm_lt _)
                refine GL.eq (M' := [(2, pt p3 0), (4, pt p9 0), (5, pt p33 0), (6, .int .i64 (((fm o.toNat) : Nat) : Int)), (7, .int .u64 ((getB v5_ : Nat) : Int)), (61, .bool (((fm o.toNat / 2 ^ 6 % 2 * 2 ^ 6 : Nat) : Int) != 0))]) (by rw [e236]) ?_
                clear e236
                refine GL.k rfl hK235 (fun _ _ h => h) ?_
                cases hb237 : (((fm o.toNat / 2 ^ 6 % 2 * 2 ^ 6 : Nat) : Int) != 0)
                · skip
                  have hb237f : ((fm o.toNat / 2 ^ 6 % 2 * 2 ^ 6 : Nat) : Int) = 0 := bne_eq_false_iff_eq.1 hb237
                  have hbit6 : ¬ bitP o 6 := by unfold bitP; omega
                  refine G.no rfl ?_
                  refine G.skipK hK233 (fun _ _ h => h) ?_
                  have H239 := H230.rowNil 5 1
                  have H240 : Hp w [] [.blk p9 [.slice B5_ q5_.length b5_, .bool z5_] 74, .row A10 xs.length c11 5 1 (by8 xs), .blk p3 [.int .u8 0, .int .u8 0, .int .u8 0, .int .u64 0, .int .u64 0, .int .u8 0, .int .u8 0, .int .u8 0, .int .u8 0, .int .u8 0, .int .u8 0, .int .u8 0, .int .u8 0, .int .u8 0, .int .u8 0, .int .u8 0, .int .u8 0, .int .u8 0, .int .u8 0, .int .u8 0, .int .u8 0, .int .u8 0, .int .u8 0, .int .u8 0, .int .u8 0, .bool false, .slice none 0 0] 28, .blk p33 [.int .u8 (o.toNat : Int), .int .u8 ((getB v0_ : Nat) : Int), .int .u8 ((getB v1_ : Nat) : Int), .int .u64 ((getB v2_ : Nat) : Int), .int .u64 ((getB v3_ : Nat) : Int), .int .u8 ((v4_.getD 0 0).toNat : Int), .int .u8 ((v4_.getD 1 0).toNat : Int), .int .u8 ((v4_.getD 2 0).toNat : Int), .int .u8 ((v4_.getD 3 0).toNat : Int), .int .u8 ((v4_.getD 4 0).toNat : Int), .int .u8 ((v4_.getD 5 0).toNat : Int), .int .u8 ((v4_.getD 6 0).toNat : Int), .int .u8 ((v4_.getD 7 0).toNat : Int), .int .u8 ((v4_.getD 8 0).toNat : Int), .int .u8 ((v4_.getD 9 0).toNat : Int), .int .u8 ((v4_.getD 10 0).toNat : Int), .int .u8 ((v4_.getD 11 0).toNat : Int), .int .u8 ((v4_.getD 12 0).toNat : Int), .int .u8 ((v4_.getD 13 0).toNat : Int), .int .u8 ((v4_.getD 14 0).toNat : Int), .int .u8 ((v4_.getD 15 0).toNat : Int), .int .u8 ((v4_.getD 16 0).toNat : Int), .int .u8 ((v4_.getD 17 0).toNat : Int), .int .u8 ((v4_.getD 18 0).toNat : Int), .int .u8 ((v4_.getD 19 0).toNat : Int), .bool (((getB v5_ : Nat) : Int) == 1), .slice none (([] : List UInt8).length) 0] 28, .row none (([] : List UInt8).length) 0 5 1 (by8 ([] : List UInt8))] w228 := H239
                  refine G.fit [2, 4, 5, 6, 7] (M' := [(2, pt p3 0), (4, pt p9 0), (5, pt p33 0), (6, .int .i64 (((fm o.toNat) : Nat) : Int)), (7, .int .u64 ((getB v5_ : Nat) : Int))]) (by kernel_rfl) ?_
                  exact J231 ⟨z5_, q5_, ([] : List UInt8), B5_, b5_, none, 0⟩ _ ⟨⟨⟨fun h_ => absurd h_ hbit6, fun _ => ⟨rfl, rfl, rfl⟩⟩, Nat.zero_le _, hcut5, hcap5, h6_5⟩, H240⟩
                · skip
                  have hb237f : ((fm o.toNat / 2 ^ 6 % 2 * 2 ^ 6 : Nat) : Int) ≠ 0 := bne_iff_ne.1 hb237
                  have hbit6 : bitP o 6 := by unfold bitP; omega
                  refine G.yes rfl ?_
                  refine G.region ?_
                  refine GL.run (j := 1) 1 [2, 4, 5, 6, 7, 62] [(2, pt p3 0), (4, pt p9 0), (5, pt p33 0), (6, .int .i64 (((fm o.toNat) : Nat) : Int)), (7, .int .u64 ((getB v5_ : Nat) : Int)), (62, pt p9 0)] (by kernel_rfl) rfl ?_
                  obtain ⟨z247, hz247⟩ : ∃ z_ : Bool, z_ = (!(cdOK z5_ q5_ 8192)) := ⟨_, rfl⟩
                  obtain ⟨q248, hq248⟩ : ∃ q_ : List UInt8, q_ = cdR z5_ q5_ 8192 := ⟨_, rfl⟩
                  obtain ⟨v249, hv249⟩ : ∃ v_ : List UInt8, v_ = cdV z5_ q5_ 8192 := ⟨_, rfl⟩
                  have h6q248 : q248.length ≤ 1000000 := by rw [hq248]; refine Nat.le_trans (cdR_le _ _ _) ?_; first | exact h6_5 | (rw [← rfl]; exact h6_5)
                  refine GL.call (j := 2) (RCounted_calls (ids [.blk p9 [.slice B5_ q5_.length b5_, .bool z5_] 74, .row A10 xs.length c11 5 1 (by8 xs)]) p9 B5_ q5_.length b5_ z5_ A10 xs.length c11 xs q5_ 8192 w228 (Hp.startL (A := [.blk p9 [.slice B5_ q5_.length b5_, .bool z5_] 74, .row A10 xs.length c11 5 1 (by8 xs)]) (B := [.blk p3 [.int .u8 0, .int .u8 0, .int .u8 0, .int .u64 0, .int .u64 0, .int .u8 0, .int .u8 0, .int .u8 0, .int .u8 0, .int .u8 0, .int .u8 0, .int .u8 0, .int .u8 0, .int .u8 0, .int .u8 0, .int .u8 0, .int .u8 0, .int .u8 0, .int .u8 0, .int .u8 0, .int .u8 0, .int .u8 0, .int .u8 0, .int .u8 0, .int .u8 0, .bool false, .slice none 0 0] 28, .blk p33 [.int .u8 (o.toNat : Int), .int .u8 ((getB v0_ : Nat) : Int), .int .u8 ((getB v1_ : Nat) : Int), .int .u64 ((getB v2_ : Nat) : Int), .int .u64 ((getB v3_ : Nat) : Int), .int .u8 ((v4_.getD 0 0).toNat : Int), .int .u8 ((v4_.getD 1 0).toNat : Int), .int .u8 ((v4_.getD 2 0).toNat : Int), .int .u8 ((v4_.getD 3 0).toNat : Int), .int .u8 ((v4_.getD 4 0).toNat : Int), .int .u8 ((v4_.getD 5 0).toNat : Int), .int .u8 ((v4_.getD 6 0).toNat : Int), .int .u8 ((v4_.getD 7 0).toNat : Int), .int .u8 ((v4_.getD 8 0).toNat : Int), .int .u8 ((v4_.getD 9 0).toNat : Int), .int .u8 ((v4_.getD 10 0).toNat : Int), .int .u8 ((v4_.getD 11 0).toNat : Int), .int .u8 ((v4_.getD 12 0).toNat : Int), .int .u8 ((v4_.getD 13 0).toNat : Int), .int .u8 ((v4_.getD 14 0).toNat : Int), .int .u8 ((v4_.getD 15 0).toNat : Int), .int .u8 ((v4_.getD 16 0).toNat : Int), .int .u8 ((v4_.getD 17 0).toNat : Int), .int .u8 ((v4_.getD 18 0).toNat : Int), .int .u8 ((v4_.getD 19 0).toNat : Int), .bool (((getB v5_ : Nat) : Int) == 1), .slice none 0 0] 28]) H230) hcut5 (rfl) (hcap5) (h6_5) (by decide)) (by kernel_rfl) rfl (fun e_ w250 hR => ?_)
                  obtain ⟨A241, c242, A243, c244, rfl, H252, hC245, hL246⟩ := hR
                  simp only [← hz247, ← hq248, ← hv249] at H252 hC245 hL246 ⊢
                  have H251 : Hp w [] [.blk p9 [.slice A241 q248.length c242, .bool z247] 74, .row A10 xs.length c11 5 1 (by8 xs), .row A243 v249.length c244 5 1 (by8 v249), .blk p3 [.int .u8 0, .int .u8 0, .int .u8 0, .int .u64 0, .int .u64 0, .int .u8 0, .int .u8 0, .int .u8 0, .int .u8 0, .int .u8 0, .int .u8 0, .int .u8 0, .int .u8 0, .int .u8 0, .int .u8 0, .int .u8 0, .int .u8 0, .int .u8 0, .int .u8 0, .int .u8 0, .int .u8 0, .int .u8 0, .int .u8 0, .int .u8 0, .int .u8 0, .bool false, .slice none 0 0] 28, .blk p33 [.int .u8 (o.toNat : Int), .int .u8 ((getB v0_ : Nat) : Int), .int .u8 ((getB v1_ : Nat) : Int), .int .u64 ((getB v2_ : Nat) : Int), .int .u64 ((getB v3_ : Nat) : Int), .int .u8 ((v4_.getD 0 0).toNat : Int), .int .u8 ((v4_.getD 1 0).toNat : Int), .int .u8 ((v4_.getD 2 0).toNat : Int), .int .u8 ((v4_.getD 3 0).toNat : Int), .int .u8 ((v4_.getD 4 0).toNat : Int), .int .u8 ((v4_.getD 5 0).toNat : Int), .int .u8 ((v4_.getD 6 0).toNat : Int), .int .u8 ((v4_.getD 7 0).toNat : Int), .int .u8 ((v4_.getD 8 0).toNat : Int), .int .u8 ((v4_.getD 9 0).toNat : Int), .int .u8 ((v4_.getD 10 0).toNat : Int), .int .u8 ((v4_.getD 11 0).toNat : Int), .int .u8 ((v4_.getD 12 0).toNat : Int), .int .u8 ((v4_.getD 13 0).toNat : Int), .int .u8 ((v4_.getD 14 0).toNat : Int), .int .u8 ((v4_.getD 15 0).toNat : Int), .int .u8 ((v4_.getD 16 0).toNat : Int), .int .u8 ((v4_.getD 17 0).toNat : Int), .int .u8 ((v4_.getD 18 0).toNat : Int), .int .u8 ((v4_.getD 19 0).toNat : Int), .bool (((getB v5_ : Nat) : Int) == 1), .slice none 0 0] 28] w250 := Hp.callL (A := [.blk p9 [.slice B5_ q5_.length b5_, .bool z5_] 74, .row A10 xs.length c11 5 1 (by8 xs)]) (B := [.blk p3 [.int .u8 0, .int .u8 0, .int .u8 0, .int .u64 0, .int .u64 0, .int .u8 0, .int .u8 0, .int .u8 0, .int .u8 0, .int .u8 0, .int .u8 0, .int .u8 0, .int .u8 0, .int .u8 0, .int .u8 0, .int .u8 0, .int .u8 0, .int .u8 0, .int .u8 0, .int .u8 0, .int .u8 0, .int .u8 0, .int .u8 0, .int .u8 0, .int .u8 0, .bool false, .slice none 0 0] 28, .blk p33 [.int .u8 (o.toNat : Int), .int .u8 ((getB v0_ : Nat) : Int), .int .u8 ((getB v1_ : Nat) : Int), .int .u64 ((getB v2_ : Nat) : Int), .int .u64 ((getB v3_ : Nat) : Int), .int .u8 ((v4_.getD 0 0).toNat : Int), .int .u8 ((v4_.getD 1 0).toNat : Int), .int .u8 ((v4_.getD 2 0).toNat : Int), .int .u8 ((v4_.getD 3 0).toNat : Int), .int .u8 ((v4_.getD 4 0).toNat : Int), .int .u8 ((v4_.getD 5 0).toNat : Int), .int .u8 ((v4_.getD 6 0).toNat : Int), .int .u8 ((v4_.getD 7 0).toNat : Int), .int .u8 ((v4_.getD 8 0).toNat : Int), .int .u8 ((v4_.getD 9 0).toNat : Int), .int .u8 ((v4_.getD 10 0).toNat : Int), .int .u8 ((v4_.getD 11 0).toNat : Int), .int .u8 ((v4_.getD 12 0).toNat : Int), .int .u8 ((v4_.getD 13 0).toNat : Int), .int .u8 ((v4_.getD 14 0).toNat : Int), .int .u8 ((v4_.getD 15 0).toNat : Int), .int .u8 ((v4_.getD 16 0).toNat : Int), .int .u8 ((v4_.getD 17 0).toNat : Int), .int .u8 ((v4_.getD 18 0).toNat : Int), .int .u8 ((v4_.getD 19 0).toNat : Int), .bool (((getB v5_ : Nat) : Int) == 1), .slice none 0 0] 28]) H230 H252
                  refine ⟨_, rfl, [2, 4, 5, 6, 7, 63], [(2, pt p3 0), (4, pt p9 0), (5, pt p33 0), (6, .int .i64 (((fm o.toNat) : Nat) : Int)), (7, .int .u64 ((getB v5_ : Nat) : Int)), (63, .slice A243 v249.length c244)], by kernel_rfl, ?_⟩
                  refine GL.run (j := 3) 1 [2, 4, 5, 6, 7, 63, 64] [(2, pt p3 0), (4, pt p9 0), (5, pt p33 0), (6, .int .i64 (((fm o.toNat) : Nat) : Int)), (7, .int .u64 ((getB v5_ : Nat) : Int)), (63, .slice A243 v249.length c244), (64, pt p33 26)] (by kernel_rfl) rfl ?_
                  obtain ⟨w253, r254, H255⟩ := H251.st (P := Try.prog) (o := 26) (ty := 26) (v := .slice A243 v249.length c244) 4 rfl (by kernel_rfl) (by simp) rfl
                  have H255 : Hp w [] [.blk p9 [.slice A241 q248.length c242, .bool z247] 74, .row A10 xs.length c11 5 1 (by8 xs), .row A243 v249.length c244 5 1 (by8 v249), .blk p3 [.int .u8 0, .int .u8 0, .int .u8 0, .int .u64 0, .int .u64 0, .int .u8 0, .int .u8 0, .int .u8 0, .int .u8 0, .int .u8 0, .int .u8 0, .int .u8 0, .int .u8 0, .int .u8 0, .int .u8 0, .int .u8 0, .int .u8 0, .int .u8 0, .int .u8 0, .int .u8 0, .int .u8 0, .int .u8 0, .int .u8 0, .int .u8 0, .int .u8 0, .bool false, .slice none 0 0] 28, .blk p33 [.int .u8 (o.toNat : Int), .int .u8 ((getB v0_ : Nat) : Int), .int .u8 ((getB v1_ : Nat) : Int), .int .u64 ((getB v2_ : Nat) : Int), .int .u64 ((getB v3_ : Nat) : Int), .int .u8 ((v4_.getD 0 0).toNat : Int), .int .u8 ((v4_.getD 1 0).toNat : Int), .int .u8 ((v4_.getD 2 0).toNat : Int), .int .u8 ((v4_.getD 3 0).toNat : Int), .int .u8 ((v4_.getD 4 0).toNat : Int), .int .u8 ((v4_.getD 5 0).toNat : Int), .int .u8 ((v4_.getD 6 0).toNat : Int), .int .u8 ((v4_.getD 7 0).toNat : Int), .int .u8 ((v4_.getD 8 0).toNat : Int), .int .u8 ((v4_.getD 9 0).toNat : Int), .int .u8 ((v4_.getD 10 0).toNat : Int), .int .u8 ((v4_.getD 11 0).toNat : Int), .int .u8 ((v4_.getD 12 0).toNat : Int), .int .u8 ((v4_.getD 13 0).toNat : Int), .int .u8 ((v4_.getD 14 0).toNat : Int), .int .u8 ((v4_.getD 15 0).toNat : Int), .int .u8 ((v4_.getD 16 0).toNat : Int), .int .u8 ((v4_.getD 17 0).toNat : Int), .int .u8 ((v4_.getD 18 0).toNat : Int), .int .u8 ((v4_.getD 19 0).toNat : Int), .bool (((getB v5_ : Nat) : Int) == 1), .slice A243 v249.length c244] 28] w253 := H255
                  refine GL.semU (j := 4) r254 [2, 4, 5, 6, 7] [(2, pt p3 0), (4, pt p9 0), (5, pt p33 0), (6, .int .i64 (((fm o.toNat) : Nat) : Int)), (7, .int .u64 ((getB v5_ : Nat) : Int))] (by kernel_rfl) rfl rfl rfl ?_
                  refine GL.k rfl hK233 (fun _ _ h => h) ?_
                  have H256 := (Hp.reorder (L' := [.blk p9 [.slice A241 q248.length c242, .bool z247] 74, .row A10 xs.length c11 5 1 (by8 xs), .blk p3 [.int .u8 0, .int .u8 0, .int .u8 0, .int .u64 0, .int .u64 0, .int .u8 0, .int .u8 0, .int .u8 0, .int .u8 0, .int .u8 0, .int .u8 0, .int .u8 0, .int .u8 0, .int .u8 0, .int .u8 0, .int .u8 0, .int .u8 0, .int .u8 0, .int .u8 0, .int .u8 0, .int .u8 0, .int .u8 0, .int .u8 0, .int .u8 0, .int .u8 0, .bool false, .slice none 0 0] 28, .blk p33 [.int .u8 (o.toNat : Int), .int .u8 ((getB v0_ : Nat) : Int), .int .u8 ((getB v1_ : Nat) : Int), .int .u64 ((getB v2_ : Nat) : Int), .int .u64 ((getB v3_ : Nat) : Int), .int .u8 ((v4_.getD 0 0).toNat : Int), .int .u8 ((v4_.getD 1 0).toNat : Int), .int .u8 ((v4_.getD 2 0).toNat : Int), .int .u8 ((v4_.getD 3 0).toNat : Int), .int .u8 ((v4_.getD 4 0).toNat : Int), .int .u8 ((v4_.getD 5 0).toNat : Int), .int .u8 ((v4_.getD 6 0).toNat : Int), .int .u8 ((v4_.getD 7 0).toNat : Int), .int .u8 ((v4_.getD 8 0).toNat : Int), .int .u8 ((v4_.getD 9 0).toNat : Int), .int .u8 ((v4_.getD 10 0).toNat : Int), .int .u8 ((v4_.getD 11 0).toNat : Int), .int .u8 ((v4_.getD 12 0).toNat : Int), .int .u8 ((v4_.getD 13 0).toNat : Int), .int .u8 ((v4_.getD 14 0).toNat : Int), .int .u8 ((v4_.getD 15 0).toNat : Int), .int .u8 ((v4_.getD 16 0).toNat : Int), .int .u8 ((v4_.getD 17 0).toNat : Int), .int .u8 ((v4_.getD 18 0).toNat : Int), .int .u8 ((v4_.getD 19 0).toNat : Int), .bool (((getB v5_ : Nat) : Int) == 1), .slice A243 v249.length c244] 28, .row A243 v249.length c244 5 1 (by8 v249)]) H255 (List.Perm.cons _ (List.Perm.cons _ (List.Perm.trans (List.Perm.swap _ _ _) (List.Perm.cons _ (List.Perm.trans (List.Perm.swap _ _ _) (List.Perm.refl _)))))))
                  have H257 : Hp w [] [.blk p9 [.slice A241 q248.length c242, .bool z247] 74, .row A10 xs.length c11 5 1 (by8 xs), .blk p3 [.int .u8 0, .int .u8 0, .int .u8 0, .int .u64 0, .int .u64 0, .int .u8 0, .int .u8 0, .int .u8 0, .int .u8 0, .int .u8 0, .int .u8 0, .int .u8 0, .int .u8 0, .int .u8 0, .int .u8 0, .int .u8 0, .int .u8 0, .int .u8 0, .int .u8 0, .int .u8 0, .int .u8 0, .int .u8 0, .int .u8 0, .int .u8 0, .int .u8 0, .bool false, .slice none 0 0] 28, .blk p33 [.int .u8 (o.toNat : Int), .int .u8 ((getB v0_ : Nat) : Int), .int .u8 ((getB v1_ : Nat) : Int), .int .u64 ((getB v2_ : Nat) : Int), .int .u64 ((getB v3_ : Nat) : Int), .int .u8 ((v4_.getD 0 0).toNat : Int), .int .u8 ((v4_.getD 1 0).toNat : Int), .int .u8 ((v4_.getD 2 0).toNat : Int), .int .u8 ((v4_.getD 3 0).toNat : Int), .int .u8 ((v4_.getD 4 0).toNat : Int), .int .u8 ((v4_.getD 5 0).toNat : Int), .int .u8 ((v4_.getD 6 0).toNat : Int), .int .u8 ((v4_.getD 7 0).toNat : Int), .int .u8 ((v4_.getD 8 0).toNat : Int), .int .u8 ((v4_.getD 9 0).toNat : Int), .int .u8 ((v4_.getD 10 0).toNat : Int), .int .u8 ((v4_.getD 11 0).toNat : Int), .int .u8 ((v4_.getD 12 0).toNat : Int), .int .u8 ((v4_.getD 13 0).toNat : Int), .int .u8 ((v4_.getD 14 0).toNat : Int), .int .u8 ((v4_.getD 15 0).toNat : Int), .int .u8 ((v4_.getD 16 0).toNat : Int), .int .u8 ((v4_.getD 17 0).toNat : Int), .int .u8 ((v4_.getD 18 0).toNat : Int), .int .u8 ((v4_.getD 19 0).toNat : Int), .bool (((getB v5_ : Nat) : Int) == 1), .slice A243 v249.length c244] 28, .row A243 v249.length c244 5 1 (by8 v249)] w253 := H256
                  refine G.fit [2, 4, 5, 6, 7] (M' := [(2, pt p3 0), (4, pt p9 0), (5, pt p33 0), (6, .int .i64 (((fm o.toNat) : Nat) : Int)), (7, .int .u64 ((getB v5_ : Nat) : Int))]) (by kernel_rfl) ?_
                  exact J231 ⟨z247, q248, v249, A241, c242, A243, c244⟩ _ ⟨⟨⟨fun _ => ⟨hz247, hq248, hv249⟩, fun h_ => absurd hbit6 h_⟩, (by rw [hv249]; exact cdV_le2 _ _ _), hC245, hL246, h6q248⟩, H257⟩
              · skip
                rintro ⟨z6_, q6_, v6_, B6_, b6_, D_, d_⟩ w258 ⟨hi259, H260⟩
                refine G.eq (M' := [(2, pt p3 0), (4, pt p9 0), (5, pt p33 0), (6, .int .i64 (((fm o.toNat) : Nat) : Int)), (7, .int .u64 ((getB v5_ : Nat) : Int))]) rfl ?_
                have H260 : Hp w [] [.blk p9 [.slice B6_ q6_.length b6_, .bool z6_] 74, .row A10 xs.length c11 5 1 (by8 xs), .blk p3 [.int .u8 0, .int .u8 0, .int .u8 0, .int .u64 0, .int .u64 0, .int .u8 0, .int .u8 0, .int .u8 0, .int .u8 0, .int .u8 0, .int .u8 0, .int .u8 0, .int .u8 0, .int .u8 0, .int .u8 0, .int .u8 0, .int .u8 0, .int .u8 0, .int .u8 0, .int .u8 0, .int .u8 0, .int .u8 0, .int .u8 0, .int .u8 0, .int .u8 0, .bool false, .slice none 0 0] 28, .blk p33 [.int .u8 (o.toNat : Int), .int .u8 ((getB v0_ : Nat) : Int), .int .u8 ((getB v1_ : Nat) : Int), .int .u64 ((getB v2_ : Nat) : Int), .int .u64 ((getB v3_ : Nat) : Int), .int .u8 ((v4_.getD 0 0).toNat : Int), .int .u8 ((v4_.getD 1 0).toNat : Int), .int .u8 ((v4_.getD 2 0).toNat : Int), .int .u8 ((v4_.getD 3 0).toNat : Int), .int .u8 ((v4_.getD 4 0).toNat : Int), .int .u8 ((v4_.getD 5 0).toNat : Int), .int .u8 ((v4_.getD 6 0).toNat : Int), .int .u8 ((v4_.getD 7 0).toNat : Int), .int .u8 ((v4_.getD 8 0).toNat : Int), .int .u8 ((v4_.getD 9 0).toNat : Int), .int .u8 ((v4_.getD 10 0).toNat : Int), .int .u8 ((v4_.getD 11 0).toNat : Int), .int .u8 ((v4_.getD 12 0).toNat : Int), .int .u8 ((v4_.getD 13 0).toNat : Int), .int .u8 ((v4_.getD 14 0).toNat : Int), .int .u8 ((v4_.getD 15 0).toNat : Int), .int .u8 ((v4_.getD 16 0).toNat : Int), .int .u8 ((v4_.getD 17 0).toNat : Int), .int .u8 ((v4_.getD 18 0).toNat : Int), .int .u8 ((v4_.getD 19 0).toNat : Int), .bool (((getB v5_ : Nat) : Int) == 1), .slice D_ v6_.length d_] 28, .row D_ v6_.length d_ 5 1 (by8 v6_)] w258 := H260
                obtain ⟨hst6, hvl6, hcut6, hcap6, h6_6⟩ := hi259
                refine G.seqK fun K261 hK262 => ?_
                refine G.seqK fun K263 hK264 => ?_
                refine G.region ?_
                refine GL.run (j := 3) 3 [2, 4, 5, 7, 67] [(2, pt p3 0), (4, pt p9 0), (5, pt p33 0), (7, .int .u64 ((getB v5_ : Nat) : Int)), (67, .bool ((((fm o.toNat) : Nat) : Int) == 0))] (by kernel_rfl) rfl ?_
                cases hb265 : ((((fm o.toNat) : Nat) : Int) == 0)
                · skip
                  have hb265f := ne_of_beq_false hb265
                  refine GL.run (j := 7) 4 [2, 4, 5, 71] [(2, pt p3 0), (4, pt p9 0), (5, pt p33 0), (71, .bool (decide (1 < ((getB v5_ : Nat) : Int))))] (by kernel_rfl) rfl ?_
                  cases hb266 : (decide (1 < ((getB v5_ : Nat) : Int)))
                  · skip
                    have hb266f := of_decide_eq_false hb266
                    refine GL.run (j := 8) 1 [2, 5, 71, 72] [(2, pt p3 0), (5, pt p33 0), (71, .bool false), (72, pt p9 0)] (by kernel_rfl) rfl ?_
                    refine GL.call (j := 9) (End_calls (ids [.blk p9 [.slice B6_ q6_.length b6_, .bool z6_] 74, .row A10 xs.length c11 5 1 (by8 xs)]) p9 B6_ q6_.length b6_ z6_ A10 xs.length c11 xs q6_ w258 (Hp.startL (A := [.blk p9 [.slice B6_ q6_.length b6_, .bool z6_] 74, .row A10 xs.length c11 5 1 (by8 xs)]) (B := [.blk p3 [.int .u8 0, .int .u8 0, .int .u8 0, .int .u64 0, .int .u64 0, .int .u8 0, .int .u8 0, .int .u8 0, .int .u8 0, .int .u8 0, .int .u8 0, .int .u8 0, .int .u8 0, .int .u8 0, .int .u8 0, .int .u8 0, .int .u8 0, .int .u8 0, .int .u8 0, .int .u8 0, .int .u8 0, .int .u8 0, .int .u8 0, .int .u8 0, .int .u8 0, .bool false, .slice none 0 0] 28, .blk p33 [.int .u8 (o.toNat : Int), .int .u8 ((getB v0_ : Nat) : Int), .int .u8 ((getB v1_ : Nat) : Int), .int .u64 ((getB v2_ : Nat) : Int), .int .u64 ((getB v3_ : Nat) : Int), .int .u8 ((v4_.getD 0 0).toNat : Int), .int .u8 ((v4_.getD 1 0).toNat : Int), .int .u8 ((v4_.getD 2 0).toNat : Int), .int .u8 ((v4_.getD 3 0).toNat : Int), .int .u8 ((v4_.getD 4 0).toNat : Int), .int .u8 ((v4_.getD 5 0).toNat : Int), .int .u8 ((v4_.getD 6 0).toNat : Int), .int .u8 ((v4_.getD 7 0).toNat : Int), .int .u8 ((v4_.getD 8 0).toNat : Int), .int .u8 ((v4_.getD 9 0).toNat : Int), .int .u8 ((v4_.getD 10 0).toNat : Int), .int .u8 ((v4_.getD 11 0).toNat : Int), .int .u8 ((v4_.getD 12 0).toNat : Int), .int .u8 ((v4_.getD 13 0).toNat : Int), .int .u8 ((v4_.getD 14 0).toNat : Int), .int .u8 ((v4_.getD 15 0).toNat : Int), .int .u8 ((v4_.getD 16 0).toNat : Int), .int .u8 ((v4_.getD 17 0).toNat : Int), .int .u8 ((v4_.getD 18 0).toNat : Int), .int .u8 ((v4_.getD 19 0).toNat : Int), .bool (((getB v5_ : Nat) : Int) == 1), .slice D_ v6_.length d_] 28, .row D_ v6_.length d_ 5 1 (by8 v6_)]) H260) (rfl)) (by kernel_rfl) rfl (fun e_ w267 hR => ?_)
                    obtain ⟨rfl, H269⟩ := hR
                    have H268 : Hp w [] [.blk p9 [.slice B6_ q6_.length b6_, .bool z6_] 74, .row A10 xs.length c11 5 1 (by8 xs), .blk p3 [.int .u8 0, .int .u8 0, .int .u8 0, .int .u64 0, .int .u64 0, .int .u8 0, .int .u8 0, .int .u8 0, .int .u8 0, .int .u8 0, .int .u8 0, .int .u8 0, .int .u8 0, .int .u8 0, .int .u8 0, .int .u8 0, .int .u8 0, .int .u8 0, .int .u8 0, .int .u8 0, .int .u8 0, .int .u8 0, .int .u8 0, .int .u8 0, .int .u8 0, .bool false, .slice none 0 0] 28, .blk p33 [.int .u8 (o.toNat : Int), .int .u8 ((getB v0_ : Nat) : Int), .int .u8 ((getB v1_ : Nat) : Int), .int .u64 ((getB v2_ : Nat) : Int), .int .u64 ((getB v3_ : Nat) : Int), .int .u8 ((v4_.getD 0 0).toNat : Int), .int .u8 ((v4_.getD 1 0).toNat : Int), .int .u8 ((v4_.getD 2 0).toNat : Int), .int .u8 ((v4_.getD 3 0).toNat : Int), .int .u8 ((v4_.getD 4 0).toNat : Int), .int .u8 ((v4_.getD 5 0).toNat : Int), .int .u8 ((v4_.getD 6 0).toNat : Int), .int .u8 ((v4_.getD 7 0).toNat : Int), .int .u8 ((v4_.getD 8 0).toNat : Int), .int .u8 ((v4_.getD 9 0).toNat : Int), .int .u8 ((v4_.getD 10 0).toNat : Int), .int .u8 ((v4_.getD 11 0).toNat : Int), .int .u8 ((v4_.getD 12 0).toNat : Int), .int .u8 ((v4_.getD 13 0).toNat : Int), .int .u8 ((v4_.getD 14 0).toNat : Int), .int .u8 ((v4_.getD 15 0).toNat : Int), .int .u8 ((v4_.getD 16 0).toNat : Int), .int .u8 ((v4_.getD 17 0).toNat : Int), .int .u8 ((v4_.getD 18 0).toNat : Int), .int .u8 ((v4_.getD 19 0).toNat : Int), .bool (((getB v5_ : Nat) : Int) == 1), .slice D_ v6_.length d_] 28, .row D_ v6_.length d_ 5 1 (by8 v6_)] w267 := Hp.callL (A := [.blk p9 [.slice B6_ q6_.length b6_, .bool z6_] 74, .row A10 xs.length c11 5 1 (by8 xs)]) (B := [.blk p3 [.int .u8 0, .int .u8 0, .int .u8 0, .int .u64 0, .int .u64 0, .int .u8 0, .int .u8 0, .int .u8 0, .int .u8 0, .int .u8 0, .int .u8 0, .int .u8 0, .int .u8 0, .int .u8 0, .int .u8 0, .int .u8 0, .int .u8 0, .int .u8 0, .int .u8 0, .int .u8 0, .int .u8 0, .int .u8 0, .int .u8 0, .int .u8 0, .int .u8 0, .bool false, .slice none 0 0] 28, .blk p33 [.int .u8 (o.toNat : Int), .int .u8 ((getB v0_ : Nat) : Int), .int .u8 ((getB v1_ : Nat) : Int), .int .u64 ((getB v2_ : Nat) : Int), .int .u64 ((getB v3_ : Nat) : Int), .int .u8 ((v4_.getD 0 0).toNat : Int), .int .u8 ((v4_.getD 1 0).toNat : Int), .int .u8 ((v4_.getD 2 0).toNat : Int), .int .u8 ((v4_.getD 3 0).toNat : Int), .int .u8 ((v4_.getD 4 0).toNat : Int), .int .u8 ((v4_.getD 5 0).toNat : Int), .int .u8 ((v4_.getD 6 0).toNat : Int), .int .u8 ((v4_.getD 7 0).toNat : Int), .int .u8 ((v4_.getD 8 0).toNat : Int), .int .u8 ((v4_.getD 9 0).toNat : Int), .int .u8 ((v4_.getD 10 0).toNat : Int), .int .u8 ((v4_.getD 11 0).toNat : Int), .int .u8 ((v4_.getD 12 0).toNat : Int), .int .u8 ((v4_.getD 13 0).toNat : Int), .int .u8 ((v4_.getD 14 0).toNat : Int), .int .u8 ((v4_.getD 15 0).toNat : Int), .int .u8 ((v4_.getD 16 0).toNat : Int), .int .u8 ((v4_.getD 17 0).toNat : Int), .int .u8 ((v4_.getD 18 0).toNat : Int), .int .u8 ((v4_.getD 19 0).toNat : Int), .bool (((getB v5_ : Nat) : Int) == 1), .slice D_ v6_.length d_] 28, .row D_ v6_.length d_ 5 1 (by8 v6_)]) H260 H269
                    refine ⟨_, rfl, [2, 5, 71, 73], [(2, pt p3 0), (5, pt p33 0), (71, .bool false), (73, .bool (endB z6_ q6_))], by kernel_rfl, ?_⟩
                    refine GL.run (j := 11) 2 [2, 5, 75] [(2, pt p3 0), (5, pt p33 0), (75, .bool (!(endB z6_ q6_)))] (by kernel_rfl) rfl ?_
                    refine GL.k rfl hK264 (fun _ _ h => h) ?_
                    cases hb270 : (endB z6_ q6_)
                    · skip
                      refine G.yes rfl ?_
                      refine G.seqK fun K271 hK272 => ?_
                      refine G.region ?_
                      refine GL.run (j := 1) 1 [2, 76] [(2, pt p3 0), (76, .agg #[.int .u8 0, .int .u8 0, .int .u8 0, .int .u64 0, .int .u64 0, .int .u8 0, .int .u8 0, .int .u8 0, .int .u8 0, .int .u8 0, .int .u8 0, .int .u8 0, .int .u8 0, .int .u8 0, .int .u8 0, .int .u8 0, .int .u8 0, .int .u8 0, .int .u8 0, .int .u8 0, .int .u8 0, .int .u8 0, .int .u8 0, .int .u8 0, .int .u8 0, .bool false, .slice none 0 0])] (by kernel_rfl) rfl ?_
                      obtain ⟨w273, r274, H275⟩ := H268.stA (P := Try.prog) (o := 0) (vs := [.int .u8 0, .int .u8 0, .int .u8 0, .int .u64 0, .int .u64 0, .int .u8 0, .int .u8 0, .int .u8 0, .int .u8 0, .int .u8 0, .int .u8 0, .int .u8 0, .int .u8 0, .int .u8 0, .int .u8 0, .int .u8 0, .int .u8 0, .int .u8 0, .int .u8 0, .int .u8 0, .int .u8 0, .int .u8 0, .int .u8 0, .int .u8 0, .int .u8 0, .bool false, .slice none 0 0]) (ty := 28) (m := 27) 2 rfl (by kernel_rfl) rfl (by simp) (by simp [Value.oneCell'])
                      have H275 : Hp w [] [.blk p9 [.slice B6_ q6_.length b6_, .bool z6_] 74, .row A10 xs.length c11 5 1 (by8 xs), .blk p3 [.int .u8 0, .int .u8 0, .int .u8 0, .int .u64 0, .int .u64 0, .int .u8 0, .int .u8 0, .int .u8 0, .int .u8 0, .int .u8 0, .int .u8 0, .int .u8 0, .int .u8 0, .int .u8 0, .int .u8 0, .int .u8 0, .int .u8 0, .int .u8 0, .int .u8 0, .int .u8 0, .int .u8 0, .int .u8 0, .int .u8 0, .int .u8 0, .int .u8 0, .bool false, .slice none 0 0] 28, .blk p33 [.int .u8 (o.toNat : Int), .int .u8 ((getB v0_ : Nat) : Int), .int .u8 ((getB v1_ : Nat) : Int), .int .u64 ((getB v2_ : Nat) : Int), .int .u64 ((getB v3_ : Nat) : Int), .int .u8 ((v4_.getD 0 0).toNat : Int), .int .u8 ((v4_.getD 1 0).toNat : Int), .int .u8 ((v4_.getD 2 0).toNat : Int), .int .u8 ((v4_.getD 3 0).toNat : Int), .int .u8 ((v4_.getD 4 0).toNat : Int), .int .u8 ((v4_.getD 5 0).toNat : Int), .int .u8 ((v4_.getD 6 0).toNat : Int), .int .u8 ((v4_.getD 7 0).toNat : Int), .int .u8 ((v4_.getD 8 0).toNat : Int), .int .u8 ((v4_.getD 9 0).toNat : Int), .int .u8 ((v4_.getD 10 0).toNat : Int), .int .u8 ((v4_.getD 11 0).toNat : Int), .int .u8 ((v4_.getD 12 0).toNat : Int), .int .u8 ((v4_.getD 13 0).toNat : Int), .int .u8 ((v4_.getD 14 0).toNat : Int), .int .u8 ((v4_.getD 15 0).toNat : Int), .int .u8 ((v4_.getD 16 0).toNat : Int), .int .u8 ((v4_.getD 17 0).toNat : Int), .int .u8 ((v4_.getD 18 0).toNat : Int), .int .u8 ((v4_.getD 19 0).toNat : Int), .bool (((getB v5_ : Nat) : Int) == 1), .slice D_ v6_.length d_] 28, .row D_ v6_.length d_ 5 1 (by8 v6_)] w273 := H275
                      refine GL.semU (j := 2) r274 [2] [(2, pt p3 0)] (by kernel_rfl) rfl rfl rfl ?_
                      refine GL.run (j := 3) 1 [2, 3] [(2, pt p3 0), (3, .int .i64 2)] (by kernel_rfl) rfl ?_
                      refine GL.k rfl hK272 (fun _ _ h => h) ?_
                      refine G.ret ?_
                      intro F_ hF_ hM_
                      refine hRet _ _ (bodyPost_2 rfl (RV.cell rfl (H275.ldA (o := 0) (ty := 28) (m := 27) (sub := [.int .u8 0, .int .u8 0, .int .u8 0, .int .u64 0, .int .u64 0, .int .u8 0, .int .u8 0, .int .u8 0, .int .u8 0, .int .u8 0, .int .u8 0, .int .u8 0, .int .u8 0, .int .u8 0, .int .u8 0, .int .u8 0, .int .u8 0, .int .u8 0, .int .u8 0, .int .u8 0, .int .u8 0, .int .u8 0, .int .u8 0, .int .u8 0, .int .u8 0, .bool false, .slice none 0 0]) 2 rfl (by kernel_rfl) rfl rfl)) (RV.tmp rfl) ?_ F_ hF_ hM_)
                      have hcp : CP xs o v0_ v1_ v2_ v3_ v4_ v5_ v6_ z6_ q6_ := ⟨_, _, _, _, _, _, _, _, _, _, _, _, _, _, _, hz25, hq26, hv27, ho, hst0, hst1, hst2, hst3, hst4, hst5, hst6⟩
                      have hno : ∀ (o' w' t' : UInt8) (am' id' : Nat) (ad' : Nat → UInt8) (ag' : Bool) (bd' : List UInt8), cmdE o' w' t' am' id' ad' ag' bd' = 0 → xs ≠ cmdB o' w' t' am' id' ad' ag' bd' := by
                        intro o' w' t' am' id' ad' ag' bd' he hx
                        obtain ⟨n1, n2, n3, n4⟩ := cp_no hcp he hx
                        exact endB_false hb270 n3 n4
                      exact ⟨0, 0, 0, 0, 0, fun _ => 0, false, none, [], 0, 2, rfl, (H275.sub (List.nil_sublist _)).rowNil 5 1, by decide, by decide, by decide, .inr ⟨rfl, ⟨rfl, rfl⟩, hno⟩⟩
                    · skip
                      have hend := endB_true hb270
                      refine G.no rfl ?_
                      refine G.skipK hK262 (fun _ _ h => h) ?_
                      refine G.seqK fun K276 hK277 => ?_
                      refine G.region ?_
                      refine GL.sem (j := 1) (H268.ldA (o := 0) (ty := 28) (m := 27) (sub := [.int .u8 (o.toNat : Int), .int .u8 ((getB v0_ : Nat) : Int), .int .u8 ((getB v1_ : Nat) : Int), .int .u64 ((getB v2_ : Nat) : Int), .int .u64 ((getB v3_ : Nat) : Int), .int .u8 ((v4_.getD 0 0).toNat : Int), .int .u8 ((v4_.getD 1 0).toNat : Int), .int .u8 ((v4_.getD 2 0).toNat : Int), .int .u8 ((v4_.getD 3 0).toNat : Int), .int .u8 ((v4_.getD 4 0).toNat : Int), .int .u8 ((v4_.getD 5 0).toNat : Int), .int .u8 ((v4_.getD 6 0).toNat : Int), .int .u8 ((v4_.getD 7 0).toNat : Int), .int .u8 ((v4_.getD 8 0).toNat : Int), .int .u8 ((v4_.getD 9 0).toNat : Int), .int .u8 ((v4_.getD 10 0).toNat : Int), .int .u8 ((v4_.getD 11 0).toNat : Int), .int .u8 ((v4_.getD 12 0).toNat : Int), .int .u8 ((v4_.getD 13 0).toNat : Int), .int .u8 ((v4_.getD 14 0).toNat : Int), .int .u8 ((v4_.getD 15 0).toNat : Int), .int .u8 ((v4_.getD 16 0).toNat : Int), .int .u8 ((v4_.getD 17 0).toNat : Int), .int .u8 ((v4_.getD 18 0).toNat : Int), .int .u8 ((v4_.getD 19 0).toNat : Int), .bool (((getB v5_ : Nat) : Int) == 1), .slice D_ v6_.length d_]) 3 rfl (by kernel_rfl) rfl rfl) [2, 77] [(2, pt p3 0), (77, .agg #[.int .u8 (o.toNat : Int), .int .u8 ((getB v0_ : Nat) : Int), .int .u8 ((getB v1_ : Nat) : Int), .int .u64 ((getB v2_ : Nat) : Int), .int .u64 ((getB v3_ : Nat) : Int), .int .u8 ((v4_.getD 0 0).toNat : Int), .int .u8 ((v4_.getD 1 0).toNat : Int), .int .u8 ((v4_.getD 2 0).toNat : Int), .int .u8 ((v4_.getD 3 0).toNat : Int), .int .u8 ((v4_.getD 4 0).toNat : Int), .int .u8 ((v4_.getD 5 0).toNat : Int), .int .u8 ((v4_.getD 6 0).toNat : Int), .int .u8 ((v4_.getD 7 0).toNat : Int), .int .u8 ((v4_.getD 8 0).toNat : Int), .int .u8 ((v4_.getD 9 0).toNat : Int), .int .u8 ((v4_.getD 10 0).toNat : Int), .int .u8 ((v4_.getD 11 0).toNat : Int), .int .u8 ((v4_.getD 12 0).toNat : Int), .int .u8 ((v4_.getD 13 0).toNat : Int), .int .u8 ((v4_.getD 14 0).toNat : Int), .int .u8 ((v4_.getD 15 0).toNat : Int), .int .u8 ((v4_.getD 16 0).toNat : Int), .int .u8 ((v4_.getD 17 0).toNat : Int), .int .u8 ((v4_.getD 18 0).toNat : Int), .int .u8 ((v4_.getD 19 0).toNat : Int), .bool (((getB v5_ : Nat) : Int) == 1), .slice D_ v6_.length d_])] (by kernel_rfl) (by kernel_rfl) rfl ?_
                      obtain ⟨w278, r279, H280⟩ := H268.stA (P := Try.prog) (o := 0) (vs := [.int .u8 (o.toNat : Int), .int .u8 ((getB v0_ : Nat) : Int), .int .u8 ((getB v1_ : Nat) : Int), .int .u64 ((getB v2_ : Nat) : Int), .int .u64 ((getB v3_ : Nat) : Int), .int .u8 ((v4_.getD 0 0).toNat : Int), .int .u8 ((v4_.getD 1 0).toNat : Int), .int .u8 ((v4_.getD 2 0).toNat : Int), .int .u8 ((v4_.getD 3 0).toNat : Int), .int .u8 ((v4_.getD 4 0).toNat : Int), .int .u8 ((v4_.getD 5 0).toNat : Int), .int .u8 ((v4_.getD 6 0).toNat : Int), .int .u8 ((v4_.getD 7 0).toNat : Int), .int .u8 ((v4_.getD 8 0).toNat : Int), .int .u8 ((v4_.getD 9 0).toNat : Int), .int .u8 ((v4_.getD 10 0).toNat : Int), .int .u8 ((v4_.getD 11 0).toNat : Int), .int .u8 ((v4_.getD 12 0).toNat : Int), .int .u8 ((v4_.getD 13 0).toNat : Int), .int .u8 ((v4_.getD 14 0).toNat : Int), .int .u8 ((v4_.getD 15 0).toNat : Int), .int .u8 ((v4_.getD 16 0).toNat : Int), .int .u8 ((v4_.getD 17 0).toNat : Int), .int .u8 ((v4_.getD 18 0).toNat : Int), .int .u8 ((v4_.getD 19 0).toNat : Int), .bool (((getB v5_ : Nat) : Int) == 1), .slice D_ v6_.length d_]) (ty := 28) (m := 27) 2 rfl (by kernel_rfl) rfl (by simp) (by simp [Value.oneCell'])
                      have H280 : Hp w [] [.blk p9 [.slice B6_ q6_.length b6_, .bool z6_] 74, .row A10 xs.length c11 5 1 (by8 xs), .blk p3 [.int .u8 (o.toNat : Int), .int .u8 ((getB v0_ : Nat) : Int), .int .u8 ((getB v1_ : Nat) : Int), .int .u64 ((getB v2_ : Nat) : Int), .int .u64 ((getB v3_ : Nat) : Int), .int .u8 ((v4_.getD 0 0).toNat : Int), .int .u8 ((v4_.getD 1 0).toNat : Int), .int .u8 ((v4_.getD 2 0).toNat : Int), .int .u8 ((v4_.getD 3 0).toNat : Int), .int .u8 ((v4_.getD 4 0).toNat : Int), .int .u8 ((v4_.getD 5 0).toNat : Int), .int .u8 ((v4_.getD 6 0).toNat : Int), .int .u8 ((v4_.getD 7 0).toNat : Int), .int .u8 ((v4_.getD 8 0).toNat : Int), .int .u8 ((v4_.getD 9 0).toNat : Int), .int .u8 ((v4_.getD 10 0).toNat : Int), .int .u8 ((v4_.getD 11 0).toNat : Int), .int .u8 ((v4_.getD 12 0).toNat : Int), .int .u8 ((v4_.getD 13 0).toNat : Int), .int .u8 ((v4_.getD 14 0).toNat : Int), .int .u8 ((v4_.getD 15 0).toNat : Int), .int .u8 ((v4_.getD 16 0).toNat : Int), .int .u8 ((v4_.getD 17 0).toNat : Int), .int .u8 ((v4_.getD 18 0).toNat : Int), .int .u8 ((v4_.getD 19 0).toNat : Int), .bool (((getB v5_ : Nat) : Int) == 1), .slice D_ v6_.length d_] 28, .blk p33 [.int .u8 (o.toNat : Int), .int .u8 ((getB v0_ : Nat) : Int), .int .u8 ((getB v1_ : Nat) : Int), .int .u64 ((getB v2_ : Nat) : Int), .int .u64 ((getB v3_ : Nat) : Int), .int .u8 ((v4_.getD 0 0).toNat : Int), .int .u8 ((v4_.getD 1 0).toNat : Int), .int .u8 ((v4_.getD 2 0).toNat : Int), .int .u8 ((v4_.getD 3 0).toNat : Int), .int .u8 ((v4_.getD 4 0).toNat : Int), .int .u8 ((v4_.getD 5 0).toNat : Int), .int .u8 ((v4_.getD 6 0).toNat : Int), .int .u8 ((v4_.getD 7 0).toNat : Int), .int .u8 ((v4_.getD 8 0).toNat : Int), .int .u8 ((v4_.getD 9 0).toNat : Int), .int .u8 ((v4_.getD 10 0).toNat : Int), .int .u8 ((v4_.getD 11 0).toNat : Int), .int .u8 ((v4_.getD 12 0).toNat : Int), .int .u8 ((v4_.getD 13 0).toNat : Int), .int .u8 ((v4_.getD 14 0).toNat : Int), .int .u8 ((v4_.getD 15 0).toNat : Int), .int .u8 ((v4_.getD 16 0).toNat : Int), .int .u8 ((v4_.getD 17 0).toNat : Int), .int .u8 ((v4_.getD 18 0).toNat : Int), .int .u8 ((v4_.getD 19 0).toNat : Int), .bool (((getB v5_ : Nat) : Int) == 1), .slice D_ v6_.length d_] 28, .row D_ v6_.length d_ 5 1 (by8 v6_)] w278 := H280
                      refine GL.semU (j := 2) r279 [2] [(2, pt p3 0)] (by kernel_rfl) rfl rfl rfl ?_
                      refine GL.run (j := 3) 1 [2, 3] [(2, pt p3 0), (3, .int .i64 0)] (by kernel_rfl) rfl ?_
                      refine GL.k rfl hK277 (fun _ _ h => h) ?_
                      refine G.ret ?_
                      intro F_ hF_ hM_
                      refine hRet _ _ (bodyPost_2 rfl (RV.cell rfl (H280.ldA (o := 0) (ty := 28) (m := 27) (sub := [.int .u8 (o.toNat : Int), .int .u8 ((getB v0_ : Nat) : Int), .int .u8 ((getB v1_ : Nat) : Int), .int .u64 ((getB v2_ : Nat) : Int), .int .u64 ((getB v3_ : Nat) : Int), .int .u8 ((v4_.getD 0 0).toNat : Int), .int .u8 ((v4_.getD 1 0).toNat : Int), .int .u8 ((v4_.getD 2 0).toNat : Int), .int .u8 ((v4_.getD 3 0).toNat : Int), .int .u8 ((v4_.getD 4 0).toNat : Int), .int .u8 ((v4_.getD 5 0).toNat : Int), .int .u8 ((v4_.getD 6 0).toNat : Int), .int .u8 ((v4_.getD 7 0).toNat : Int), .int .u8 ((v4_.getD 8 0).toNat : Int), .int .u8 ((v4_.getD 9 0).toNat : Int), .int .u8 ((v4_.getD 10 0).toNat : Int), .int .u8 ((v4_.getD 11 0).toNat : Int), .int .u8 ((v4_.getD 12 0).toNat : Int), .int .u8 ((v4_.getD 13 0).toNat : Int), .int .u8 ((v4_.getD 14 0).toNat : Int), .int .u8 ((v4_.getD 15 0).toNat : Int), .int .u8 ((v4_.getD 16 0).toNat : Int), .int .u8 ((v4_.getD 17 0).toNat : Int), .int .u8 ((v4_.getD 18 0).toNat : Int), .int .u8 ((v4_.getD 19 0).toNat : Int), .bool (((getB v5_ : Nat) : Int) == 1), .slice D_ v6_.length d_]) 2 rfl (by kernel_rfl) rfl rfl)) (RV.tmp rfl) ?_ F_ hF_ hM_)
                      have hcp : CP xs o v0_ v1_ v2_ v3_ v4_ v5_ v6_ z6_ q6_ := ⟨_, _, _, _, _, _, _, _, _, _, _, _, _, _, _, hz25, hq26, hv27, ho, hst0, hst1, hst2, hst3, hst4, hst5, hst6⟩
                      obtain ⟨wh, hwh⟩ : ∃ b : UInt8, b.toNat = getB v0_ := ⟨UInt8.ofNat (getB v0_), by rw [u8_ofNat]; omega⟩
                      obtain ⟨t, ht⟩ : ∃ b : UInt8, b.toNat = getB v1_ := ⟨UInt8.ofNat (getB v1_), by rw [u8_ofNat]; omega⟩
                      obtain ⟨hx9, he9, hl9⟩ := cp_ok hcp (by omega) (by omega) hend.1 hend.2 hwh ht
                      rw [← hwh, ← ht]
                      have H281 : Hp w [] [.row D_ v6_.length d_ 5 1 (by8 v6_)] w278 := H280.sub (List.Sublist.cons _ (List.Sublist.cons _ (List.Sublist.cons _ (List.Sublist.cons _ (List.Sublist.cons_cons _ (List.Sublist.slnil))))))
                      exact ⟨o, wh, t, getB v2_, getB v3_, fun i => v4_.getD i 0, _, D_, v6_, d_, 0, rfl, H281, hl9, hgb2, hgb3, .inl ⟨rfl, hx9, he9⟩⟩
                  · skip
                    have hb266f := of_decide_eq_true hb266
                    refine GL.run (j := 11) 4 [2, 5, 75] [(2, pt p3 0), (5, pt p33 0), (75, .bool true)] (by kernel_rfl) rfl ?_
                    refine GL.k rfl hK264 (fun _ _ h => h) ?_
                    refine G.yes rfl ?_
                    refine G.seqK fun K282 hK283 => ?_
                    refine G.region ?_
                    refine GL.run (j := 1) 1 [2, 76] [(2, pt p3 0), (76, .agg #[.int .u8 0, .int .u8 0, .int .u8 0, .int .u64 0, .int .u64 0, .int .u8 0, .int .u8 0, .int .u8 0, .int .u8 0, .int .u8 0, .int .u8 0, .int .u8 0, .int .u8 0, .int .u8 0, .int .u8 0, .int .u8 0, .int .u8 0, .int .u8 0, .int .u8 0, .int .u8 0, .int .u8 0, .int .u8 0, .int .u8 0, .int .u8 0, .int .u8 0, .bool false, .slice none 0 0])] (by kernel_rfl) rfl ?_
                    obtain ⟨w284, r285, H286⟩ := H260.stA (P := Try.prog) (o := 0) (vs := [.int .u8 0, .int .u8 0, .int .u8 0, .int .u64 0, .int .u64 0, .int .u8 0, .int .u8 0, .int .u8 0, .int .u8 0, .int .u8 0, .int .u8 0, .int .u8 0, .int .u8 0, .int .u8 0, .int .u8 0, .int .u8 0, .int .u8 0, .int .u8 0, .int .u8 0, .int .u8 0, .int .u8 0, .int .u8 0, .int .u8 0, .int .u8 0, .int .u8 0, .bool false, .slice none 0 0]) (ty := 28) (m := 27) 2 rfl (by kernel_rfl) rfl (by simp) (by simp [Value.oneCell'])
                    have H286 : Hp w [] [.blk p9 [.slice B6_ q6_.length b6_, .bool z6_] 74, .row A10 xs.length c11 5 1 (by8 xs), .blk p3 [.int .u8 0, .int .u8 0, .int .u8 0, .int .u64 0, .int .u64 0, .int .u8 0, .int .u8 0, .int .u8 0, .int .u8 0, .int .u8 0, .int .u8 0, .int .u8 0, .int .u8 0, .int .u8 0, .int .u8 0, .int .u8 0, .int .u8 0, .int .u8 0, .int .u8 0, .int .u8 0, .int .u8 0, .int .u8 0, .int .u8 0, .int .u8 0, .int .u8 0, .bool false, .slice none 0 0] 28, .blk p33 [.int .u8 (o.toNat : Int), .int .u8 ((getB v0_ : Nat) : Int), .int .u8 ((getB v1_ : Nat) : Int), .int .u64 ((getB v2_ : Nat) : Int), .int .u64 ((getB v3_ : Nat) : Int), .int .u8 ((v4_.getD 0 0).toNat : Int), .int .u8 ((v4_.getD 1 0).toNat : Int), .int .u8 ((v4_.getD 2 0).toNat : Int), .int .u8 ((v4_.getD 3 0).toNat : Int), .int .u8 ((v4_.getD 4 0).toNat : Int), .int .u8 ((v4_.getD 5 0).toNat : Int), .int .u8 ((v4_.getD 6 0).toNat : Int), .int .u8 ((v4_.getD 7 0).toNat : Int), .int .u8 ((v4_.getD 8 0).toNat : Int), .int .u8 ((v4_.getD 9 0).toNat : Int), .int .u8 ((v4_.getD 10 0).toNat : Int), .int .u8 ((v4_.getD 11 0).toNat : Int), .int .u8 ((v4_.getD 12 0).toNat : Int), .int .u8 ((v4_.getD 13 0).toNat : Int), .int .u8 ((v4_.getD 14 0).toNat : Int), .int .u8 ((v4_.getD 15 0).toNat : Int), .int .u8 ((v4_.getD 16 0).toNat : Int), .int .u8 ((v4_.getD 17 0).toNat : Int), .int .u8 ((v4_.getD 18 0).toNat : Int), .int .u8 ((v4_.getD 19 0).toNat : Int), .bool (((getB v5_ : Nat) : Int) == 1), .slice D_ v6_.length d_] 28, .row D_ v6_.length d_ 5 1 (by8 v6_)] w284 := H286
                    refine GL.semU (j := 2) r285 [2] [(2, pt p3 0)] (by kernel_rfl) rfl rfl rfl ?_
                    refine GL.run (j := 3) 1 [2, 3] [(2, pt p3 0), (3, .int .i64 2)] (by kernel_rfl) rfl ?_
                    refine GL.k rfl hK283 (fun _ _ h => h) ?_
                    refine G.ret ?_
                    intro F_ hF_ hM_
                    refine hRet _ _ (bodyPost_2 rfl (RV.cell rfl (H286.ldA (o := 0) (ty := 28) (m := 27) (sub := [.int .u8 0, .int .u8 0, .int .u8 0, .int .u64 0, .int .u64 0, .int .u8 0, .int .u8 0, .int .u8 0, .int .u8 0, .int .u8 0, .int .u8 0, .int .u8 0, .int .u8 0, .int .u8 0, .int .u8 0, .int .u8 0, .int .u8 0, .int .u8 0, .int .u8 0, .int .u8 0, .int .u8 0, .int .u8 0, .int .u8 0, .int .u8 0, .int .u8 0, .bool false, .slice none 0 0]) 2 rfl (by kernel_rfl) rfl rfl)) (RV.tmp rfl) ?_ F_ hF_ hM_)
                    have hcp : CP xs o v0_ v1_ v2_ v3_ v4_ v5_ v6_ z6_ q6_ := ⟨_, _, _, _, _, _, _, _, _, _, _, _, _, _, _, hz25, hq26, hv27, ho, hst0, hst1, hst2, hst3, hst4, hst5, hst6⟩
                    have hno : ∀ (o' w' t' : UInt8) (am' id' : Nat) (ad' : Nat → UInt8) (ag' : Bool) (bd' : List UInt8), cmdE o' w' t' am' id' ad' ag' bd' = 0 → xs ≠ cmdB o' w' t' am' id' ad' ag' bd' := by
                      intro o' w' t' am' id' ad' ag' bd' he hx
                      obtain ⟨n1, n2, n3, n4⟩ := cp_no hcp he hx
                      omega
                    exact ⟨0, 0, 0, 0, 0, fun _ => 0, false, none, [], 0, 2, rfl, (H286.sub (List.nil_sublist _)).rowNil 5 1, by decide, by decide, by decide, .inr ⟨rfl, ⟨rfl, rfl⟩, hno⟩⟩
                · skip
                  have hb265f := eq_of_beq hb265
                  refine GL.run (j := 11) 8 [2, 5, 75] [(2, pt p3 0), (5, pt p33 0), (75, .bool true)] (by kernel_rfl) rfl ?_
                  refine GL.k rfl hK264 (fun _ _ h => h) ?_
                  refine G.yes rfl ?_
                  refine G.seqK fun K287 hK288 => ?_
                  refine G.region ?_
                  refine GL.run (j := 1) 1 [2, 76] [(2, pt p3 0), (76, .agg #[.int .u8 0, .int .u8 0, .int .u8 0, .int .u64 0, .int .u64 0, .int .u8 0, .int .u8 0, .int .u8 0, .int .u8 0, .int .u8 0, .int .u8 0, .int .u8 0, .int .u8 0, .int .u8 0, .int .u8 0, .int .u8 0, .int .u8 0, .int .u8 0, .int .u8 0, .int .u8 0, .int .u8 0, .int .u8 0, .int .u8 0, .int .u8 0, .int .u8 0, .bool false, .slice none 0 0])] (by kernel_rfl) rfl ?_
                  obtain ⟨w289, r290, H291⟩ := H260.stA (P := Try.prog) (o := 0) (vs := [.int .u8 0, .int .u8 0, .int .u8 0, .int .u64 0, .int .u64 0, .int .u8 0, .int .u8 0, .int .u8 0, .int .u8 0, .int .u8 0, .int .u8 0, .int .u8 0, .int .u8 0, .int .u8 0, .int .u8 0, .int .u8 0, .int .u8 0, .int .u8 0, .int .u8 0, .int .u8 0, .int .u8 0, .int .u8 0, .int .u8 0, .int .u8 0, .int .u8 0, .bool false, .slice none 0 0]) (ty := 28) (m := 27) 2 rfl (by kernel_rfl) rfl (by simp) (by simp [Value.oneCell'])
                  have H291 : Hp w [] [.blk p9 [.slice B6_ q6_.length b6_, .bool z6_] 74, .row A10 xs.length c11 5 1 (by8 xs), .blk p3 [.int .u8 0, .int .u8 0, .int .u8 0, .int .u64 0, .int .u64 0, .int .u8 0, .int .u8 0, .int .u8 0, .int .u8 0, .int .u8 0, .int .u8 0, .int .u8 0, .int .u8 0, .int .u8 0, .int .u8 0, .int .u8 0, .int .u8 0, .int .u8 0, .int .u8 0, .int .u8 0, .int .u8 0, .int .u8 0, .int .u8 0, .int .u8 0, .int .u8 0, .bool false, .slice none 0 0] 28, .blk p33 [.int .u8 (o.toNat : Int), .int .u8 ((getB v0_ : Nat) : Int), .int .u8 ((getB v1_ : Nat) : Int), .int .u64 ((getB v2_ : Nat) : Int), .int .u64 ((getB v3_ : Nat) : Int), .int .u8 ((v4_.getD 0 0).toNat : Int), .int .u8 ((v4_.getD 1 0).toNat : Int), .int .u8 ((v4_.getD 2 0).toNat : Int), .int .u8 ((v4_.getD 3 0).toNat : Int), .int .u8 ((v4_.getD 4 0).toNat : Int), .int .u8 ((v4_.getD 5 0).toNat : Int), .int .u8 ((v4_.getD 6 0).toNat : Int), .int .u8 ((v4_.getD 7 0).toNat : Int), .int .u8 ((v4_.getD 8 0).toNat : Int), .int .u8 ((v4_.getD 9 0).toNat : Int), .int .u8 ((v4_.getD 10 0).toNat : Int), .int .u8 ((v4_.getD 11 0).toNat : Int), .int .u8 ((v4_.getD 12 0).toNat : Int), .int .u8 ((v4_.getD 13 0).toNat : Int), .int .u8 ((v4_.getD 14 0).toNat : Int), .int .u8 ((v4_.getD 15 0).toNat : Int), .int .u8 ((v4_.getD 16 0).toNat : Int), .int .u8 ((v4_.getD 17 0).toNat : Int), .int .u8 ((v4_.getD 18 0).toNat : Int), .int .u8 ((v4_.getD 19 0).toNat : Int), .bool (((getB v5_ : Nat) : Int) == 1), .slice D_ v6_.length d_] 28, .row D_ v6_.length d_ 5 1 (by8 v6_)] w289 := H291
                  refine GL.semU (j := 2) r290 [2] [(2, pt p3 0)] (by kernel_rfl) rfl rfl rfl ?_
                  refine GL.run (j := 3) 1 [2, 3] [(2, pt p3 0), (3, .int .i64 2)] (by kernel_rfl) rfl ?_
                  refine GL.k rfl hK288 (fun _ _ h => h) ?_
                  refine G.ret ?_
                  intro F_ hF_ hM_
                  refine hRet _ _ (bodyPost_2 rfl (RV.cell rfl (H291.ldA (o := 0) (ty := 28) (m := 27) (sub := [.int .u8 0, .int .u8 0, .int .u8 0, .int .u64 0, .int .u64 0, .int .u8 0, .int .u8 0, .int .u8 0, .int .u8 0, .int .u8 0, .int .u8 0, .int .u8 0, .int .u8 0, .int .u8 0, .int .u8 0, .int .u8 0, .int .u8 0, .int .u8 0, .int .u8 0, .int .u8 0, .int .u8 0, .int .u8 0, .int .u8 0, .int .u8 0, .int .u8 0, .bool false, .slice none 0 0]) 2 rfl (by kernel_rfl) rfl rfl)) (RV.tmp rfl) ?_ F_ hF_ hM_)
                  have hcp : CP xs o v0_ v1_ v2_ v3_ v4_ v5_ v6_ z6_ q6_ := ⟨_, _, _, _, _, _, _, _, _, _, _, _, _, _, _, hz25, hq26, hv27, ho, hst0, hst1, hst2, hst3, hst4, hst5, hst6⟩
                  have hno : ∀ (o' w' t' : UInt8) (am' id' : Nat) (ad' : Nat → UInt8) (ag' : Bool) (bd' : List UInt8), cmdE o' w' t' am' id' ad' ag' bd' = 0 → xs ≠ cmdB o' w' t' am' id' ad' ag' bd' := by
                    intro o' w' t' am' id' ad' ag' bd' he hx
                    obtain ⟨n1, n2, n3, n4⟩ := cp_no hcp he hx
                    omega
                  exact ⟨0, 0, 0, 0, 0, fun _ => 0, false, none, [], 0, 2, rfl, (H291.sub (List.nil_sublist _)).rowNil 5 1, by decide, by decide, by decide, .inr ⟨rfl, ⟨rfl, rfl⟩, hno⟩⟩
end Go.Proofs.Ytkfhcogdpmndkaa
namespace Go.Proofs.Ytkfhcogdpmndkaa
open Go.RowKit
theorem fields_ex (w : World) : Calls Try.prog 17 #[.int .u8 1] w fun e w' => e = .returned (.int .i64 4) ∧ Hp w [] [] w' := by
  refine calls_G (args := [.int .u8 1]) Try.func17 rfl Try.ntmps17 rfl ?_
  intro Q0 hRet hNor hPan
  have H := Hp.start w
  have H : Hp w [] [] w := H
  refine G.seqK fun K1 hK2 => ?_
  refine G.region ?_
  refine GL.run (j := 1) 1 [0] [(0, .int .u8 1)] (by kernel_rfl) rfl ?_
  refine GL.k rfl hK2 (fun _ _ h => h) ?_
  refine G.seqK fun K3 hK4 => ?_
  refine G.seqK fun K5 hK6 => ?_
  refine G.region ?_
  refine GL.run (j := 1) 1 [3] [(3, .int .u8 1)] (by kernel_rfl) rfl ?_
  refine GL.k rfl hK6 (fun _ _ h => h) ?_
  refine G.block ?_
  refine G.seqK fun K7 hK8 => ?_
  refine G.seqK fun K9 hK10 => ?_
  refine G.region ?_
  refine GL.run (j := 2) 2 [3, 4] [(3, .int .u8 1), (4, .bool true)] (by kernel_rfl) rfl ?_
  refine GL.k rfl hK10 (fun _ _ h => h) ?_
  refine G.yes rfl ?_
  refine G.skipK hK8 (fun _ _ h => h) ?_
  refine G.yes rfl ?_
  refine G.seqK fun K11 hK12 => ?_
  refine G.region ?_
  refine GL.run (j := 1) 1 [2] [(2, .int .i64 4)] (by kernel_rfl) rfl ?_
  refine GL.k rfl hK12 (fun _ _ h => h) ?_
  refine G.ret ?_
  intro F_ hF_ hM_
  refine hRet _ _ (bodyPost_1 rfl (RV.tmp rfl) ?_ F_ hF_ hM_)
  exact ⟨rfl, H.sub (List.nil_sublist _)⟩
theorem set_ex (w : World) : Calls Try.prog 18 #[.agg #[.int .u8 1, .int .u8 0, .int .u8 0, .int .u64 5, .int .u64 0, .int .u8 0, .int .u8 0, .int .u8 0, .int .u8 0, .int .u8 0, .int .u8 0, .int .u8 0, .int .u8 0, .int .u8 0, .int .u8 0, .int .u8 0, .int .u8 0, .int .u8 0, .int .u8 0, .int .u8 0, .int .u8 0, .int .u8 0, .int .u8 0, .int .u8 0, .int .u8 0, .bool false, .slice none 0 0]] w fun e w' => e = .returned (.int .i64 4) ∧ Hp w [] [] w' := by
  refine calls_G (args := [.agg #[.int .u8 1, .int .u8 0, .int .u8 0, .int .u64 5, .int .u64 0, .int .u8 0, .int .u8 0, .int .u8 0, .int .u8 0, .int .u8 0, .int .u8 0, .int .u8 0, .int .u8 0, .int .u8 0, .int .u8 0, .int .u8 0, .int .u8 0, .int .u8 0, .int .u8 0, .int .u8 0, .int .u8 0, .int .u8 0, .int .u8 0, .int .u8 0, .int .u8 0, .bool false, .slice none 0 0]]) Try.func18 rfl Try.ntmps18 rfl ?_
  intro Q0 hRet hNor hPan
  have H := Hp.start w
  have H : Hp w [] [] w := H
  refine G.seqK fun K1 hK2 => ?_
  refine G.region ?_
  obtain ⟨p3, w4, r5, H6⟩ := H.box (P := Try.prog) 28 [.int .u8 1, .int .u8 0, .int .u8 0, .int .u64 5, .int .u64 0, .int .u8 0, .int .u8 0, .int .u8 0, .int .u8 0, .int .u8 0, .int .u8 0, .int .u8 0, .int .u8 0, .int .u8 0, .int .u8 0, .int .u8 0, .int .u8 0, .int .u8 0, .int .u8 0, .int .u8 0, .int .u8 0, .int .u8 0, .int .u8 0, .int .u8 0, .int .u8 0, .bool false, .slice none 0 0] (.agg #[.int .u8 1, .int .u8 0, .int .u8 0, .int .u64 5, .int .u64 0, .int .u8 0, .int .u8 0, .int .u8 0, .int .u8 0, .int .u8 0, .int .u8 0, .int .u8 0, .int .u8 0, .int .u8 0, .int .u8 0, .int .u8 0, .int .u8 0, .int .u8 0, .int .u8 0, .int .u8 0, .int .u8 0, .int .u8 0, .int .u8 0, .int .u8 0, .int .u8 0, .bool false, .slice none 0 0]) rfl
  have H6 : Hp w [] [.blk p3 [.int .u8 1, .int .u8 0, .int .u8 0, .int .u64 5, .int .u64 0, .int .u8 0, .int .u8 0, .int .u8 0, .int .u8 0, .int .u8 0, .int .u8 0, .int .u8 0, .int .u8 0, .int .u8 0, .int .u8 0, .int .u8 0, .int .u8 0, .int .u8 0, .int .u8 0, .int .u8 0, .int .u8 0, .int .u8 0, .int .u8 0, .int .u8 0, .int .u8 0, .bool false, .slice none 0 0] 28] w4 := H6
  refine GL.sem (j := 1) (r5) [1] [(1, pt p3 0)] (by kernel_rfl) (by kernel_rfl) rfl ?_
  refine GL.run (j := 2) 1 [1] [(1, pt p3 0)] (by kernel_rfl) rfl ?_
  refine GL.k rfl hK2 (fun _ _ h => h) ?_
  refine G.seqK fun K7 hK8 => ?_
  refine G.region ?_
  refine GL.run (j := 1) 1 [1, 3] [(1, pt p3 0), (3, .int .i64 0)] (by kernel_rfl) rfl ?_
  refine GL.k rfl hK8 (fun _ _ h => h) ?_
  refine G.seqK fun K9 hK10 => ?_
  refine G.seqK fun K11 hK12 => ?_
  refine G.draw H6 (by kernel_rfl) (by kernel_rfl) ?_
  refine GQ.run (j := 1) 1 [1, 3, 6] [(1, pt p3 0), (3, .int .i64 0), (6, pt p3 1)] (by kernel_rfl) rfl ?_
  refine GQ.sem (j := 2) (fun w_ H_ => H_.ld (o := 1) (ty := 22) (v := .int .u8 0) 0 rfl (by kernel_rfl) rfl) [1, 3, 7] [(1, pt p3 0), (3, .int .i64 0), (7, .int .u8 0)] (by kernel_rfl) (by kernel_rfl) rfl ?_
  refine GQ.run (j := 4) 2 [1, 3, 8, 9] [(1, pt p3 0), (3, .int .i64 0), (8, .bool false), (9, pt p3 2)] (by kernel_rfl) rfl ?_
  refine GQ.sem (j := 5) (fun w_ H_ => H_.ld (o := 2) (ty := 22) (v := .int .u8 0) 0 rfl (by kernel_rfl) rfl) [1, 3, 8, 10] [(1, pt p3 0), (3, .int .i64 0), (8, .bool false), (10, .int .u8 0)] (by kernel_rfl) (by kernel_rfl) rfl ?_
  refine GQ.run (j := 7) 2 [1, 3, 8, 11, 12] [(1, pt p3 0), (3, .int .i64 0), (8, .bool false), (11, .bool false), (12, pt p3 3)] (by kernel_rfl) rfl ?_
  refine GQ.sem (j := 8) (fun w_ H_ => H_.ld (o := 3) (ty := 23) (v := .int .u64 5) 0 rfl (by kernel_rfl) rfl) [1, 3, 8, 11, 13] [(1, pt p3 0), (3, .int .i64 0), (8, .bool false), (11, .bool false), (13, .int .u64 5)] (by kernel_rfl) (by kernel_rfl) rfl ?_
  refine GQ.run (j := 10) 2 [1, 3, 8, 11, 14, 15] [(1, pt p3 0), (3, .int .i64 0), (8, .bool false), (11, .bool false), (14, .bool true), (15, pt p3 4)] (by kernel_rfl) rfl ?_
  refine GQ.sem (j := 11) (fun w_ H_ => H_.ld (o := 4) (ty := 23) (v := .int .u64 0) 0 rfl (by kernel_rfl) rfl) [1, 3, 8, 11, 14, 16] [(1, pt p3 0), (3, .int .i64 0), (8, .bool false), (11, .bool false), (14, .bool true), (16, .int .u64 0)] (by kernel_rfl) (by kernel_rfl) rfl ?_
  refine GQ.run (j := 13) 2 [1, 3, 8, 11, 14, 17, 18] [(1, pt p3 0), (3, .int .i64 0), (8, .bool false), (11, .bool false), (14, .bool true), (17, .bool false), (18, pt p3 5)] (by kernel_rfl) rfl ?_
  refine GQ.sem (j := 14) (fun w_ H_ => H_.ldA (o := 5) (ty := 25) (m := 20) (sub := [.int .u8 0, .int .u8 0, .int .u8 0, .int .u8 0, .int .u8 0, .int .u8 0, .int .u8 0, .int .u8 0, .int .u8 0, .int .u8 0, .int .u8 0, .int .u8 0, .int .u8 0, .int .u8 0, .int .u8 0, .int .u8 0, .int .u8 0, .int .u8 0, .int .u8 0, .int .u8 0]) 0 rfl (by kernel_rfl) rfl rfl) [1, 3, 8, 11, 14, 17, 19] [(1, pt p3 0), (3, .int .i64 0), (8, .bool false), (11, .bool false), (14, .bool true), (17, .bool false), (19, .agg #[.int .u8 0, .int .u8 0, .int .u8 0, .int .u8 0, .int .u8 0, .int .u8 0, .int .u8 0, .int .u8 0, .int .u8 0, .int .u8 0, .int .u8 0, .int .u8 0, .int .u8 0, .int .u8 0, .int .u8 0, .int .u8 0, .int .u8 0, .int .u8 0, .int .u8 0, .int .u8 0])] (by kernel_rfl) (by kernel_rfl) rfl ?_
  refine GQ.run (j := 15) 1 [1, 3, 8, 11, 14, 17, 19, 20] [(1, pt p3 0), (3, .int .i64 0), (8, .bool false), (11, .bool false), (14, .bool true), (17, .bool false), (19, .agg #[.int .u8 0, .int .u8 0, .int .u8 0, .int .u8 0, .int .u8 0, .int .u8 0, .int .u8 0, .int .u8 0, .int .u8 0, .int .u8 0, .int .u8 0, .int .u8 0, .int .u8 0, .int .u8 0, .int .u8 0, .int .u8 0, .int .u8 0, .int .u8 0, .int .u8 0, .int .u8 0]), (20, .agg #[.int .u8 0, .int .u8 0, .int .u8 0, .int .u8 0, .int .u8 0, .int .u8 0, .int .u8 0, .int .u8 0, .int .u8 0, .int .u8 0, .int .u8 0, .int .u8 0, .int .u8 0, .int .u8 0, .int .u8 0, .int .u8 0, .int .u8 0, .int .u8 0, .int .u8 0, .int .u8 0])] (by kernel_rfl) rfl ?_
  refine GQ.sem (j := 16) (fun w_ H_ => run_arr_neq (P := Try.prog) (t := 25) (n := 20) (k := .u8) (x := (.tmp 19)) (y := (.tmp 20)) (by kernel_rfl) [0, 0, 0, 0, 0, 0, 0, 0, 0, 0, 0, 0, 0, 0, 0, 0, 0, 0, 0, 0] [0, 0, 0, 0, 0, 0, 0, 0, 0, 0, 0, 0, 0, 0, 0, 0, 0, 0, 0, 0] rfl rfl _) [1, 3, 8, 11, 14, 17, 21] [(1, pt p3 0), (3, .int .i64 0), (8, .bool false), (11, .bool false), (14, .bool true), (17, .bool false), (21, .bool false)] (by kernel_rfl) (by kernel_rfl) rfl ?_
  refine GQ.run (j := 17) 1 [1, 3, 8, 11, 14, 17, 21, 22] [(1, pt p3 0), (3, .int .i64 0), (8, .bool false), (11, .bool false), (14, .bool true), (17, .bool false), (21, .bool false), (22, pt p3 25)] (by kernel_rfl) rfl ?_
  refine GQ.sem (j := 18) (fun w_ H_ => H_.ld (o := 25) (ty := 4) (v := .bool false) 0 rfl (by kernel_rfl) rfl) [1, 3, 8, 11, 14, 17, 21, 23] [(1, pt p3 0), (3, .int .i64 0), (8, .bool false), (11, .bool false), (14, .bool true), (17, .bool false), (21, .bool false), (23, .bool false)] (by kernel_rfl) (by kernel_rfl) rfl ?_
  refine GQ.run (j := 19) 1 [3, 8, 11, 14, 17, 21, 23, 24] [(3, .int .i64 0), (8, .bool false), (11, .bool false), (14, .bool true), (17, .bool false), (21, .bool false), (23, .bool false), (24, pt p3 26)] (by kernel_rfl) rfl ?_
  refine GQ.sem (j := 20) (fun w_ H_ => H_.ld (o := 26) (ty := 26) (v := .slice none 0 0) 0 rfl (by kernel_rfl) rfl) [3, 8, 11, 14, 17, 21, 23, 25] [(3, .int .i64 0), (8, .bool false), (11, .bool false), (14, .bool true), (17, .bool false), (21, .bool false), (23, .bool false), (25, .slice none 0 0)] (by kernel_rfl) (by kernel_rfl) rfl ?_
  refine GQ.run (j := 24) 4 [3, 28, 29] [(3, .int .i64 0), (28, .agg #[.bool false, .bool false, .bool true, .bool false, .bool false, .bool false, .bool false]), (29, .int .i64 0)] (by kernel_rfl) rfl ?_
  refine GQ.k rfl hK12 (fun _ _ h => h) (fun w13 H14 => ?_)
  refine G.block ?_
  refine G.unroll 7 ?_
  refine G.seqK fun K15 hK16 => ?_
  refine G.region ?_
  refine GL.run (j := 1) 1 [3, 28, 29, 30] [(3, .int .i64 0), (28, .agg #[.bool false, .bool false, .bool true, .bool false, .bool false, .bool false, .bool false]), (29, .int .i64 0), (30, .bool true)] (by kernel_rfl) rfl ?_
  refine GL.k rfl hK16 (fun _ _ h => h) ?_
  refine G.seqK fun K17 hK18 => ?_
  refine G.yes rfl ?_
  refine G.skipK hK18 (fun _ _ h => h) ?_
  refine G.seqK fun K19 hK20 => ?_
  refine G.block ?_
  refine G.seqK fun K21 hK22 => ?_
  refine G.region ?_
  refine GL.run (j := 4) 4 [3, 4, 5, 28, 29] [(3, .int .i64 0), (4, .int .i64 0), (5, .bool false), (28, .agg #[.bool false, .bool false, .bool true, .bool false, .bool false, .bool false, .bool false]), (29, .int .i64 0)] (by kernel_rfl) rfl ?_
  refine GL.k rfl hK22 (fun _ _ h => h) ?_
  refine G.seqK fun K23 hK24 => ?_
  refine G.region ?_
  refine GL.run (j := 1) 1 [3, 4, 28, 29, 33] [(3, .int .i64 0), (4, .int .i64 0), (28, .agg #[.bool false, .bool false, .bool true, .bool false, .bool false, .bool false, .bool false]), (29, .int .i64 0), (33, .bool false)] (by kernel_rfl) rfl ?_
  refine GL.k rfl hK24 (fun _ _ h => h) ?_
  refine G.no rfl ?_
  refine G.skipK hK20 (fun _ _ h => h) ?_
  refine G.region ?_
  refine GL.run (j := 2) 2 [3, 28, 29] [(3, .int .i64 0), (28, .agg #[.bool false, .bool false, .bool true, .bool false, .bool false, .bool false, .bool false]), (29, .int .i64 1)] (by kernel_rfl) rfl ?_
  refine GL.round rfl ?_
  refine G.seqK fun K25 hK26 => ?_
  refine G.region ?_
  refine GL.run (j := 1) 1 [3, 28, 29, 30] [(3, .int .i64 0), (28, .agg #[.bool false, .bool false, .bool true, .bool false, .bool false, .bool false, .bool false]), (29, .int .i64 1), (30, .bool true)] (by kernel_rfl) rfl ?_
  refine GL.k rfl hK26 (fun _ _ h => h) ?_
  refine G.seqK fun K27 hK28 => ?_
  refine G.yes rfl ?_
  refine G.skipK hK28 (fun _ _ h => h) ?_
  refine G.seqK fun K29 hK30 => ?_
  refine G.block ?_
  refine G.seqK fun K31 hK32 => ?_
  refine G.region ?_
  refine GL.run (j := 4) 4 [3, 4, 5, 28, 29] [(3, .int .i64 0), (4, .int .i64 1), (5, .bool false), (28, .agg #[.bool false, .bool false, .bool true, .bool false, .bool false, .bool false, .bool false]), (29, .int .i64 1)] (by kernel_rfl) rfl ?_
  refine GL.k rfl hK32 (fun _ _ h => h) ?_
  refine G.seqK fun K33 hK34 => ?_
  refine G.region ?_
  refine GL.run (j := 1) 1 [3, 4, 28, 29, 33] [(3, .int .i64 0), (4, .int .i64 1), (28, .agg #[.bool false, .bool false, .bool true, .bool false, .bool false, .bool false, .bool false]), (29, .int .i64 1), (33, .bool false)] (by kernel_rfl) rfl ?_
  refine GL.k rfl hK34 (fun _ _ h => h) ?_
  refine G.no rfl ?_
  refine G.skipK hK30 (fun _ _ h => h) ?_
  refine G.region ?_
  refine GL.run (j := 2) 2 [3, 28, 29] [(3, .int .i64 0), (28, .agg #[.bool false, .bool false, .bool true, .bool false, .bool false, .bool false, .bool false]), (29, .int .i64 2)] (by kernel_rfl) rfl ?_
  refine GL.round rfl ?_
  refine G.seqK fun K35 hK36 => ?_
  refine G.region ?_
  refine GL.run (j := 1) 1 [3, 28, 29, 30] [(3, .int .i64 0), (28, .agg #[.bool false, .bool false, .bool true, .bool false, .bool false, .bool false, .bool false]), (29, .int .i64 2), (30, .bool true)] (by kernel_rfl) rfl ?_
  refine GL.k rfl hK36 (fun _ _ h => h) ?_
  refine G.seqK fun K37 hK38 => ?_
  refine G.yes rfl ?_
  refine G.skipK hK38 (fun _ _ h => h) ?_
  refine G.seqK fun K39 hK40 => ?_
  refine G.block ?_
  refine G.seqK fun K41 hK42 => ?_
  refine G.region ?_
  refine GL.run (j := 4) 4 [3, 4, 5, 28, 29] [(3, .int .i64 0), (4, .int .i64 2), (5, .bool true), (28, .agg #[.bool false, .bool false, .bool true, .bool false, .bool false, .bool false, .bool false]), (29, .int .i64 2)] (by kernel_rfl) rfl ?_
  refine GL.k rfl hK42 (fun _ _ h => h) ?_
  refine G.seqK fun K43 hK44 => ?_
  refine G.region ?_
  refine GL.run (j := 1) 1 [3, 4, 28, 29, 33] [(3, .int .i64 0), (4, .int .i64 2), (28, .agg #[.bool false, .bool false, .bool true, .bool false, .bool false, .bool false, .bool false]), (29, .int .i64 2), (33, .bool true)] (by kernel_rfl) rfl ?_
  refine GL.k rfl hK44 (fun _ _ h => h) ?_
  refine G.yes rfl ?_
  refine G.region ?_
  refine GL.run (j := 5) 5 [3, 28, 29] [(3, .int .i64 4), (28, .agg #[.bool false, .bool false, .bool true, .bool false, .bool false, .bool false, .bool false]), (29, .int .i64 2)] (by kernel_rfl) rfl ?_
  refine GL.k rfl hK40 (fun _ _ h => h) ?_
  refine G.region ?_
  refine GL.run (j := 2) 2 [3, 28, 29] [(3, .int .i64 4), (28, .agg #[.bool false, .bool false, .bool true, .bool false, .bool false, .bool false, .bool false]), (29, .int .i64 3)] (by kernel_rfl) rfl ?_
  refine GL.round rfl ?_
  refine G.seqK fun K45 hK46 => ?_
  refine G.region ?_
  refine GL.run (j := 1) 1 [3, 28, 29, 30] [(3, .int .i64 4), (28, .agg #[.bool false, .bool false, .bool true, .bool false, .bool false, .bool false, .bool false]), (29, .int .i64 3), (30, .bool true)] (by kernel_rfl) rfl ?_
  refine GL.k rfl hK46 (fun _ _ h => h) ?_
  refine G.seqK fun K47 hK48 => ?_
  refine G.yes rfl ?_
  refine G.skipK hK48 (fun _ _ h => h) ?_
  refine G.seqK fun K49 hK50 => ?_
  refine G.block ?_
  refine G.seqK fun K51 hK52 => ?_
  refine G.region ?_
  refine GL.run (j := 4) 4 [3, 4, 5, 28, 29] [(3, .int .i64 4), (4, .int .i64 3), (5, .bool false), (28, .agg #[.bool false, .bool false, .bool true, .bool false, .bool false, .bool false, .bool false]), (29, .int .i64 3)] (by kernel_rfl) rfl ?_
  refine GL.k rfl hK52 (fun _ _ h => h) ?_
  refine G.seqK fun K53 hK54 => ?_
  refine G.region ?_
  refine GL.run (j := 1) 1 [3, 4, 28, 29, 33] [(3, .int .i64 4), (4, .int .i64 3), (28, .agg #[.bool false, .bool false, .bool true, .bool false, .bool false, .bool false, .bool false]), (29, .int .i64 3), (33, .bool false)] (by kernel_rfl) rfl ?_
  refine GL.k rfl hK54 (fun _ _ h => h) ?_
  refine G.no rfl ?_
  refine G.skipK hK50 (fun _ _ h => h) ?_
  refine G.region ?_
  refine GL.run (j := 2) 2 [3, 28, 29] [(3, .int .i64 4), (28, .agg #[.bool false, .bool false, .bool true, .bool false, .bool false, .bool false, .bool false]), (29, .int .i64 4)] (by kernel_rfl) rfl ?_
  refine GL.round rfl ?_
  refine G.seqK fun K55 hK56 => ?_
  refine G.region ?_
  refine GL.run (j := 1) 1 [3, 28, 29, 30] [(3, .int .i64 4), (28, .agg #[.bool false, .bool false, .bool true, .bool false, .bool false, .bool false, .bool false]), (29, .int .i64 4), (30, .bool true)] (by kernel_rfl) rfl ?_
  refine GL.k rfl hK56 (fun _ _ h => h) ?_
  refine G.seqK fun K57 hK58 => ?_
  refine G.yes rfl ?_
  refine G.skipK hK58 (fun _ _ h => h) ?_
  refine G.seqK fun K59 hK60 => ?_
  refine G.block ?_
  refine G.seqK fun K61 hK62 => ?_
  refine G.region ?_
  refine GL.run (j := 4) 4 [3, 4, 5, 28, 29] [(3, .int .i64 4), (4, .int .i64 4), (5, .bool false), (28, .agg #[.bool false, .bool false, .bool true, .bool false, .bool false, .bool false, .bool false]), (29, .int .i64 4)] (by kernel_rfl) rfl ?_
  refine GL.k rfl hK62 (fun _ _ h => h) ?_
  refine G.seqK fun K63 hK64 => ?_
  refine G.region ?_
  refine GL.run (j := 1) 1 [3, 4, 28, 29, 33] [(3, .int .i64 4), (4, .int .i64 4), (28, .agg #[.bool false, .bool false, .bool true, .bool false, .bool false, .bool false, .bool false]), (29, .int .i64 4), (33, .bool false)] (by kernel_rfl) rfl ?_
  refine GL.k rfl hK64 (fun _ _ h => h) ?_
  refine G.no rfl ?_
  refine G.skipK hK60 (fun _ _ h => h) ?_
  refine G.region ?_
  refine GL.run (j := 2) 2 [3, 28, 29] [(3, .int .i64 4), (28, .agg #[.bool false, .bool false, .bool true, .bool false, .bool false, .bool false, .bool false]), (29, .int .i64 5)] (by kernel_rfl) rfl ?_
  refine GL.round rfl ?_
  refine G.seqK fun K65 hK66 => ?_
  refine G.region ?_
  refine GL.run (j := 1) 1 [3, 28, 29, 30] [(3, .int .i64 4), (28, .agg #[.bool false, .bool false, .bool true, .bool false, .bool false, .bool false, .bool false]), (29, .int .i64 5), (30, .bool true)] (by kernel_rfl) rfl ?_
  refine GL.k rfl hK66 (fun _ _ h => h) ?_
  refine G.seqK fun K67 hK68 => ?_
  refine G.yes rfl ?_
  refine G.skipK hK68 (fun _ _ h => h) ?_
  refine G.seqK fun K69 hK70 => ?_
  refine G.block ?_
  refine G.seqK fun K71 hK72 => ?_
  refine G.region ?_
  refine GL.run (j := 4) 4 [3, 4, 5, 28, 29] [(3, .int .i64 4), (4, .int .i64 5), (5, .bool false), (28, .agg #[.bool false, .bool false, .bool true, .bool false, .bool false, .bool false, .bool false]), (29, .int .i64 5)] (by kernel_rfl) rfl ?_
  refine GL.k rfl hK72 (fun _ _ h => h) ?_
  refine G.seqK fun K73 hK74 => ?_
  refine G.region ?_
  refine GL.run (j := 1) 1 [3, 4, 28, 29, 33] [(3, .int .i64 4), (4, .int .i64 5), (28, .agg #[.bool false, .bool false, .bool true, .bool false, .bool false, .bool false, .bool false]), (29, .int .i64 5), (33, .bool false)] (by kernel_rfl) rfl ?_
  refine GL.k rfl hK74 (fun _ _ h => h) ?_
  refine G.no rfl ?_
  refine G.skipK hK70 (fun _ _ h => h) ?_
  refine G.region ?_
  refine GL.run (j := 2) 2 [3, 28, 29] [(3, .int .i64 4), (28, .agg #[.bool false, .bool false, .bool true, .bool false, .bool false, .bool false, .bool false]), (29, .int .i64 6)] (by kernel_rfl) rfl ?_
  refine GL.round rfl ?_
  refine G.seqK fun K75 hK76 => ?_
  refine G.region ?_
  refine GL.run (j := 1) 1 [3, 28, 29, 30] [(3, .int .i64 4), (28, .agg #[.bool false, .bool false, .bool true, .bool false, .bool false, .bool false, .bool false]), (29, .int .i64 6), (30, .bool true)] (by kernel_rfl) rfl ?_
  refine GL.k rfl hK76 (fun _ _ h => h) ?_
  refine G.seqK fun K77 hK78 => ?_
  refine G.yes rfl ?_
  refine G.skipK hK78 (fun _ _ h => h) ?_
  refine G.seqK fun K79 hK80 => ?_
  refine G.block ?_
  refine G.seqK fun K81 hK82 => ?_
  refine G.region ?_
  refine GL.run (j := 4) 4 [3, 4, 5, 28, 29] [(3, .int .i64 4), (4, .int .i64 6), (5, .bool false), (28, .agg #[.bool false, .bool false, .bool true, .bool false, .bool false, .bool false, .bool false]), (29, .int .i64 6)] (by kernel_rfl) rfl ?_
  refine GL.k rfl hK82 (fun _ _ h => h) ?_
  refine G.seqK fun K83 hK84 => ?_
  refine G.region ?_
  refine GL.run (j := 1) 1 [3, 4, 28, 29, 33] [(3, .int .i64 4), (4, .int .i64 6), (28, .agg #[.bool false, .bool false, .bool true, .bool false, .bool false, .bool false, .bool false]), (29, .int .i64 6), (33, .bool false)] (by kernel_rfl) rfl ?_
  refine GL.k rfl hK84 (fun _ _ h => h) ?_
  refine G.no rfl ?_
  refine G.skipK hK80 (fun _ _ h => h) ?_
  refine G.region ?_
  refine GL.run (j := 2) 2 [3, 28, 29] [(3, .int .i64 4), (28, .agg #[.bool false, .bool false, .bool true, .bool false, .bool false, .bool false, .bool false]), (29, .int .i64 7)] (by kernel_rfl) rfl ?_
  refine GL.round rfl ?_
  refine G.seqK fun K85 hK86 => ?_
  refine G.region ?_
  refine GL.run (j := 1) 1 [3, 28, 29, 30] [(3, .int .i64 4), (28, .agg #[.bool false, .bool false, .bool true, .bool false, .bool false, .bool false, .bool false]), (29, .int .i64 7), (30, .bool false)] (by kernel_rfl) rfl ?_
  refine GL.k rfl hK86 (fun _ _ h => h) ?_
  refine G.seqK fun K87 hK88 => ?_
  refine G.no rfl ?_
  refine G.exitK hK10 (fun _ _ h => h) ?_
  refine G.seqK fun K89 hK90 => ?_
  refine G.region ?_
  refine GL.run (j := 2) 2 [2] [(2, .int .i64 4)] (by kernel_rfl) rfl ?_
  refine GL.k rfl hK90 (fun _ _ h => h) ?_
  refine G.ret ?_
  intro F_ hF_ hM_
  refine hRet _ _ (bodyPost_1 rfl (RV.tmp rfl) ?_ F_ hF_ hM_)
  exact ⟨rfl, H14.sub (List.nil_sublist _)⟩
theorem Bytes_ex (w : World) : Calls Try.prog 8 #[.agg #[.int .u8 1, .int .u8 0, .int .u8 0, .int .u64 5, .int .u64 0, .int .u8 0, .int .u8 0, .int .u8 0, .int .u8 0, .int .u8 0, .int .u8 0, .int .u8 0, .int .u8 0, .int .u8 0, .int .u8 0, .int .u8 0, .int .u8 0, .int .u8 0, .int .u8 0, .int .u8 0, .int .u8 0, .int .u8 0, .int .u8 0, .int .u8 0, .int .u8 0, .bool false, .slice none 0 0]] w fun e w' => ∃ A c, e = .returned (.tuple #[.slice A 9 c, .int .i64 0]) ∧ Hp w [] [.row A 9 c 5 1 (by8 (putB 1 1 ++ putB 5 8))] w' := by
  refine calls_G (args := [.agg #[.int .u8 1, .int .u8 0, .int .u8 0, .int .u64 5, .int .u64 0, .int .u8 0, .int .u8 0, .int .u8 0, .int .u8 0, .int .u8 0, .int .u8 0, .int .u8 0, .int .u8 0, .int .u8 0, .int .u8 0, .int .u8 0, .int .u8 0, .int .u8 0, .int .u8 0, .int .u8 0, .int .u8 0, .int .u8 0, .int .u8 0, .int .u8 0, .int .u8 0, .bool false, .slice none 0 0]]) Try.func8 rfl Try.ntmps8 rfl ?_
  intro Q0 hRet hNor hPan
  have H := Hp.start w
  have H : Hp w [] [] w := H
  refine G.seqK fun K1 hK2 => ?_
  refine G.region ?_
  obtain ⟨p3, w4, r5, H6⟩ := H.box (P := Try.prog) 28 [.int .u8 1, .int .u8 0, .int .u8 0, .int .u64 5, .int .u64 0, .int .u8 0, .int .u8 0, .int .u8 0, .int .u8 0, .int .u8 0, .int .u8 0, .int .u8 0, .int .u8 0, .int .u8 0, .int .u8 0, .int .u8 0, .int .u8 0, .int .u8 0, .int .u8 0, .int .u8 0, .int .u8 0, .int .u8 0, .int .u8 0, .int .u8 0, .int .u8 0, .bool false, .slice none 0 0] (.agg #[.int .u8 1, .int .u8 0, .int .u8 0, .int .u64 5, .int .u64 0, .int .u8 0, .int .u8 0, .int .u8 0, .int .u8 0, .int .u8 0, .int .u8 0, .int .u8 0, .int .u8 0, .int .u8 0, .int .u8 0, .int .u8 0, .int .u8 0, .int .u8 0, .int .u8 0, .int .u8 0, .int .u8 0, .int .u8 0, .int .u8 0, .int .u8 0, .int .u8 0, .bool false, .slice none 0 0]) rfl
  have H6 : Hp w [] [.blk p3 [.int .u8 1, .int .u8 0, .int .u8 0, .int .u64 5, .int .u64 0, .int .u8 0, .int .u8 0, .int .u8 0, .int .u8 0, .int .u8 0, .int .u8 0, .int .u8 0, .int .u8 0, .int .u8 0, .int .u8 0, .int .u8 0, .int .u8 0, .int .u8 0, .int .u8 0, .int .u8 0, .int .u8 0, .int .u8 0, .int .u8 0, .int .u8 0, .int .u8 0, .bool false, .slice none 0 0] 28] w4 := H6
  refine GL.sem (j := 1) (r5) [1] [(1, pt p3 0)] (by kernel_rfl) (by kernel_rfl) rfl ?_
  refine GL.run (j := 3) 2 [1] [(1, pt p3 0)] (by kernel_rfl) rfl ?_
  refine GL.k rfl hK2 (fun _ _ h => h) ?_
  refine G.seqK fun K7 hK8 => ?_
  refine G.region ?_
  refine GL.run (j := 1) 1 [1, 8] [(1, pt p3 0), (8, pt p3 0)] (by kernel_rfl) rfl ?_
  refine GL.sem (j := 2) (H6.ld (o := 0) (ty := 5) (v := .int .u8 1) 0 rfl (by kernel_rfl) rfl) [1, 9] [(1, pt p3 0), (9, .int .u8 1)] (by kernel_rfl) (by kernel_rfl) rfl ?_
  refine GL.call (j := 3) (fields_ex w4) (by kernel_rfl) rfl (fun e_ w9 hR => ?_)
  obtain ⟨rfl, H11⟩ := hR
  have H10 : Hp w [] [.blk p3 [.int .u8 1, .int .u8 0, .int .u8 0, .int .u64 5, .int .u64 0, .int .u8 0, .int .u8 0, .int .u8 0, .int .u8 0, .int .u8 0, .int .u8 0, .int .u8 0, .int .u8 0, .int .u8 0, .int .u8 0, .int .u8 0, .int .u8 0, .int .u8 0, .int .u8 0, .int .u8 0, .int .u8 0, .int .u8 0, .int .u8 0, .int .u8 0, .int .u8 0, .bool false, .slice none 0 0] 28] w9 := H6.callNil H11
  refine ⟨_, rfl, [1, 10], [(1, pt p3 0), (10, .int .i64 4)], by kernel_rfl, ?_⟩
  refine GL.run (j := 4) 1 [1, 4] [(1, pt p3 0), (4, .int .i64 4)] (by kernel_rfl) rfl ?_
  refine GL.k rfl hK8 (fun _ _ h => h) ?_
  refine G.seqK fun K12 hK13 => ?_
  refine G.block ?_
  refine G.seqK fun K14 hK15 => ?_
  refine G.region ?_
  refine GL.run (j := 3) 3 [1, 4, 14] [(1, pt p3 0), (4, .int .i64 4), (14, .bool false)] (by kernel_rfl) rfl ?_
  refine GL.sem (j := 4) (H10.ldA (o := 0) (ty := 28) (m := 27) (sub := [.int .u8 1, .int .u8 0, .int .u8 0, .int .u64 5, .int .u64 0, .int .u8 0, .int .u8 0, .int .u8 0, .int .u8 0, .int .u8 0, .int .u8 0, .int .u8 0, .int .u8 0, .int .u8 0, .int .u8 0, .int .u8 0, .int .u8 0, .int .u8 0, .int .u8 0, .int .u8 0, .int .u8 0, .int .u8 0, .int .u8 0, .int .u8 0, .int .u8 0, .bool false, .slice none 0 0]) 0 rfl (by kernel_rfl) rfl rfl) [1, 4, 14, 15] [(1, pt p3 0), (4, .int .i64 4), (14, .bool false), (15, .agg #[.int .u8 1, .int .u8 0, .int .u8 0, .int .u64 5, .int .u64 0, .int .u8 0, .int .u8 0, .int .u8 0, .int .u8 0, .int .u8 0, .int .u8 0, .int .u8 0, .int .u8 0, .int .u8 0, .int .u8 0, .int .u8 0, .int .u8 0, .int .u8 0, .int .u8 0, .int .u8 0, .int .u8 0, .int .u8 0, .int .u8 0, .int .u8 0, .int .u8 0, .bool false, .slice none 0 0])] (by kernel_rfl) (by kernel_rfl) rfl ?_
  refine GL.call (j := 5) (set_ex w9) (by kernel_rfl) rfl (fun e_ w16 hR => ?_)
  obtain ⟨rfl, H18⟩ := hR
  have H17 : Hp w [] [.blk p3 [.int .u8 1, .int .u8 0, .int .u8 0, .int .u64 5, .int .u64 0, .int .u8 0, .int .u8 0, .int .u8 0, .int .u8 0, .int .u8 0, .int .u8 0, .int .u8 0, .int .u8 0, .int .u8 0, .int .u8 0, .int .u8 0, .int .u8 0, .int .u8 0, .int .u8 0, .int .u8 0, .int .u8 0, .int .u8 0, .int .u8 0, .int .u8 0, .int .u8 0, .bool false, .slice none 0 0] 28] w16 := H10.callNil H18
  refine ⟨_, rfl, [1, 4, 14, 16], [(1, pt p3 0), (4, .int .i64 4), (14, .bool false), (16, .int .i64 4)], by kernel_rfl, ?_⟩
  refine GL.run (j := 10) 5 [1, 4, 11] [(1, pt p3 0), (4, .int .i64 4), (11, .bool false)] (by kernel_rfl) rfl ?_
  refine GL.k rfl hK15 (fun _ _ h => h) ?_
  refine G.no rfl ?_
  refine G.seqK fun K19 hK20 => ?_
  refine G.region ?_
  refine GL.run (j := 1) 1 [1, 4, 22] [(1, pt p3 0), (4, .int .i64 4), (22, pt p3 26)] (by kernel_rfl) rfl ?_
  refine GL.sem (j := 2) (H17.ld (o := 26) (ty := 26) (v := .slice none 0 0) 0 rfl (by kernel_rfl) rfl) [1, 4, 23] [(1, pt p3 0), (4, .int .i64 4), (23, .slice none 0 0)] (by kernel_rfl) (by kernel_rfl) rfl ?_
  refine GL.run (j := 5) 3 [1, 4, 21] [(1, pt p3 0), (4, .int .i64 4), (21, .bool false)] (by kernel_rfl) rfl ?_
  refine GL.k rfl hK20 (fun _ _ h => h) ?_
  refine G.no rfl ?_
  refine G.skipK hK13 (fun _ _ h => h) ?_
  refine G.seqK fun K21 hK22 => ?_
  refine G.region ?_
  obtain ⟨p23, w24, r25, H26⟩ := H17.alloc (P := Try.prog) 53 [.slice none 0 0] (by kernel_rfl)
  have H26 : Hp w [] [.blk p3 [.int .u8 1, .int .u8 0, .int .u8 0, .int .u64 5, .int .u64 0, .int .u8 0, .int .u8 0, .int .u8 0, .int .u8 0, .int .u8 0, .int .u8 0, .int .u8 0, .int .u8 0, .int .u8 0, .int .u8 0, .int .u8 0, .int .u8 0, .int .u8 0, .int .u8 0, .int .u8 0, .int .u8 0, .int .u8 0, .int .u8 0, .int .u8 0, .int .u8 0, .bool false, .slice none 0 0] 28, .blk p23 [.slice none 0 0] 53] w24 := H26
  refine GL.sem (j := 1) (r25) [1, 4, 5] [(1, pt p3 0), (4, .int .i64 4), (5, pt p23 0)] (by kernel_rfl) (by kernel_rfl) rfl ?_
  refine GL.k rfl hK22 (fun _ _ h => h) ?_
  refine G.seqK fun K27 hK28 => ?_
  refine G.region ?_
  refine GL.run (j := 1) 1 [1, 4, 5, 26] [(1, pt p3 0), (4, .int .i64 4), (5, pt p23 0), (26, pt p3 0)] (by kernel_rfl) rfl ?_
  refine GL.sem (j := 2) (H26.ld (o := 0) (ty := 5) (v := .int .u8 1) 0 rfl (by kernel_rfl) rfl) [1, 4, 5, 27] [(1, pt p3 0), (4, .int .i64 4), (5, pt p23 0), (27, .int .u8 1)] (by kernel_rfl) (by kernel_rfl) rfl ?_
  refine GL.run (j := 3) 1 [1, 4, 5, 28] [(1, pt p3 0), (4, .int .i64 4), (5, pt p23 0), (28, .int .u64 1)] (by kernel_rfl) rfl ?_
  have H29 := H26.rowNil 5 1
  have H29 : Hp w [] [.blk p3 [.int .u8 1, .int .u8 0, .int .u8 0, .int .u64 5, .int .u64 0, .int .u8 0, .int .u8 0, .int .u8 0, .int .u8 0, .int .u8 0, .int .u8 0, .int .u8 0, .int .u8 0, .int .u8 0, .int .u8 0, .int .u8 0, .int .u8 0, .int .u8 0, .int .u8 0, .int .u8 0, .int .u8 0, .int .u8 0, .int .u8 0, .int .u8 0, .int .u8 0, .bool false, .slice none 0 0] 28, .blk p23 [.slice none 0 0] 53, .row none 0 0 5 1 (by8 ([] : List UInt8))] w24 := H29
  have H32 := (Hp.reorder (L' := [.blk p23 [.slice none 0 0] 53, .row none 0 0 5 1 (by8 ([] : List UInt8)), .blk p3 [.int .u8 1, .int .u8 0, .int .u8 0, .int .u64 5, .int .u64 0, .int .u8 0, .int .u8 0, .int .u8 0, .int .u8 0, .int .u8 0, .int .u8 0, .int .u8 0, .int .u8 0, .int .u8 0, .int .u8 0, .int .u8 0, .int .u8 0, .int .u8 0, .int .u8 0, .int .u8 0, .int .u8 0, .int .u8 0, .int .u8 0, .int .u8 0, .int .u8 0, .bool false, .slice none 0 0] 28]) H29 (List.Perm.trans (List.Perm.swap _ _ _) (List.Perm.cons _ (List.Perm.trans (List.Perm.swap _ _ _) (List.Perm.refl _)))))
  refine GL.call (j := 4) (Put1_calls (ids [.blk p23 [.slice none 0 0] 53, .row none 0 0 5 1 (by8 ([] : List UInt8))]) p23 none 0 0 ([] : List UInt8) 1 w24 (Hp.startL (A := [.blk p23 [.slice none 0 0] 53, .row none 0 0 5 1 (by8 ([] : List UInt8))]) (B := [.blk p3 [.int .u8 1, .int .u8 0, .int .u8 0, .int .u64 5, .int .u64 0, .int .u8 0, .int .u8 0, .int .u8 0, .int .u8 0, .int .u8 0, .int .u8 0, .int .u8 0, .int .u8 0, .int .u8 0, .int .u8 0, .int .u8 0, .int .u8 0, .int .u8 0, .int .u8 0, .int .u8 0, .int .u8 0, .int .u8 0, .int .u8 0, .int .u8 0, .int .u8 0, .bool false, .slice none 0 0] 28]) H32) (by omega)) (by kernel_rfl) rfl (fun e_ w33 hR => ?_)
  obtain ⟨A30, c31, rfl, H35⟩ := hR
  have H34 : Hp w [] [.blk p23 [.slice A30 1 c31] 53, .row A30 1 c31 5 1 (by8 (putB 1 1)), .blk p3 [.int .u8 1, .int .u8 0, .int .u8 0, .int .u64 5, .int .u64 0, .int .u8 0, .int .u8 0, .int .u8 0, .int .u8 0, .int .u8 0, .int .u8 0, .int .u8 0, .int .u8 0, .int .u8 0, .int .u8 0, .int .u8 0, .int .u8 0, .int .u8 0, .int .u8 0, .int .u8 0, .int .u8 0, .int .u8 0, .int .u8 0, .int .u8 0, .int .u8 0, .bool false, .slice none 0 0] 28] w33 := Hp.callL (A := [.blk p23 [.slice none 0 0] 53, .row none 0 0 5 1 (by8 ([] : List UInt8))]) (B := [.blk p3 [.int .u8 1, .int .u8 0, .int .u8 0, .int .u64 5, .int .u64 0, .int .u8 0, .int .u8 0, .int .u8 0, .int .u8 0, .int .u8 0, .int .u8 0, .int .u8 0, .int .u8 0, .int .u8 0, .int .u8 0, .int .u8 0, .int .u8 0, .int .u8 0, .int .u8 0, .int .u8 0, .int .u8 0, .int .u8 0, .int .u8 0, .int .u8 0, .int .u8 0, .bool false, .slice none 0 0] 28]) H32 H35
  refine ⟨_, rfl, [1, 4, 5], [(1, pt p3 0), (4, .int .i64 4), (5, pt p23 0)], by kernel_rfl, ?_⟩
  refine GL.k rfl hK28 (fun _ _ h => h) ?_
  refine G.seqK fun K36 hK37 => ?_
  refine G.seqK fun K38 hK39 => ?_
  refine G.region ?_
  refine GL.run (j := 1) 1 [1, 4, 5, 30] [(1, pt p3 0), (4, .int .i64 4), (5, pt p23 0), (30, pt p3 1)] (by kernel_rfl) rfl ?_
  refine GL.sem (j := 2) (H34.ld (o := 1) (ty := 22) (v := .int .u8 0) 2 rfl (by kernel_rfl) rfl) [1, 4, 5, 31] [(1, pt p3 0), (4, .int .i64 4), (5, pt p23 0), (31, .int .u8 0)] (by kernel_rfl) (by kernel_rfl) rfl ?_
  refine GL.run (j := 5) 3 [1, 4, 5, 33, 34] [(1, pt p3 0), (4, .int .i64 4), (5, pt p23 0), (33, .agg #[.int .u64 0, .int .i64 1]), (34, pt p3 2)] (by kernel_rfl) rfl ?_
  refine GL.sem (j := 6) (H34.ld (o := 2) (ty := 22) (v := .int .u8 0) 2 rfl (by kernel_rfl) rfl) [1, 4, 5, 33, 35] [(1, pt p3 0), (4, .int .i64 4), (5, pt p23 0), (33, .agg #[.int .u64 0, .int .i64 1]), (35, .int .u8 0)] (by kernel_rfl) (by kernel_rfl) rfl ?_
  refine GL.run (j := 9) 3 [1, 4, 5, 33, 37, 38] [(1, pt p3 0), (4, .int .i64 4), (5, pt p23 0), (33, .agg #[.int .u64 0, .int .i64 1]), (37, .agg #[.int .u64 0, .int .i64 1]), (38, pt p3 3)] (by kernel_rfl) rfl ?_
  refine GL.sem (j := 10) (H34.ld (o := 3) (ty := 23) (v := .int .u64 5) 2 rfl (by kernel_rfl) rfl) [1, 4, 5, 33, 37, 39] [(1, pt p3 0), (4, .int .i64 4), (5, pt p23 0), (33, .agg #[.int .u64 0, .int .i64 1]), (37, .agg #[.int .u64 0, .int .i64 1]), (39, .int .u64 5)] (by kernel_rfl) (by kernel_rfl) rfl ?_
  refine GL.run (j := 12) 2 [1, 4, 5, 33, 37, 40, 41] [(1, pt p3 0), (4, .int .i64 4), (5, pt p23 0), (33, .agg #[.int .u64 0, .int .i64 1]), (37, .agg #[.int .u64 0, .int .i64 1]), (40, .agg #[.int .u64 5, .int .i64 8]), (41, pt p3 4)] (by kernel_rfl) rfl ?_
  refine GL.sem (j := 13) (H34.ld (o := 4) (ty := 23) (v := .int .u64 0) 2 rfl (by kernel_rfl) rfl) [1, 4, 5, 33, 37, 40, 42] [(1, pt p3 0), (4, .int .i64 4), (5, pt p23 0), (33, .agg #[.int .u64 0, .int .i64 1]), (37, .agg #[.int .u64 0, .int .i64 1]), (40, .agg #[.int .u64 5, .int .i64 8]), (42, .int .u64 0)] (by kernel_rfl) (by kernel_rfl) rfl ?_
  refine GL.run (j := 16) 3 [1, 4, 5, 44, 45] [(1, pt p3 0), (4, .int .i64 4), (5, pt p23 0), (44, .agg #[.int .u64 0, .int .i64 1, .int .u64 0, .int .i64 1, .int .u64 5, .int .i64 8, .int .u64 0, .int .i64 8]), (45, .int .i64 0)] (by kernel_rfl) rfl ?_
  refine GL.k rfl hK39 (fun _ _ h => h) ?_
  refine G.block ?_
  refine G.unroll 4 ?_
  refine G.seqK fun K40 hK41 => ?_
  refine G.region ?_
  refine GL.run (j := 1) 1 [1, 4, 5, 44, 45, 46] [(1, pt p3 0), (4, .int .i64 4), (5, pt p23 0), (44, .agg #[.int .u64 0, .int .i64 1, .int .u64 0, .int .i64 1, .int .u64 5, .int .i64 8, .int .u64 0, .int .i64 8]), (45, .int .i64 0), (46, .bool true)] (by kernel_rfl) rfl ?_
  refine GL.k rfl hK41 (fun _ _ h => h) ?_
  refine G.seqK fun K42 hK43 => ?_
  refine G.yes rfl ?_
  refine G.skipK hK43 (fun _ _ h => h) ?_
  refine G.seqK fun K44 hK45 => ?_
  refine G.block ?_
  refine G.seqK fun K46 hK47 => ?_
  refine G.region ?_
  refine GL.run (j := 2) 2 [1, 4, 5, 44, 45, 47, 48] [(1, pt p3 0), (4, .int .i64 4), (5, pt p23 0), (44, .agg #[.int .u64 0, .int .i64 1, .int .u64 0, .int .i64 1, .int .u64 5, .int .i64 8, .int .u64 0, .int .i64 8]), (45, .int .i64 0), (47, .int .i64 0), (48, .agg #[.int .u64 0, .int .i64 1])] (by kernel_rfl) rfl ?_
  obtain ⟨p48, w49, r50, H51⟩ := H34.alloc (P := Try.prog) 55 [.int .u64 0, .int .i64 0] (by kernel_rfl)
  have H51 : Hp w [] [.blk p23 [.slice A30 1 c31] 53, .row A30 1 c31 5 1 (by8 (putB 1 1)), .blk p3 [.int .u8 1, .int .u8 0, .int .u8 0, .int .u64 5, .int .u64 0, .int .u8 0, .int .u8 0, .int .u8 0, .int .u8 0, .int .u8 0, .int .u8 0, .int .u8 0, .int .u8 0, .int .u8 0, .int .u8 0, .int .u8 0, .int .u8 0, .int .u8 0, .int .u8 0, .int .u8 0, .int .u8 0, .int .u8 0, .int .u8 0, .int .u8 0, .int .u8 0, .bool false, .slice none 0 0] 28, .blk p48 [.int .u64 0, .int .i64 0] 55] w49 := H51
  refine GL.sem (j := 3) (r50) [1, 4, 5, 7, 44, 45, 47, 48] [(1, pt p3 0), (4, .int .i64 4), (5, pt p23 0), (7, pt p48 0), (44, .agg #[.int .u64 0, .int .i64 1, .int .u64 0, .int .i64 1, .int .u64 5, .int .i64 8, .int .u64 0, .int .i64 8]), (45, .int .i64 0), (47, .int .i64 0), (48, .agg #[.int .u64 0, .int .i64 1])] (by kernel_rfl) (by kernel_rfl) rfl ?_
  refine GL.run (j := 4) 1 [1, 4, 5, 6, 7, 44, 45, 48] [(1, pt p3 0), (4, .int .i64 4), (5, pt p23 0), (6, .int .i64 0), (7, pt p48 0), (44, .agg #[.int .u64 0, .int .i64 1, .int .u64 0, .int .i64 1, .int .u64 5, .int .i64 8, .int .u64 0, .int .i64 8]), (45, .int .i64 0), (48, .agg #[.int .u64 0, .int .i64 1])] (by kernel_rfl) rfl ?_
  obtain ⟨w52, r53, H54⟩ := H51.stA (P := Try.prog) (o := 0) (vs := [.int .u64 0, .int .i64 1]) (ty := 55) (m := 2) 3 rfl (by kernel_rfl) rfl (by simp) (by simp [Value.oneCell'])
  have H54 : Hp w [] [.blk p23 [.slice A30 1 c31] 53, .row A30 1 c31 5 1 (by8 (putB 1 1)), .blk p3 [.int .u8 1, .int .u8 0, .int .u8 0, .int .u64 5, .int .u64 0, .int .u8 0, .int .u8 0, .int .u8 0, .int .u8 0, .int .u8 0, .int .u8 0, .int .u8 0, .int .u8 0, .int .u8 0, .int .u8 0, .int .u8 0, .int .u8 0, .int .u8 0, .int .u8 0, .int .u8 0, .int .u8 0, .int .u8 0, .int .u8 0, .int .u8 0, .int .u8 0, .bool false, .slice none 0 0] 28, .blk p48 [.int .u64 0, .int .i64 1] 55] w52 := H54
  refine GL.semU (j := 5) r53 [1, 4, 5, 6, 7, 44, 45] [(1, pt p3 0), (4, .int .i64 4), (5, pt p23 0), (6, .int .i64 0), (7, pt p48 0), (44, .agg #[.int .u64 0, .int .i64 1, .int .u64 0, .int .i64 1, .int .u64 5, .int .i64 8, .int .u64 0, .int .i64 8]), (45, .int .i64 0)] (by kernel_rfl) rfl rfl rfl ?_
  refine GL.k rfl hK47 (fun _ _ h => h) ?_
  refine G.seqK fun K55 hK56 => ?_
  refine G.region ?_
  refine GL.run (j := 5) 5 [1, 4, 5, 7, 44, 45, 53] [(1, pt p3 0), (4, .int .i64 4), (5, pt p23 0), (7, pt p48 0), (44, .agg #[.int .u64 0, .int .i64 1, .int .u64 0, .int .i64 1, .int .u64 5, .int .i64 8, .int .u64 0, .int .i64 8]), (45, .int .i64 0), (53, .bool false)] (by kernel_rfl) rfl ?_
  refine GL.k rfl hK56 (fun _ _ h => h) ?_
  refine G.no rfl ?_
  refine G.skipK hK45 (fun _ _ h => h) ?_
  refine G.region ?_
  refine GL.run (j := 2) 2 [1, 4, 5, 44, 45] [(1, pt p3 0), (4, .int .i64 4), (5, pt p23 0), (44, .agg #[.int .u64 0, .int .i64 1, .int .u64 0, .int .i64 1, .int .u64 5, .int .i64 8, .int .u64 0, .int .i64 8]), (45, .int .i64 1)] (by kernel_rfl) rfl ?_
  refine GL.round rfl ?_
  refine G.seqK fun K57 hK58 => ?_
  refine G.region ?_
  refine GL.run (j := 1) 1 [1, 4, 5, 44, 45, 46] [(1, pt p3 0), (4, .int .i64 4), (5, pt p23 0), (44, .agg #[.int .u64 0, .int .i64 1, .int .u64 0, .int .i64 1, .int .u64 5, .int .i64 8, .int .u64 0, .int .i64 8]), (45, .int .i64 1), (46, .bool true)] (by kernel_rfl) rfl ?_
  refine GL.k rfl hK58 (fun _ _ h => h) ?_
  refine G.seqK fun K59 hK60 => ?_
  refine G.yes rfl ?_
  refine G.skipK hK60 (fun _ _ h => h) ?_
  refine G.seqK fun K61 hK62 => ?_
  refine G.block ?_
  refine G.seqK fun K63 hK64 => ?_
  refine G.region ?_
  refine GL.run (j := 2) 2 [1, 4, 5, 44, 45, 47, 48] [(1, pt p3 0), (4, .int .i64 4), (5, pt p23 0), (44, .agg #[.int .u64 0, .int .i64 1, .int .u64 0, .int .i64 1, .int .u64 5, .int .i64 8, .int .u64 0, .int .i64 8]), (45, .int .i64 1), (47, .int .i64 1), (48, .agg #[.int .u64 0, .int .i64 1])] (by kernel_rfl) rfl ?_
  obtain ⟨p65, w66, r67, H68⟩ := H54.alloc (P := Try.prog) 55 [.int .u64 0, .int .i64 0] (by kernel_rfl)
  have H68 : Hp w [] [.blk p23 [.slice A30 1 c31] 53, .row A30 1 c31 5 1 (by8 (putB 1 1)), .blk p3 [.int .u8 1, .int .u8 0, .int .u8 0, .int .u64 5, .int .u64 0, .int .u8 0, .int .u8 0, .int .u8 0, .int .u8 0, .int .u8 0, .int .u8 0, .int .u8 0, .int .u8 0, .int .u8 0, .int .u8 0, .int .u8 0, .int .u8 0, .int .u8 0, .int .u8 0, .int .u8 0, .int .u8 0, .int .u8 0, .int .u8 0, .int .u8 0, .int .u8 0, .bool false, .slice none 0 0] 28, .blk p48 [.int .u64 0, .int .i64 1] 55, .blk p65 [.int .u64 0, .int .i64 0] 55] w66 := H68
  refine GL.sem (j := 3) (r67) [1, 4, 5, 7, 44, 45, 47, 48] [(1, pt p3 0), (4, .int .i64 4), (5, pt p23 0), (7, pt p65 0), (44, .agg #[.int .u64 0, .int .i64 1, .int .u64 0, .int .i64 1, .int .u64 5, .int .i64 8, .int .u64 0, .int .i64 8]), (45, .int .i64 1), (47, .int .i64 1), (48, .agg #[.int .u64 0, .int .i64 1])] (by kernel_rfl) (by kernel_rfl) rfl ?_
  refine GL.run (j := 4) 1 [1, 4, 5, 6, 7, 44, 45, 48] [(1, pt p3 0), (4, .int .i64 4), (5, pt p23 0), (6, .int .i64 1), (7, pt p65 0), (44, .agg #[.int .u64 0, .int .i64 1, .int .u64 0, .int .i64 1, .int .u64 5, .int .i64 8, .int .u64 0, .int .i64 8]), (45, .int .i64 1), (48, .agg #[.int .u64 0, .int .i64 1])] (by kernel_rfl) rfl ?_
  obtain ⟨w69, r70, H71⟩ := H68.stA (P := Try.prog) (o := 0) (vs := [.int .u64 0, .int .i64 1]) (ty := 55) (m := 2) 4 rfl (by kernel_rfl) rfl (by simp) (by simp [Value.oneCell'])
  have H71 : Hp w [] [.blk p23 [.slice A30 1 c31] 53, .row A30 1 c31 5 1 (by8 (putB 1 1)), .blk p3 [.int .u8 1, .int .u8 0, .int .u8 0, .int .u64 5, .int .u64 0, .int .u8 0, .int .u8 0, .int .u8 0, .int .u8 0, .int .u8 0, .int .u8 0, .int .u8 0, .int .u8 0, .int .u8 0, .int .u8 0, .int .u8 0, .int .u8 0, .int .u8 0, .int .u8 0, .int .u8 0, .int .u8 0, .int .u8 0, .int .u8 0, .int .u8 0, .int .u8 0, .bool false, .slice none 0 0] 28, .blk p48 [.int .u64 0, .int .i64 1] 55, .blk p65 [.int .u64 0, .int .i64 1] 55] w69 := H71
  refine GL.semU (j := 5) r70 [1, 4, 5, 6, 7, 44, 45] [(1, pt p3 0), (4, .int .i64 4), (5, pt p23 0), (6, .int .i64 1), (7, pt p65 0), (44, .agg #[.int .u64 0, .int .i64 1, .int .u64 0, .int .i64 1, .int .u64 5, .int .i64 8, .int .u64 0, .int .i64 8]), (45, .int .i64 1)] (by kernel_rfl) rfl rfl rfl ?_
  refine GL.k rfl hK64 (fun _ _ h => h) ?_
  refine G.seqK fun K72 hK73 => ?_
  refine G.region ?_
  refine GL.run (j := 5) 5 [1, 4, 5, 7, 44, 45, 53] [(1, pt p3 0), (4, .int .i64 4), (5, pt p23 0), (7, pt p65 0), (44, .agg #[.int .u64 0, .int .i64 1, .int .u64 0, .int .i64 1, .int .u64 5, .int .i64 8, .int .u64 0, .int .i64 8]), (45, .int .i64 1), (53, .bool false)] (by kernel_rfl) rfl ?_
  refine GL.k rfl hK73 (fun _ _ h => h) ?_
  refine G.no rfl ?_
  refine G.skipK hK62 (fun _ _ h => h) ?_
  refine G.region ?_
  refine GL.run (j := 2) 2 [1, 4, 5, 44, 45] [(1, pt p3 0), (4, .int .i64 4), (5, pt p23 0), (44, .agg #[.int .u64 0, .int .i64 1, .int .u64 0, .int .i64 1, .int .u64 5, .int .i64 8, .int .u64 0, .int .i64 8]), (45, .int .i64 2)] (by kernel_rfl) rfl ?_
  refine GL.round rfl ?_
  refine G.seqK fun K74 hK75 => ?_
  refine G.region ?_
  refine GL.run (j := 1) 1 [1, 4, 5, 44, 45, 46] [(1, pt p3 0), (4, .int .i64 4), (5, pt p23 0), (44, .agg #[.int .u64 0, .int .i64 1, .int .u64 0, .int .i64 1, .int .u64 5, .int .i64 8, .int .u64 0, .int .i64 8]), (45, .int .i64 2), (46, .bool true)] (by kernel_rfl) rfl ?_
  refine GL.k rfl hK75 (fun _ _ h => h) ?_
  refine G.seqK fun K76 hK77 => ?_
  refine G.yes rfl ?_
  refine G.skipK hK77 (fun _ _ h => h) ?_
  refine G.seqK fun K78 hK79 => ?_
  refine G.block ?_
  refine G.seqK fun K80 hK81 => ?_
  refine G.region ?_
  refine GL.run (j := 2) 2 [1, 4, 5, 44, 45, 47, 48] [(1, pt p3 0), (4, .int .i64 4), (5, pt p23 0), (44, .agg #[.int .u64 0, .int .i64 1, .int .u64 0, .int .i64 1, .int .u64 5, .int .i64 8, .int .u64 0, .int .i64 8]), (45, .int .i64 2), (47, .int .i64 2), (48, .agg #[.int .u64 5, .int .i64 8])] (by kernel_rfl) rfl ?_
  obtain ⟨p82, w83, r84, H85⟩ := H71.alloc (P := Try.prog) 55 [.int .u64 0, .int .i64 0] (by kernel_rfl)
  have H85 : Hp w [] [.blk p23 [.slice A30 1 c31] 53, .row A30 1 c31 5 1 (by8 (putB 1 1)), .blk p3 [.int .u8 1, .int .u8 0, .int .u8 0, .int .u64 5, .int .u64 0, .int .u8 0, .int .u8 0, .int .u8 0, .int .u8 0, .int .u8 0, .int .u8 0, .int .u8 0, .int .u8 0, .int .u8 0, .int .u8 0, .int .u8 0, .int .u8 0, .int .u8 0, .int .u8 0, .int .u8 0, .int .u8 0, .int .u8 0, .int .u8 0, .int .u8 0, .int .u8 0, .bool false, .slice none 0 0] 28, .blk p48 [.int .u64 0, .int .i64 1] 55, .blk p65 [.int .u64 0, .int .i64 1] 55, .blk p82 [.int .u64 0, .int .i64 0] 55] w83 := H85
  refine GL.sem (j := 3) (r84) [1, 4, 5, 7, 44, 45, 47, 48] [(1, pt p3 0), (4, .int .i64 4), (5, pt p23 0), (7, pt p82 0), (44, .agg #[.int .u64 0, .int .i64 1, .int .u64 0, .int .i64 1, .int .u64 5, .int .i64 8, .int .u64 0, .int .i64 8]), (45, .int .i64 2), (47, .int .i64 2), (48, .agg #[.int .u64 5, .int .i64 8])] (by kernel_rfl) (by kernel_rfl) rfl ?_
  refine GL.run (j := 4) 1 [1, 4, 5, 6, 7, 44, 45, 48] [(1, pt p3 0), (4, .int .i64 4), (5, pt p23 0), (6, .int .i64 2), (7, pt p82 0), (44, .agg #[.int .u64 0, .int .i64 1, .int .u64 0, .int .i64 1, .int .u64 5, .int .i64 8, .int .u64 0, .int .i64 8]), (45, .int .i64 2), (48, .agg #[.int .u64 5, .int .i64 8])] (by kernel_rfl) rfl ?_
  obtain ⟨w86, r87, H88⟩ := H85.stA (P := Try.prog) (o := 0) (vs := [.int .u64 5, .int .i64 8]) (ty := 55) (m := 2) 5 rfl (by kernel_rfl) rfl (by simp) (by simp [Value.oneCell'])
  have H88 : Hp w [] [.blk p23 [.slice A30 1 c31] 53, .row A30 1 c31 5 1 (by8 (putB 1 1)), .blk p3 [.int .u8 1, .int .u8 0, .int .u8 0, .int .u64 5, .int .u64 0, .int .u8 0, .int .u8 0, .int .u8 0, .int .u8 0, .int .u8 0, .int .u8 0, .int .u8 0, .int .u8 0, .int .u8 0, .int .u8 0, .int .u8 0, .int .u8 0, .int .u8 0, .int .u8 0, .int .u8 0, .int .u8 0, .int .u8 0, .int .u8 0, .int .u8 0, .int .u8 0, .bool false, .slice none 0 0] 28, .blk p48 [.int .u64 0, .int .i64 1] 55, .blk p65 [.int .u64 0, .int .i64 1] 55, .blk p82 [.int .u64 5, .int .i64 8] 55] w86 := H88
  refine GL.semU (j := 5) r87 [1, 4, 5, 6, 7, 44, 45] [(1, pt p3 0), (4, .int .i64 4), (5, pt p23 0), (6, .int .i64 2), (7, pt p82 0), (44, .agg #[.int .u64 0, .int .i64 1, .int .u64 0, .int .i64 1, .int .u64 5, .int .i64 8, .int .u64 0, .int .i64 8]), (45, .int .i64 2)] (by kernel_rfl) rfl rfl rfl ?_
  refine GL.k rfl hK81 (fun _ _ h => h) ?_
  refine G.seqK fun K89 hK90 => ?_
  refine G.region ?_
  refine GL.run (j := 5) 5 [1, 4, 5, 7, 44, 45, 53] [(1, pt p3 0), (4, .int .i64 4), (5, pt p23 0), (7, pt p82 0), (44, .agg #[.int .u64 0, .int .i64 1, .int .u64 0, .int .i64 1, .int .u64 5, .int .i64 8, .int .u64 0, .int .i64 8]), (45, .int .i64 2), (53, .bool true)] (by kernel_rfl) rfl ?_
  refine GL.k rfl hK90 (fun _ _ h => h) ?_
  refine G.yes rfl ?_
  refine G.region ?_
  refine GL.run (j := 1) 1 [1, 4, 5, 7, 44, 45, 54] [(1, pt p3 0), (4, .int .i64 4), (5, pt p23 0), (7, pt p82 0), (44, .agg #[.int .u64 0, .int .i64 1, .int .u64 0, .int .i64 1, .int .u64 5, .int .i64 8, .int .u64 0, .int .i64 8]), (45, .int .i64 2), (54, pt p82 0)] (by kernel_rfl) rfl ?_
  refine GL.sem (j := 2) (H88.ld (o := 0) (ty := 23) (v := .int .u64 5) 5 rfl (by kernel_rfl) rfl) [1, 4, 5, 7, 44, 45, 55] [(1, pt p3 0), (4, .int .i64 4), (5, pt p23 0), (7, pt p82 0), (44, .agg #[.int .u64 0, .int .i64 1, .int .u64 0, .int .i64 1, .int .u64 5, .int .i64 8, .int .u64 0, .int .i64 8]), (45, .int .i64 2), (55, .int .u64 5)] (by kernel_rfl) (by kernel_rfl) rfl ?_
  refine GL.run (j := 3) 1 [1, 4, 5, 44, 45, 55, 56] [(1, pt p3 0), (4, .int .i64 4), (5, pt p23 0), (44, .agg #[.int .u64 0, .int .i64 1, .int .u64 0, .int .i64 1, .int .u64 5, .int .i64 8, .int .u64 0, .int .i64 8]), (45, .int .i64 2), (55, .int .u64 5), (56, pt p82 1)] (by kernel_rfl) rfl ?_
  refine GL.sem (j := 4) (H88.ld (o := 1) (ty := 3) (v := .int .i64 8) 5 rfl (by kernel_rfl) rfl) [1, 4, 5, 44, 45, 55, 57] [(1, pt p3 0), (4, .int .i64 4), (5, pt p23 0), (44, .agg #[.int .u64 0, .int .i64 1, .int .u64 0, .int .i64 1, .int .u64 5, .int .i64 8, .int .u64 0, .int .i64 8]), (45, .int .i64 2), (55, .int .u64 5), (57, .int .i64 8)] (by kernel_rfl) (by kernel_rfl) rfl ?_
  refine GL.call (j := 5) (Put8_calls (ids [.blk p23 [.slice A30 1 c31] 53, .row A30 1 c31 5 1 (by8 (putB 1 1))]) p23 A30 1 c31 (putB 1 1) 5 w86 (Hp.startL (A := [.blk p23 [.slice A30 1 c31] 53, .row A30 1 c31 5 1 (by8 (putB 1 1))]) (B := [.blk p3 [.int .u8 1, .int .u8 0, .int .u8 0, .int .u64 5, .int .u64 0, .int .u8 0, .int .u8 0, .int .u8 0, .int .u8 0, .int .u8 0, .int .u8 0, .int .u8 0, .int .u8 0, .int .u8 0, .int .u8 0, .int .u8 0, .int .u8 0, .int .u8 0, .int .u8 0, .int .u8 0, .int .u8 0, .int .u8 0, .int .u8 0, .int .u8 0, .int .u8 0, .bool false, .slice none 0 0] 28, .blk p48 [.int .u64 0, .int .i64 1] 55, .blk p65 [.int .u64 0, .int .i64 1] 55, .blk p82 [.int .u64 5, .int .i64 8] 55]) H88) (by omega)) (by kernel_rfl) rfl (fun e_ w93 hR => ?_)
  obtain ⟨A91, c92, rfl, H95⟩ := hR
  have H94 : Hp w [] [.blk p23 [.slice A91 9 c92] 53, .row A91 9 c92 5 1 (by8 ((putB 1 1) ++ (putB 5 8))), .blk p3 [.int .u8 1, .int .u8 0, .int .u8 0, .int .u64 5, .int .u64 0, .int .u8 0, .int .u8 0, .int .u8 0, .int .u8 0, .int .u8 0, .int .u8 0, .int .u8 0, .int .u8 0, .int .u8 0, .int .u8 0, .int .u8 0, .int .u8 0, .int .u8 0, .int .u8 0, .int .u8 0, .int .u8 0, .int .u8 0, .int .u8 0, .int .u8 0, .int .u8 0, .bool false, .slice none 0 0] 28, .blk p48 [.int .u64 0, .int .i64 1] 55, .blk p65 [.int .u64 0, .int .i64 1] 55, .blk p82 [.int .u64 5, .int .i64 8] 55] w93 := Hp.callL (A := [.blk p23 [.slice A30 1 c31] 53, .row A30 1 c31 5 1 (by8 (putB 1 1))]) (B := [.blk p3 [.int .u8 1, .int .u8 0, .int .u8 0, .int .u64 5, .int .u64 0, .int .u8 0, .int .u8 0, .int .u8 0, .int .u8 0, .int .u8 0, .int .u8 0, .int .u8 0, .int .u8 0, .int .u8 0, .int .u8 0, .int .u8 0, .int .u8 0, .int .u8 0, .int .u8 0, .int .u8 0, .int .u8 0, .int .u8 0, .int .u8 0, .int .u8 0, .int .u8 0, .bool false, .slice none 0 0] 28, .blk p48 [.int .u64 0, .int .i64 1] 55, .blk p65 [.int .u64 0, .int .i64 1] 55, .blk p82 [.int .u64 5, .int .i64 8] 55]) H88 H95
  refine ⟨_, rfl, [1, 4, 5, 44, 45], [(1, pt p3 0), (4, .int .i64 4), (5, pt p23 0), (44, .agg #[.int .u64 0, .int .i64 1, .int .u64 0, .int .i64 1, .int .u64 5, .int .i64 8, .int .u64 0, .int .i64 8]), (45, .int .i64 2)], by kernel_rfl, ?_⟩
  refine GL.k rfl hK79 (fun _ _ h => h) ?_
  refine G.region ?_
  refine GL.run (j := 2) 2 [1, 4, 5, 44, 45] [(1, pt p3 0), (4, .int .i64 4), (5, pt p23 0), (44, .agg #[.int .u64 0, .int .i64 1, .int .u64 0, .int .i64 1, .int .u64 5, .int .i64 8, .int .u64 0, .int .i64 8]), (45, .int .i64 3)] (by kernel_rfl) rfl ?_
  refine GL.round rfl ?_
  refine G.seqK fun K96 hK97 => ?_
  refine G.region ?_
  refine GL.run (j := 1) 1 [1, 4, 5, 44, 45, 46] [(1, pt p3 0), (4, .int .i64 4), (5, pt p23 0), (44, .agg #[.int .u64 0, .int .i64 1, .int .u64 0, .int .i64 1, .int .u64 5, .int .i64 8, .int .u64 0, .int .i64 8]), (45, .int .i64 3), (46, .bool true)] (by kernel_rfl) rfl ?_
  refine GL.k rfl hK97 (fun _ _ h => h) ?_
  refine G.seqK fun K98 hK99 => ?_
  refine G.yes rfl ?_
  refine G.skipK hK99 (fun _ _ h => h) ?_
  refine G.seqK fun K100 hK101 => ?_
  refine G.block ?_
  refine G.seqK fun K102 hK103 => ?_
  refine G.region ?_
  refine GL.run (j := 2) 2 [1, 4, 5, 44, 45, 47, 48] [(1, pt p3 0), (4, .int .i64 4), (5, pt p23 0), (44, .agg #[.int .u64 0, .int .i64 1, .int .u64 0, .int .i64 1, .int .u64 5, .int .i64 8, .int .u64 0, .int .i64 8]), (45, .int .i64 3), (47, .int .i64 3), (48, .agg #[.int .u64 0, .int .i64 8])] (by kernel_rfl) rfl ?_
  obtain ⟨p104, w105, r106, H107⟩ := H94.alloc (P := Try.prog) 55 [.int .u64 0, .int .i64 0] (by kernel_rfl)
  have H107 : Hp w [] [.blk p23 [.slice A91 9 c92] 53, .row A91 9 c92 5 1 (by8 ((putB 1 1) ++ (putB 5 8))), .blk p3 [.int .u8 1, .int .u8 0, .int .u8 0, .int .u64 5, .int .u64 0, .int .u8 0, .int .u8 0, .int .u8 0, .int .u8 0, .int .u8 0, .int .u8 0, .int .u8 0, .int .u8 0, .int .u8 0, .int .u8 0, .int .u8 0, .int .u8 0, .int .u8 0, .int .u8 0, .int .u8 0, .int .u8 0, .int .u8 0, .int .u8 0, .int .u8 0, .int .u8 0, .bool false, .slice none 0 0] 28, .blk p48 [.int .u64 0, .int .i64 1] 55, .blk p65 [.int .u64 0, .int .i64 1] 55, .blk p82 [.int .u64 5, .int .i64 8] 55, .blk p104 [.int .u64 0, .int .i64 0] 55] w105 := H107
  refine GL.sem (j := 3) (r106) [1, 4, 5, 7, 44, 45, 47, 48] [(1, pt p3 0), (4, .int .i64 4), (5, pt p23 0), (7, pt p104 0), (44, .agg #[.int .u64 0, .int .i64 1, .int .u64 0, .int .i64 1, .int .u64 5, .int .i64 8, .int .u64 0, .int .i64 8]), (45, .int .i64 3), (47, .int .i64 3), (48, .agg #[.int .u64 0, .int .i64 8])] (by kernel_rfl) (by kernel_rfl) rfl ?_
  refine GL.run (j := 4) 1 [1, 4, 5, 6, 7, 44, 45, 48] [(1, pt p3 0), (4, .int .i64 4), (5, pt p23 0), (6, .int .i64 3), (7, pt p104 0), (44, .agg #[.int .u64 0, .int .i64 1, .int .u64 0, .int .i64 1, .int .u64 5, .int .i64 8, .int .u64 0, .int .i64 8]), (45, .int .i64 3), (48, .agg #[.int .u64 0, .int .i64 8])] (by kernel_rfl) rfl ?_
  obtain ⟨w108, r109, H110⟩ := H107.stA (P := Try.prog) (o := 0) (vs := [.int .u64 0, .int .i64 8]) (ty := 55) (m := 2) 6 rfl (by kernel_rfl) rfl (by simp) (by simp [Value.oneCell'])
  have H110 : Hp w [] [.blk p23 [.slice A91 9 c92] 53, .row A91 9 c92 5 1 (by8 ((putB 1 1) ++ (putB 5 8))), .blk p3 [.int .u8 1, .int .u8 0, .int .u8 0, .int .u64 5, .int .u64 0, .int .u8 0, .int .u8 0, .int .u8 0, .int .u8 0, .int .u8 0, .int .u8 0, .int .u8 0, .int .u8 0, .int .u8 0, .int .u8 0, .int .u8 0, .int .u8 0, .int .u8 0, .int .u8 0, .int .u8 0, .int .u8 0, .int .u8 0, .int .u8 0, .int .u8 0, .int .u8 0, .bool false, .slice none 0 0] 28, .blk p48 [.int .u64 0, .int .i64 1] 55, .blk p65 [.int .u64 0, .int .i64 1] 55, .blk p82 [.int .u64 5, .int .i64 8] 55, .blk p104 [.int .u64 0, .int .i64 8] 55] w108 := H110
  refine GL.semU (j := 5) r109 [1, 4, 5, 6, 7, 44, 45] [(1, pt p3 0), (4, .int .i64 4), (5, pt p23 0), (6, .int .i64 3), (7, pt p104 0), (44, .agg #[.int .u64 0, .int .i64 1, .int .u64 0, .int .i64 1, .int .u64 5, .int .i64 8, .int .u64 0, .int .i64 8]), (45, .int .i64 3)] (by kernel_rfl) rfl rfl rfl ?_
  refine GL.k rfl hK103 (fun _ _ h => h) ?_
  refine G.seqK fun K111 hK112 => ?_
  refine G.region ?_
  refine GL.run (j := 5) 5 [1, 4, 5, 7, 44, 45, 53] [(1, pt p3 0), (4, .int .i64 4), (5, pt p23 0), (7, pt p104 0), (44, .agg #[.int .u64 0, .int .i64 1, .int .u64 0, .int .i64 1, .int .u64 5, .int .i64 8, .int .u64 0, .int .i64 8]), (45, .int .i64 3), (53, .bool false)] (by kernel_rfl) rfl ?_
  refine GL.k rfl hK112 (fun _ _ h => h) ?_
  refine G.no rfl ?_
  refine G.skipK hK101 (fun _ _ h => h) ?_
  refine G.region ?_
  refine GL.run (j := 2) 2 [1, 4, 5, 44, 45] [(1, pt p3 0), (4, .int .i64 4), (5, pt p23 0), (44, .agg #[.int .u64 0, .int .i64 1, .int .u64 0, .int .i64 1, .int .u64 5, .int .i64 8, .int .u64 0, .int .i64 8]), (45, .int .i64 4)] (by kernel_rfl) rfl ?_
  refine GL.round rfl ?_
  refine G.seqK fun K113 hK114 => ?_
  refine G.region ?_
  refine GL.run (j := 1) 1 [1, 4, 5, 44, 45, 46] [(1, pt p3 0), (4, .int .i64 4), (5, pt p23 0), (44, .agg #[.int .u64 0, .int .i64 1, .int .u64 0, .int .i64 1, .int .u64 5, .int .i64 8, .int .u64 0, .int .i64 8]), (45, .int .i64 4), (46, .bool false)] (by kernel_rfl) rfl ?_
  refine GL.k rfl hK114 (fun _ _ h => h) ?_
  refine G.seqK fun K115 hK116 => ?_
  refine G.no rfl ?_
  refine G.exitK hK37 (fun _ _ h => h) ?_
  refine G.seqK fun K117 hK118 => ?_
  refine G.seqK fun K119 hK120 => ?_
  refine G.region ?_
  refine GL.run (j := 3) 3 [1, 4, 5, 62] [(1, pt p3 0), (4, .int .i64 4), (5, pt p23 0), (62, .bool false)] (by kernel_rfl) rfl ?_
  refine GL.k rfl hK120 (fun _ _ h => h) ?_
  refine G.no rfl ?_
  refine G.skipK hK118 (fun _ _ h => h) ?_
  refine G.seqK fun K121 hK122 => ?_
  refine G.seqK fun K123 hK124 => ?_
  refine G.region ?_
  refine GL.run (j := 3) 3 [1, 4, 5, 68] [(1, pt p3 0), (4, .int .i64 4), (5, pt p23 0), (68, .bool false)] (by kernel_rfl) rfl ?_
  refine GL.k rfl hK124 (fun _ _ h => h) ?_
  refine G.no rfl ?_
  refine G.skipK hK122 (fun _ _ h => h) ?_
  refine G.seqK fun K125 hK126 => ?_
  refine G.seqK fun K127 hK128 => ?_
  refine G.region ?_
  refine GL.run (j := 3) 3 [1, 5, 75] [(1, pt p3 0), (5, pt p23 0), (75, .bool false)] (by kernel_rfl) rfl ?_
  refine GL.k rfl hK128 (fun _ _ h => h) ?_
  refine G.no rfl ?_
  refine G.skipK hK126 (fun _ _ h => h) ?_
  refine G.seqK fun K129 hK130 => ?_
  refine G.region ?_
  refine GL.call (j := 1) (WBytes_calls (ids [.blk p23 [.slice A91 9 c92] 53, .row A91 9 c92 5 1 (by8 ((putB 1 1) ++ (putB 5 8)))]) p23 A91 9 c92 ((putB 1 1) ++ (putB 5 8)) w108 (Hp.startL (A := [.blk p23 [.slice A91 9 c92] 53, .row A91 9 c92 5 1 (by8 ((putB 1 1) ++ (putB 5 8)))]) (B := [.blk p3 [.int .u8 1, .int .u8 0, .int .u8 0, .int .u64 5, .int .u64 0, .int .u8 0, .int .u8 0, .int .u8 0, .int .u8 0, .int .u8 0, .int .u8 0, .int .u8 0, .int .u8 0, .int .u8 0, .int .u8 0, .int .u8 0, .int .u8 0, .int .u8 0, .int .u8 0, .int .u8 0, .int .u8 0, .int .u8 0, .int .u8 0, .int .u8 0, .int .u8 0, .bool false, .slice none 0 0] 28, .blk p48 [.int .u64 0, .int .i64 1] 55, .blk p65 [.int .u64 0, .int .i64 1] 55, .blk p82 [.int .u64 5, .int .i64 8] 55, .blk p104 [.int .u64 0, .int .i64 8] 55]) H110) (by omega)) (by kernel_rfl) rfl (fun e_ w133 hR => ?_)
  obtain ⟨A131, c132, rfl, H135⟩ := hR
  have H134 : Hp w [] [.blk p23 [.slice A91 9 c92] 53, .row A91 9 c92 5 1 (by8 ((putB 1 1) ++ (putB 5 8))), .row A131 9 c132 5 1 (by8 ((putB 1 1) ++ (putB 5 8))), .blk p3 [.int .u8 1, .int .u8 0, .int .u8 0, .int .u64 5, .int .u64 0, .int .u8 0, .int .u8 0, .int .u8 0, .int .u8 0, .int .u8 0, .int .u8 0, .int .u8 0, .int .u8 0, .int .u8 0, .int .u8 0, .int .u8 0, .int .u8 0, .int .u8 0, .int .u8 0, .int .u8 0, .int .u8 0, .int .u8 0, .int .u8 0, .int .u8 0, .int .u8 0, .bool false, .slice none 0 0] 28, .blk p48 [.int .u64 0, .int .i64 1] 55, .blk p65 [.int .u64 0, .int .i64 1] 55, .blk p82 [.int .u64 5, .int .i64 8] 55, .blk p104 [.int .u64 0, .int .i64 8] 55] w133 := Hp.callL (A := [.blk p23 [.slice A91 9 c92] 53, .row A91 9 c92 5 1 (by8 ((putB 1 1) ++ (putB 5 8)))]) (B := [.blk p3 [.int .u8 1, .int .u8 0, .int .u8 0, .int .u64 5, .int .u64 0, .int .u8 0, .int .u8 0, .int .u8 0, .int .u8 0, .int .u8 0, .int .u8 0, .int .u8 0, .int .u8 0, .int .u8 0, .int .u8 0, .int .u8 0, .int .u8 0, .int .u8 0, .int .u8 0, .int .u8 0, .int .u8 0, .int .u8 0, .int .u8 0, .int .u8 0, .int .u8 0, .bool false, .slice none 0 0] 28, .blk p48 [.int .u64 0, .int .i64 1] 55, .blk p65 [.int .u64 0, .int .i64 1] 55, .blk p82 [.int .u64 5, .int .i64 8] 55, .blk p104 [.int .u64 0, .int .i64 8] 55]) H110 H135
  refine ⟨_, rfl, [79], [(79, .slice A131 9 c132)], by kernel_rfl, ?_⟩
  refine GL.run (j := 3) 2 [2, 3] [(2, .slice A131 9 c132), (3, .int .i64 0)] (by kernel_rfl) rfl ?_
  refine GL.k rfl hK130 (fun _ _ h => h) ?_
  refine G.ret ?_
  intro F_ hF_ hM_
  refine hRet _ _ (bodyPost_2 rfl (RV.tmp rfl) (RV.tmp rfl) ?_ F_ hF_ hM_)
  have H136 : Hp w [] [.row A131 9 c132 5 1 (by8 ((putB 1 1) ++ (putB 5 8)))] w133 := H134.sub (List.Sublist.cons _ (List.Sublist.cons _ (List.Sublist.cons_cons _ (List.Sublist.cons _ (List.Sublist.cons _ (List.Sublist.cons _ (List.Sublist.cons _ (List.Sublist.cons _ (List.Sublist.slnil)))))))))
  exact ⟨_, _, rfl, H136⟩
theorem lives_calls (w : World) : Calls Try.prog 7 #[] w fun e w' => e = .returned (.bool true) ∧ Hp w [] [] w' := by
  refine calls_G (args := []) Try.func7 rfl Try.ntmps7 rfl ?_
  intro Q0 hRet hNor hPan
  have H := Hp.start w
  have H : Hp w [] [] w := H
  refine G.seqK fun K1 hK2 => ?_
  refine G.region ?_
  refine GL.run (j := 1) 1 [] [] (by kernel_rfl) rfl ?_
  refine GL.k rfl hK2 (fun _ _ h => h) ?_
  refine G.seqK fun K3 hK4 => ?_
  refine G.region ?_
  refine GL.run (j := 1) 1 [4] [(4, .agg #[.int .u8 1, .int .u8 0, .int .u8 0, .int .u64 5, .int .u64 0, .int .u8 0, .int .u8 0, .int .u8 0, .int .u8 0, .int .u8 0, .int .u8 0, .int .u8 0, .int .u8 0, .int .u8 0, .int .u8 0, .int .u8 0, .int .u8 0, .int .u8 0, .int .u8 0, .int .u8 0, .int .u8 0, .int .u8 0, .int .u8 0, .int .u8 0, .int .u8 0, .bool false, .slice none 0 0])] (by kernel_rfl) rfl ?_
  refine GL.call (j := 2) (Bytes_ex w) (by kernel_rfl) rfl (fun e_ w9 hR => ?_)
  obtain ⟨A5, c6, rfl, H8⟩ := hR
  have H7 : Hp w [] [.row A5 9 c6 5 1 (by8 (putB 1 1 ++ putB 5 8))] w9 := H.callNew H8
  refine ⟨_, rfl, [5], [(5, .tuple #[.slice A5 9 c6, .int .i64 0])], by kernel_rfl, ?_⟩
  refine GL.run (j := 7) 5 [1, 2] [(1, .slice A5 9 c6), (2, .int .i64 0)] (by kernel_rfl) rfl ?_
  refine GL.k rfl hK4 (fun _ _ h => h) ?_
  refine G.seqK fun K10 hK11 => ?_
  refine G.region ?_
  refine GL.run (j := 4) 4 [10, 11] [(10, .bool true), (11, .slice A5 9 c6)] (by kernel_rfl) rfl ?_
  refine GL.sem (j := 5) (run_toStr (P := Try.prog) (src := 26) (dst := 9) (A := A5) (bs := (putB 1 1 ++ putB 5 8)) (n := 9) (c := c6) (by kernel_rfl) (by kernel_rfl) (H7.rdRow 0 rfl) (by first | rfl | omega | (simp only [List.length_cons, List.length_nil, List.length_drop, List.length_take, List.length_append] <;> omega))) [10, 12] [(10, .bool true), (12, .string (strOf (putB 1 1 ++ putB 5 8)))] (by kernel_rfl) (by kernel_rfl) rfl ?_
  refine GL.sem (j := 6) (run_str_eql (P := Try.prog) (t := 9) (putB 1 1 ++ putB 5 8) ([1, 5, 0, 0, 0, 0, 0, 0, 0] : List UInt8) _) [10, 13] [(10, .bool true), (13, .bool ((putB 1 1 ++ putB 5 8) == ([1, 5, 0, 0, 0, 0, 0, 0, 0] : List UInt8)))] (by kernel_rfl) (by kernel_rfl) rfl ?_
  refine GL.run (j := 8) 2 [0] [(0, .bool ((putB 1 1 ++ putB 5 8) == ([1, 5, 0, 0, 0, 0, 0, 0, 0] : List UInt8)))] (by kernel_rfl) rfl ?_
  refine GL.k rfl hK11 (fun _ _ h => h) ?_
  refine G.ret ?_
  intro F_ hF_ hM_
  refine hRet _ _ (bodyPost_1 rfl (RV.tmp rfl) ?_ F_ hF_ hM_)
  have hb12 : ((putB 1 1 ++ putB 5 8) == ([1, 5, 0, 0, 0, 0, 0, 0, 0] : List UInt8)) = true := by decide +kernel
  rw [hb12]
  exact ⟨rfl, H7.sub (List.nil_sublist _)⟩
end Go.Proofs.Ytkfhcogdpmndkaa
