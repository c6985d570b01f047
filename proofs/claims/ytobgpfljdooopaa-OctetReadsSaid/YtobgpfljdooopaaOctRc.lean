/- Package octet: counts read. -/
import Derived.Test.YtobgpfljdooopaaOctWc
namespace Go.Proofs.Ytobgpfljdooopaa
open Go.RowKit
theorem RawNeg_calls (S : List Nat) (p : Nat) (A : Option Addr) (k cap : Nat) (wr : Bool) (R : Option Addr) (N C : Nat) (whole rest : List UInt8) (z : Int) (w : World) (h0 : Hp w S [.blk p [.slice A k cap, .bool wr] 54, .row R N C 5 1 (by8 whole)] w) (hz : z < 0) : Calls Try.prog 15 #[pt p 0, .int .i64 z] w fun e w' => e = .returned (.slice none 0 0) ∧ Hp w S [.blk p [.slice none 0 0, .bool true] 54, .row R N C 5 1 (by8 whole)] w' := by
  refine calls_G (args := [pt p 0, .int .i64 z]) Try.func15 rfl Try.ntmps15 rfl ?_
  intro Q0 hRet hNor hPan
  have H := h0
  have H : Hp w S [.blk p [.slice A k cap, .bool wr] 54, .row R N C 5 1 (by8 whole)] w := H
  refine G.seqK fun K1 hK2 => ?_
  refine G.region ?_
  refine GL.run (j := 1) 1 [0, 1] [(0, pt p 0), (1, .int .i64 z)] (by kernel_rfl) rfl ?_
  refine GL.k rfl hK2 (fun _ _ h => h) ?_
  refine G.seqK fun K3 hK4 => ?_
  refine G.seqK fun K5 hK6 => ?_
  refine G.region ?_
  refine GL.run (j := 1) 1 [0, 1, 6] [(0, pt p 0), (1, .int .i64 z), (6, pt p 0)] (by kernel_rfl) rfl ?_
  refine GL.call (j := 2) (Wrong_calls (ids [.blk p [.slice A k cap, .bool wr] 54, .row R N C 5 1 (by8 whole)]) p A k cap wr R N C whole w (Hp.startL (A := [.blk p [.slice A k cap, .bool wr] 54, .row R N C 5 1 (by8 whole)]) (B := []) H)) (by kernel_rfl) rfl (fun e_ w7 hR => ?_)
  obtain ⟨rfl, H9⟩ := hR
  have H8 : Hp w S [.blk p [.slice A k cap, .bool wr] 54, .row R N C 5 1 (by8 whole)] w7 := Hp.callL (A := [.blk p [.slice A k cap, .bool wr] 54, .row R N C 5 1 (by8 whole)]) (B := []) H H9
  refine ⟨_, rfl, [0, 1, 7], [(0, pt p 0), (1, .int .i64 z), (7, .bool wr)], by kernel_rfl, ?_⟩
  refine GL.run (j := 3) 1 [0, 1, 8] [(0, pt p 0), (1, .int .i64 z), (8, .bool wr)] (by kernel_rfl) rfl ?_
  rcases (Bool.eq_false_or_eq_true wr).symm with hb10 | hb10
  · skip
    refine GL.eq (M' := [(0, pt p 0), (1, .int .i64 z), (8, .bool false)]) (by first | (rw [hb10]; done) | (rw [hb10]; rfl)) ?_
    refine GL.run (j := 7) 4 [0, 1, 12] [(0, pt p 0), (1, .int .i64 z), (12, .bool (decide (z < 0)))] (by kernel_rfl) rfl ?_
    have hb11 : (decide (z < 0)) = true := decide_eq_true hz
    rw [hb11]
    refine GL.run (j := 15) 8 [0, 1, 20] [(0, pt p 0), (1, .int .i64 z), (20, .bool true)] (by kernel_rfl) rfl ?_
    refine GL.k rfl hK6 (fun _ _ h => h) ?_
    refine G.yes rfl ?_
    refine G.seqK fun K12 hK13 => ?_
    refine G.region ?_
    refine GL.run (j := 1) 1 [21] [(21, pt p 0)] (by kernel_rfl) rfl ?_
    refine GL.call (j := 2) (Fail_calls (ids [.blk p [.slice A k cap, .bool wr] 54, .row R N C 5 1 (by8 whole)]) p A k cap wr R N C whole w7 (Hp.startL (A := [.blk p [.slice A k cap, .bool wr] 54, .row R N C 5 1 (by8 whole)]) (B := []) H8)) (by kernel_rfl) rfl (fun e_ w14 hR => ?_)
    obtain ⟨rfl, H16⟩ := hR
    have H15 : Hp w S [.blk p [.slice none 0 0, .bool true] 54, .row R N C 5 1 (by8 whole)] w14 := Hp.callL (A := [.blk p [.slice A k cap, .bool wr] 54, .row R N C 5 1 (by8 whole)]) (B := []) H8 H16
    refine ⟨_, rfl, [], [], by kernel_rfl, ?_⟩
    refine GL.k rfl hK13 (fun _ _ h => h) ?_
    refine G.seqK fun K17 hK18 => ?_
    refine G.region ?_
    refine GL.run (j := 1) 1 [4] [(4, .slice none 0 0)] (by kernel_rfl) rfl ?_
    refine GL.k rfl hK18 (fun _ _ h => h) ?_
    refine G.ret ?_
    intro F_ hF_ hM_
    refine hRet _ _ (bodyPost_1 rfl (RV.tmp rfl) ?_ F_ hF_ hM_)
    exact ⟨rfl, H15⟩
  · skip
    refine GL.eq (M' := [(0, pt p 0), (1, .int .i64 z), (8, .bool true)]) (by first | (rw [hb10]; done) | (rw [hb10]; rfl)) ?_
    refine GL.run (j := 15) 12 [0, 1, 20] [(0, pt p 0), (1, .int .i64 z), (20, .bool true)] (by kernel_rfl) rfl ?_
    refine GL.k rfl hK6 (fun _ _ h => h) ?_
    refine G.yes rfl ?_
    refine G.seqK fun K19 hK20 => ?_
    refine G.region ?_
    refine GL.run (j := 1) 1 [21] [(21, pt p 0)] (by kernel_rfl) rfl ?_
    refine GL.call (j := 2) (Fail_calls (ids [.blk p [.slice A k cap, .bool wr] 54, .row R N C 5 1 (by8 whole)]) p A k cap wr R N C whole w7 (Hp.startL (A := [.blk p [.slice A k cap, .bool wr] 54, .row R N C 5 1 (by8 whole)]) (B := []) H8)) (by kernel_rfl) rfl (fun e_ w21 hR => ?_)
    obtain ⟨rfl, H23⟩ := hR
    have H22 : Hp w S [.blk p [.slice none 0 0, .bool true] 54, .row R N C 5 1 (by8 whole)] w21 := Hp.callL (A := [.blk p [.slice A k cap, .bool wr] 54, .row R N C 5 1 (by8 whole)]) (B := []) H8 H23
    refine ⟨_, rfl, [], [], by kernel_rfl, ?_⟩
    refine GL.k rfl hK20 (fun _ _ h => h) ?_
    refine G.seqK fun K24 hK25 => ?_
    refine G.region ?_
    refine GL.run (j := 1) 1 [4] [(4, .slice none 0 0)] (by kernel_rfl) rfl ?_
    refine GL.k rfl hK25 (fun _ _ h => h) ?_
    refine G.ret ?_
    intro F_ hF_ hM_
    refine hRet _ _ (bodyPost_1 rfl (RV.tmp rfl) ?_ F_ hF_ hM_)
    exact ⟨rfl, H22⟩
theorem RCount_calls (S : List Nat) (p : Nat) (A : Option Addr) (k cap : Nat) (wr : Bool) (R : Option Addr) (N C : Nat) (whole rest : List UInt8) (most : Nat) (w : World) (h0 : Hp w S [.blk p [.slice A k cap, .bool wr] 54, .row R N C 5 1 (by8 whole)] w) (hcut : Cut R whole A rest) (hk : k = rest.length) (hcap : k ≤ cap) (hN : k ≤ 1000000) : Calls Try.prog 13 #[pt p 0, .int .u64 (most : Int)] w fun e w' => ∃ B b, e = .returned (.int .u64 ((ctV wr rest most : Nat) : Int)) ∧ Hp w S [.blk p [.slice B (ctR wr rest most).length b, .bool (!(ctOK wr rest most))] 54, .row R N C 5 1 (by8 whole)] w' ∧ Cut R whole B (ctR wr rest most) ∧ (ctR wr rest most).length ≤ b := by
  refine calls_G (args := [pt p 0, .int .u64 (most : Int)]) Try.func13 rfl Try.ntmps13 rfl ?_
  intro Q0 hRet hNor hPan
  have H := h0
  have H : Hp w S [.blk p [.slice A k cap, .bool wr] 54, .row R N C 5 1 (by8 whole)] w := H
  refine G.seqK fun K1 hK2 => ?_
  refine G.region ?_
  refine GL.run (j := 1) 1 [0, 1] [(0, pt p 0), (1, .int .u64 (most : Int))] (by kernel_rfl) rfl ?_
  refine GL.k rfl hK2 (fun _ _ h => h) ?_
  refine G.seqK fun K3 hK4 => ?_
  refine G.region ?_
  refine GL.run (j := 1) 1 [0, 1, 7] [(0, pt p 0), (1, .int .u64 (most : Int)), (7, pt p 0)] (by kernel_rfl) rfl ?_
  refine GL.call (j := 2) (Get1_calls (ids [.blk p [.slice A k cap, .bool wr] 54, .row R N C 5 1 (by8 whole)]) p A k cap wr R N C whole rest w (Hp.startL (A := [.blk p [.slice A k cap, .bool wr] 54, .row R N C 5 1 (by8 whole)]) (B := []) H) hcut (hk) (hcap) (hN)) (by kernel_rfl) rfl (fun e_ w9 hR => ?_)
  obtain ⟨A5, c6, rfl, H11, hC7, hL8⟩ := hR
  have H10 : Hp w S [.blk p [.slice A5 ((rR wr rest 1).length) c6, .bool (!(rOK wr rest 1))] 54, .row R N C 5 1 (by8 whole)] w9 := Hp.callL (A := [.blk p [.slice A k cap, .bool wr] 54, .row R N C 5 1 (by8 whole)]) (B := []) H H11
  refine ⟨_, rfl, [0, 1, 8], [(0, pt p 0), (1, .int .u64 (most : Int)), (8, .int .u64 (((getB (rV wr rest 1)) : Nat) : Int))], by kernel_rfl, ?_⟩
  refine GL.run (j := 4) 2 [0, 1, 5, 6] [(0, pt p 0), (1, .int .u64 (most : Int)), (5, .int .u64 (((getB (rV wr rest 1)) : Nat) : Int)), (6, .int .i64 1)] (by kernel_rfl) rfl ?_
  refine GL.k rfl hK4 (fun _ _ h => h) ?_
  refine G.seqK fun K12 hK13 => ?_
  refine G.seqK fun K14 hK15 => ?_
  refine G.region ?_
  refine GL.run (j := 1) 1 [0, 1, 5, 6, 9] [(0, pt p 0), (1, .int .u64 (most : Int)), (5, .int .u64 (((getB (rV wr rest 1)) : Nat) : Int)), (6, .int .i64 1), (9, .int .u64 (((getB (rV wr rest 1)) : Nat) : Int))] (by kernel_rfl) rfl ?_
  refine GL.k rfl hK15 (fun _ _ h => h) ?_
  refine G.block ?_
  refine G.seqK fun K16 hK17 => ?_
  refine G.region ?_
  refine GL.run (j := 2) 2 [0, 1, 5, 6, 9, 10] [(0, pt p 0), (1, .int .u64 (most : Int)), (5, .int .u64 (((getB (rV wr rest 1)) : Nat) : Int)), (6, .int .i64 1), (9, .int .u64 (((getB (rV wr rest 1)) : Nat) : Int)), (10, .bool ((((getB (rV wr rest 1)) : Nat) : Int) == 253))] (by kernel_rfl) rfl ?_
  refine GL.k rfl hK17 (fun _ _ h => h) ?_
  cases hb18 : ((((getB (rV wr rest 1)) : Nat) : Int) == 253)
  · skip
    have hb18f := ne_of_beq_false hb18
    refine G.no rfl ?_
    refine G.seqK fun K19 hK20 => ?_
    refine G.region ?_
    refine GL.run (j := 2) 2 [0, 1, 5, 6, 9, 14] [(0, pt p 0), (1, .int .u64 (most : Int)), (5, .int .u64 (((getB (rV wr rest 1)) : Nat) : Int)), (6, .int .i64 1), (9, .int .u64 (((getB (rV wr rest 1)) : Nat) : Int)), (14, .bool ((((getB (rV wr rest 1)) : Nat) : Int) == 254))] (by kernel_rfl) rfl ?_
    refine GL.k rfl hK20 (fun _ _ h => h) ?_
    cases hb21 : ((((getB (rV wr rest 1)) : Nat) : Int) == 254)
    · skip
      have hb21f := ne_of_beq_false hb21
      refine G.no rfl ?_
      refine G.seqK fun K22 hK23 => ?_
      refine G.region ?_
      refine GL.run (j := 2) 2 [0, 1, 5, 6, 18] [(0, pt p 0), (1, .int .u64 (most : Int)), (5, .int .u64 (((getB (rV wr rest 1)) : Nat) : Int)), (6, .int .i64 1), (18, .bool ((((getB (rV wr rest 1)) : Nat) : Int) == 255))] (by kernel_rfl) rfl ?_
      refine GL.k rfl hK23 (fun _ _ h => h) ?_
      cases hb24 : ((((getB (rV wr rest 1)) : Nat) : Int) == 255)
      · skip
        have hb24f := ne_of_beq_false hb24
        refine G.no rfl ?_
        refine G.skipK hK13 (fun _ _ h => h) ?_
        refine G.seqK fun K25 hK26 => ?_
        refine G.seqK fun K27 hK28 => ?_
        refine G.region ?_
        refine GL.run (j := 1) 1 [0, 1, 5, 6, 22] [(0, pt p 0), (1, .int .u64 (most : Int)), (5, .int .u64 (((getB (rV wr rest 1)) : Nat) : Int)), (6, .int .i64 1), (22, pt p 0)] (by kernel_rfl) rfl ?_
        refine GL.call (j := 2) (Wrong_calls (ids [.blk p [.slice A5 ((rR wr rest 1).length) c6, .bool (!(rOK wr rest 1))] 54, .row R N C 5 1 (by8 whole)]) p A5 ((rR wr rest 1).length) c6 (!(rOK wr rest 1)) R N C whole w9 (Hp.startL (A := [.blk p [.slice A5 ((rR wr rest 1).length) c6, .bool (!(rOK wr rest 1))] 54, .row R N C 5 1 (by8 whole)]) (B := []) H10)) (by kernel_rfl) rfl (fun e_ w29 hR => ?_)
        obtain ⟨rfl, H31⟩ := hR
        have H30 : Hp w S [.blk p [.slice A5 ((rR wr rest 1).length) c6, .bool (!(rOK wr rest 1))] 54, .row R N C 5 1 (by8 whole)] w29 := Hp.callL (A := [.blk p [.slice A5 ((rR wr rest 1).length) c6, .bool (!(rOK wr rest 1))] 54, .row R N C 5 1 (by8 whole)]) (B := []) H10 H31
        refine ⟨_, rfl, [0, 1, 5, 6, 23], [(0, pt p 0), (1, .int .u64 (most : Int)), (5, .int .u64 (((getB (rV wr rest 1)) : Nat) : Int)), (6, .int .i64 1), (23, .bool (!(rOK wr rest 1)))], by kernel_rfl, ?_⟩
        refine GL.run (j := 3) 1 [0, 1, 5, 6, 24] [(0, pt p 0), (1, .int .u64 (most : Int)), (5, .int .u64 (((getB (rV wr rest 1)) : Nat) : Int)), (6, .int .i64 1), (24, .bool (!(rOK wr rest 1)))] (by kernel_rfl) rfl ?_
        cases hb32 : (rOK wr rest 1)
        · skip
          refine GL.run (j := 13) 10 [0, 5, 34] [(0, pt p 0), (5, .int .u64 (((getB (rV wr rest 1)) : Nat) : Int)), (34, .bool true)] (by kernel_rfl) rfl ?_
          refine GL.k rfl hK28 (fun _ _ h => h) ?_
          refine G.yes rfl ?_
          refine G.seqK fun K33 hK34 => ?_
          refine G.region ?_
          refine GL.run (j := 1) 1 [35] [(35, pt p 0)] (by kernel_rfl) rfl ?_
          refine GL.call (j := 2) (Fail_calls (ids [.blk p [.slice A5 ((rR wr rest 1).length) c6, .bool (!(rOK wr rest 1))] 54, .row R N C 5 1 (by8 whole)]) p A5 ((rR wr rest 1).length) c6 (!(rOK wr rest 1)) R N C whole w29 (Hp.startL (A := [.blk p [.slice A5 ((rR wr rest 1).length) c6, .bool (!(rOK wr rest 1))] 54, .row R N C 5 1 (by8 whole)]) (B := []) H30)) (by kernel_rfl) rfl (fun e_ w35 hR => ?_)
          obtain ⟨rfl, H37⟩ := hR
          have H36 : Hp w S [.blk p [.slice none 0 0, .bool true] 54, .row R N C 5 1 (by8 whole)] w35 := Hp.callL (A := [.blk p [.slice A5 ((rR wr rest 1).length) c6, .bool (!(rOK wr rest 1))] 54, .row R N C 5 1 (by8 whole)]) (B := []) H30 H37
          refine ⟨_, rfl, [], [], by kernel_rfl, ?_⟩
          refine GL.k rfl hK34 (fun _ _ h => h) ?_
          refine G.seqK fun K38 hK39 => ?_
          refine G.region ?_
          refine GL.run (j := 1) 1 [4] [(4, .int .u64 0)] (by kernel_rfl) rfl ?_
          refine GL.k rfl hK39 (fun _ _ h => h) ?_
          refine G.ret ?_
          intro F_ hF_ hM_
          refine hRet _ _ (bodyPost_1 rfl (RV.tmp rfl) ?_ F_ hF_ hM_)
          have hn : ctN wr rest = 0 := by unfold ctN; (repeat' split) <;> omega
          obtain ⟨eX, eW, eT⟩ := ct_short hn
          obtain ⟨o1, o2, o3⟩ := ct_bad (most := most) (.inl (by rw [eW, ‹(rOK wr rest 1) = false›]; rfl))
          rw [o1, o2, o3]
          exact ⟨none, 0, rfl, H36, Cut.nil _ _ _, Nat.le_refl _⟩
        · skip
          refine GL.run (j := 5) 2 [0, 1, 5, 24, 25, 26] [(0, pt p 0), (1, .int .u64 (most : Int)), (5, .int .u64 (((getB (rV wr rest 1)) : Nat) : Int)), (24, .bool false), (25, .int .i64 1), (26, .int .u64 (((getB (rV wr rest 1)) : Nat) : Int))] (by kernel_rfl) rfl ?_
          refine GL.call (j := 6) (CountSize_calls (getB (rV wr rest 1)) w29) (by kernel_rfl) rfl (fun e_ w40 hR => ?_)
          obtain ⟨rfl, H42⟩ := hR
          have H41 : Hp w S [.blk p [.slice A5 ((rR wr rest 1).length) c6, .bool (!(rOK wr rest 1))] 54, .row R N C 5 1 (by8 whole)] w40 := H30.callNil H42
          refine ⟨_, rfl, [0, 1, 5, 24, 25, 27], [(0, pt p 0), (1, .int .u64 (most : Int)), (5, .int .u64 (((getB (rV wr rest 1)) : Nat) : Int)), (24, .bool false), (25, .int .i64 1), (27, .int .i64 (((cntSz (getB (rV wr rest 1))) : Nat) : Int))], by kernel_rfl, ?_⟩
          refine GL.run (j := 9) 3 [0, 1, 5, 30] [(0, pt p 0), (1, .int .u64 (most : Int)), (5, .int .u64 (((getB (rV wr rest 1)) : Nat) : Int)), (30, .bool ((1 : Int) != (((cntSz (getB (rV wr rest 1))) : Nat) : Int)))] (by kernel_rfl) rfl ?_
          cases hb43 : ((1 : Int) != (((cntSz (getB (rV wr rest 1))) : Nat) : Int))
          · skip
            have hb43f : (1 : Int) = (((cntSz (getB (rV wr rest 1))) : Nat) : Int) := bne_eq_false_iff_eq.1 hb43
            refine GL.run (j := 13) 4 [0, 5, 34] [(0, pt p 0), (5, .int .u64 (((getB (rV wr rest 1)) : Nat) : Int)), (34, .bool (decide ((most : Int) < (((getB (rV wr rest 1)) : Nat) : Int))))] (by kernel_rfl) rfl ?_
            refine GL.k rfl hK28 (fun _ _ h => h) ?_
            cases hb44 : (decide ((most : Int) < (((getB (rV wr rest 1)) : Nat) : Int)))
            · skip
              have hb44f := of_decide_eq_false hb44
              refine G.no rfl ?_
              refine G.skipK hK26 (fun _ _ h => h) ?_
              refine G.seqK fun K45 hK46 => ?_
              refine G.region ?_
              refine GL.run (j := 2) 2 [4] [(4, .int .u64 (((getB (rV wr rest 1)) : Nat) : Int))] (by kernel_rfl) rfl ?_
              refine GL.k rfl hK46 (fun _ _ h => h) ?_
              refine G.ret ?_
              intro F_ hF_ hM_
              refine hRet _ _ (bodyPost_1 rfl (RV.tmp rfl) ?_ F_ hF_ hM_)
              have hn : ctN wr rest = 0 := by unfold ctN; (repeat' split) <;> omega
              obtain ⟨eX, eW, eT⟩ := ct_short hn
              obtain ⟨o1, o2, o3⟩ := ct_ok (most := most) (by rw [eW, ‹(rOK wr rest 1) = true›]; rfl) (by rw [eX, hn]; omega) (by rw [eX]; omega)
              rw [o1, o2, o3, eX, eT]
              have HF := H41
              rw [‹(rOK wr rest 1) = true›] at HF
              exact ⟨_, _, rfl, HF, hC7, hL8⟩
            · skip
              have hb44f := of_decide_eq_true hb44
              refine G.yes rfl ?_
              refine G.seqK fun K47 hK48 => ?_
              refine G.region ?_
              refine GL.run (j := 1) 1 [35] [(35, pt p 0)] (by kernel_rfl) rfl ?_
              refine GL.call (j := 2) (Fail_calls (ids [.blk p [.slice A5 ((rR wr rest 1).length) c6, .bool (!(rOK wr rest 1))] 54, .row R N C 5 1 (by8 whole)]) p A5 ((rR wr rest 1).length) c6 (!(rOK wr rest 1)) R N C whole w40 (Hp.startL (A := [.blk p [.slice A5 ((rR wr rest 1).length) c6, .bool (!(rOK wr rest 1))] 54, .row R N C 5 1 (by8 whole)]) (B := []) H41)) (by kernel_rfl) rfl (fun e_ w49 hR => ?_)
              obtain ⟨rfl, H51⟩ := hR
              have H50 : Hp w S [.blk p [.slice none 0 0, .bool true] 54, .row R N C 5 1 (by8 whole)] w49 := Hp.callL (A := [.blk p [.slice A5 ((rR wr rest 1).length) c6, .bool (!(rOK wr rest 1))] 54, .row R N C 5 1 (by8 whole)]) (B := []) H41 H51
              refine ⟨_, rfl, [], [], by kernel_rfl, ?_⟩
              refine GL.k rfl hK48 (fun _ _ h => h) ?_
              refine G.seqK fun K52 hK53 => ?_
              refine G.region ?_
              refine GL.run (j := 1) 1 [4] [(4, .int .u64 0)] (by kernel_rfl) rfl ?_
              refine GL.k rfl hK53 (fun _ _ h => h) ?_
              refine G.ret ?_
              intro F_ hF_ hM_
              refine hRet _ _ (bodyPost_1 rfl (RV.tmp rfl) ?_ F_ hF_ hM_)
              have hn : ctN wr rest = 0 := by unfold ctN; (repeat' split) <;> omega
              obtain ⟨eX, eW, eT⟩ := ct_short hn
              obtain ⟨o1, o2, o3⟩ := ct_bad (wr := wr) (rest := rest) (most := most) (.inr (.inr (by rw [eX]; omega)))
              rw [o1, o2, o3]
              exact ⟨none, 0, rfl, H50, Cut.nil _ _ _, Nat.le_refl _⟩
          · skip
            have hb43f : (1 : Int) ≠ (((cntSz (getB (rV wr rest 1))) : Nat) : Int) := bne_iff_ne.1 hb43
            refine GL.run (j := 13) 4 [0, 5, 34] [(0, pt p 0), (5, .int .u64 (((getB (rV wr rest 1)) : Nat) : Int)), (34, .bool true)] (by kernel_rfl) rfl ?_
            refine GL.k rfl hK28 (fun _ _ h => h) ?_
            refine G.yes rfl ?_
            refine G.seqK fun K54 hK55 => ?_
            refine G.region ?_
            refine GL.run (j := 1) 1 [35] [(35, pt p 0)] (by kernel_rfl) rfl ?_
            refine GL.call (j := 2) (Fail_calls (ids [.blk p [.slice A5 ((rR wr rest 1).length) c6, .bool (!(rOK wr rest 1))] 54, .row R N C 5 1 (by8 whole)]) p A5 ((rR wr rest 1).length) c6 (!(rOK wr rest 1)) R N C whole w40 (Hp.startL (A := [.blk p [.slice A5 ((rR wr rest 1).length) c6, .bool (!(rOK wr rest 1))] 54, .row R N C 5 1 (by8 whole)]) (B := []) H41)) (by kernel_rfl) rfl (fun e_ w56 hR => ?_)
            obtain ⟨rfl, H58⟩ := hR
            have H57 : Hp w S [.blk p [.slice none 0 0, .bool true] 54, .row R N C 5 1 (by8 whole)] w56 := Hp.callL (A := [.blk p [.slice A5 ((rR wr rest 1).length) c6, .bool (!(rOK wr rest 1))] 54, .row R N C 5 1 (by8 whole)]) (B := []) H41 H58
            refine ⟨_, rfl, [], [], by kernel_rfl, ?_⟩
            refine GL.k rfl hK55 (fun _ _ h => h) ?_
            refine G.seqK fun K59 hK60 => ?_
            refine G.region ?_
            refine GL.run (j := 1) 1 [4] [(4, .int .u64 0)] (by kernel_rfl) rfl ?_
            refine GL.k rfl hK60 (fun _ _ h => h) ?_
            refine G.ret ?_
            intro F_ hF_ hM_
            refine hRet _ _ (bodyPost_1 rfl (RV.tmp rfl) ?_ F_ hF_ hM_)
            have hn : ctN wr rest = 0 := by unfold ctN; (repeat' split) <;> omega
            obtain ⟨eX, eW, eT⟩ := ct_short hn
            obtain ⟨o1, o2, o3⟩ := ct_bad (wr := wr) (rest := rest) (most := most) (.inr (.inl (by rw [eX, hn]; omega)))
            rw [o1, o2, o3]
            exact ⟨none, 0, rfl, H57, Cut.nil _ _ _, Nat.le_refl _⟩
      · skip
        have hb24f := eq_of_beq hb24
        refine G.yes rfl ?_
        refine G.region ?_
        refine GL.run (j := 1) 1 [0, 1, 20] [(0, pt p 0), (1, .int .u64 (most : Int)), (20, pt p 0)] (by kernel_rfl) rfl ?_
        refine GL.call (j := 2) (Get8_calls (ids [.blk p [.slice A5 ((rR wr rest 1).length) c6, .bool (!(rOK wr rest 1))] 54, .row R N C 5 1 (by8 whole)]) p A5 ((rR wr rest 1).length) c6 (!(rOK wr rest 1)) R N C whole (rR wr rest 1) w9 (Hp.startL (A := [.blk p [.slice A5 ((rR wr rest 1).length) c6, .bool (!(rOK wr rest 1))] 54, .row R N C 5 1 (by8 whole)]) (B := []) H10) hC7 (rfl) (hL8) ((Nat.le_trans (rR_le _ _ _) (hk ▸ hN)))) (by kernel_rfl) rfl (fun e_ w65 hR => ?_)
        obtain ⟨A61, c62, rfl, H67, hC63, hL64⟩ := hR
        have H66 : Hp w S [.blk p [.slice A61 ((rR (!(rOK wr rest 1)) (rR wr rest 1) 8).length) c62, .bool (!(rOK (!(rOK wr rest 1)) (rR wr rest 1) 8))] 54, .row R N C 5 1 (by8 whole)] w65 := Hp.callL (A := [.blk p [.slice A5 ((rR wr rest 1).length) c6, .bool (!(rOK wr rest 1))] 54, .row R N C 5 1 (by8 whole)]) (B := []) H10 H67
        refine ⟨_, rfl, [0, 1, 21], [(0, pt p 0), (1, .int .u64 (most : Int)), (21, .int .u64 (((getB (rV (!(rOK wr rest 1)) (rR wr rest 1) 8)) : Nat) : Int))], by kernel_rfl, ?_⟩
        refine GL.run (j := 4) 2 [0, 1, 5, 6] [(0, pt p 0), (1, .int .u64 (most : Int)), (5, .int .u64 (((getB (rV (!(rOK wr rest 1)) (rR wr rest 1) 8)) : Nat) : Int)), (6, .int .i64 9)] (by kernel_rfl) rfl ?_
        refine GL.k rfl hK13 (fun _ _ h => h) ?_
        refine G.seqK fun K68 hK69 => ?_
        refine G.seqK fun K70 hK71 => ?_
        refine G.region ?_
        refine GL.run (j := 1) 1 [0, 1, 5, 6, 22] [(0, pt p 0), (1, .int .u64 (most : Int)), (5, .int .u64 (((getB (rV (!(rOK wr rest 1)) (rR wr rest 1) 8)) : Nat) : Int)), (6, .int .i64 9), (22, pt p 0)] (by kernel_rfl) rfl ?_
        refine GL.call (j := 2) (Wrong_calls (ids [.blk p [.slice A61 ((rR (!(rOK wr rest 1)) (rR wr rest 1) 8).length) c62, .bool (!(rOK (!(rOK wr rest 1)) (rR wr rest 1) 8))] 54, .row R N C 5 1 (by8 whole)]) p A61 ((rR (!(rOK wr rest 1)) (rR wr rest 1) 8).length) c62 (!(rOK (!(rOK wr rest 1)) (rR wr rest 1) 8)) R N C whole w65 (Hp.startL (A := [.blk p [.slice A61 ((rR (!(rOK wr rest 1)) (rR wr rest 1) 8).length) c62, .bool (!(rOK (!(rOK wr rest 1)) (rR wr rest 1) 8))] 54, .row R N C 5 1 (by8 whole)]) (B := []) H66)) (by kernel_rfl) rfl (fun e_ w72 hR => ?_)
        obtain ⟨rfl, H74⟩ := hR
        have H73 : Hp w S [.blk p [.slice A61 ((rR (!(rOK wr rest 1)) (rR wr rest 1) 8).length) c62, .bool (!(rOK (!(rOK wr rest 1)) (rR wr rest 1) 8))] 54, .row R N C 5 1 (by8 whole)] w72 := Hp.callL (A := [.blk p [.slice A61 ((rR (!(rOK wr rest 1)) (rR wr rest 1) 8).length) c62, .bool (!(rOK (!(rOK wr rest 1)) (rR wr rest 1) 8))] 54, .row R N C 5 1 (by8 whole)]) (B := []) H66 H74
        refine ⟨_, rfl, [0, 1, 5, 6, 23], [(0, pt p 0), (1, .int .u64 (most : Int)), (5, .int .u64 (((getB (rV (!(rOK wr rest 1)) (rR wr rest 1) 8)) : Nat) : Int)), (6, .int .i64 9), (23, .bool (!(rOK (!(rOK wr rest 1)) (rR wr rest 1) 8)))], by kernel_rfl, ?_⟩
        refine GL.run (j := 3) 1 [0, 1, 5, 6, 24] [(0, pt p 0), (1, .int .u64 (most : Int)), (5, .int .u64 (((getB (rV (!(rOK wr rest 1)) (rR wr rest 1) 8)) : Nat) : Int)), (6, .int .i64 9), (24, .bool (!(rOK (!(rOK wr rest 1)) (rR wr rest 1) 8)))] (by kernel_rfl) rfl ?_
        cases hb75 : (rOK (!(rOK wr rest 1)) (rR wr rest 1) 8)
        · skip
          refine GL.run (j := 13) 10 [0, 5, 34] [(0, pt p 0), (5, .int .u64 (((getB (rV (!(rOK wr rest 1)) (rR wr rest 1) 8)) : Nat) : Int)), (34, .bool true)] (by kernel_rfl) rfl ?_
          refine GL.k rfl hK71 (fun _ _ h => h) ?_
          refine G.yes rfl ?_
          refine G.seqK fun K76 hK77 => ?_
          refine G.region ?_
          refine GL.run (j := 1) 1 [35] [(35, pt p 0)] (by kernel_rfl) rfl ?_
          refine GL.call (j := 2) (Fail_calls (ids [.blk p [.slice A61 ((rR (!(rOK wr rest 1)) (rR wr rest 1) 8).length) c62, .bool (!(rOK (!(rOK wr rest 1)) (rR wr rest 1) 8))] 54, .row R N C 5 1 (by8 whole)]) p A61 ((rR (!(rOK wr rest 1)) (rR wr rest 1) 8).length) c62 (!(rOK (!(rOK wr rest 1)) (rR wr rest 1) 8)) R N C whole w72 (Hp.startL (A := [.blk p [.slice A61 ((rR (!(rOK wr rest 1)) (rR wr rest 1) 8).length) c62, .bool (!(rOK (!(rOK wr rest 1)) (rR wr rest 1) 8))] 54, .row R N C 5 1 (by8 whole)]) (B := []) H73)) (by kernel_rfl) rfl (fun e_ w78 hR => ?_)
          obtain ⟨rfl, H80⟩ := hR
          have H79 : Hp w S [.blk p [.slice none 0 0, .bool true] 54, .row R N C 5 1 (by8 whole)] w78 := Hp.callL (A := [.blk p [.slice A61 ((rR (!(rOK wr rest 1)) (rR wr rest 1) 8).length) c62, .bool (!(rOK (!(rOK wr rest 1)) (rR wr rest 1) 8))] 54, .row R N C 5 1 (by8 whole)]) (B := []) H73 H80
          refine ⟨_, rfl, [], [], by kernel_rfl, ?_⟩
          refine GL.k rfl hK77 (fun _ _ h => h) ?_
          refine G.seqK fun K81 hK82 => ?_
          refine G.region ?_
          refine GL.run (j := 1) 1 [4] [(4, .int .u64 0)] (by kernel_rfl) rfl ?_
          refine GL.k rfl hK82 (fun _ _ h => h) ?_
          refine G.ret ?_
          intro F_ hF_ hM_
          refine hRet _ _ (bodyPost_1 rfl (RV.tmp rfl) ?_ F_ hF_ hM_)
          have hn : ctN wr rest = 8 := by unfold ctN; (repeat' split) <;> omega
          obtain ⟨eX, eW, eT⟩ := ct_long hn (by decide)
          obtain ⟨o1, o2, o3⟩ := ct_bad (most := most) (.inl (by rw [eW, ‹(rOK (!(rOK wr rest 1)) (rR wr rest 1) 8) = false›]; rfl))
          rw [o1, o2, o3]
          exact ⟨none, 0, rfl, H79, Cut.nil _ _ _, Nat.le_refl _⟩
        · skip
          refine GL.run (j := 5) 2 [0, 1, 5, 24, 25, 26] [(0, pt p 0), (1, .int .u64 (most : Int)), (5, .int .u64 (((getB (rV (!(rOK wr rest 1)) (rR wr rest 1) 8)) : Nat) : Int)), (24, .bool false), (25, .int .i64 9), (26, .int .u64 (((getB (rV (!(rOK wr rest 1)) (rR wr rest 1) 8)) : Nat) : Int))] (by kernel_rfl) rfl ?_
          refine GL.call (j := 6) (CountSize_calls (getB (rV (!(rOK wr rest 1)) (rR wr rest 1) 8)) w72) (by kernel_rfl) rfl (fun e_ w83 hR => ?_)
          obtain ⟨rfl, H85⟩ := hR
          have H84 : Hp w S [.blk p [.slice A61 ((rR (!(rOK wr rest 1)) (rR wr rest 1) 8).length) c62, .bool (!(rOK (!(rOK wr rest 1)) (rR wr rest 1) 8))] 54, .row R N C 5 1 (by8 whole)] w83 := H73.callNil H85
          refine ⟨_, rfl, [0, 1, 5, 24, 25, 27], [(0, pt p 0), (1, .int .u64 (most : Int)), (5, .int .u64 (((getB (rV (!(rOK wr rest 1)) (rR wr rest 1) 8)) : Nat) : Int)), (24, .bool false), (25, .int .i64 9), (27, .int .i64 (((cntSz (getB (rV (!(rOK wr rest 1)) (rR wr rest 1) 8))) : Nat) : Int))], by kernel_rfl, ?_⟩
          refine GL.run (j := 9) 3 [0, 1, 5, 30] [(0, pt p 0), (1, .int .u64 (most : Int)), (5, .int .u64 (((getB (rV (!(rOK wr rest 1)) (rR wr rest 1) 8)) : Nat) : Int)), (30, .bool ((9 : Int) != (((cntSz (getB (rV (!(rOK wr rest 1)) (rR wr rest 1) 8))) : Nat) : Int)))] (by kernel_rfl) rfl ?_
          cases hb86 : ((9 : Int) != (((cntSz (getB (rV (!(rOK wr rest 1)) (rR wr rest 1) 8))) : Nat) : Int))
          · skip
            have hb86f : (9 : Int) = (((cntSz (getB (rV (!(rOK wr rest 1)) (rR wr rest 1) 8))) : Nat) : Int) := bne_eq_false_iff_eq.1 hb86
            refine GL.run (j := 13) 4 [0, 5, 34] [(0, pt p 0), (5, .int .u64 (((getB (rV (!(rOK wr rest 1)) (rR wr rest 1) 8)) : Nat) : Int)), (34, .bool (decide ((most : Int) < (((getB (rV (!(rOK wr rest 1)) (rR wr rest 1) 8)) : Nat) : Int))))] (by kernel_rfl) rfl ?_
            refine GL.k rfl hK71 (fun _ _ h => h) ?_
            cases hb87 : (decide ((most : Int) < (((getB (rV (!(rOK wr rest 1)) (rR wr rest 1) 8)) : Nat) : Int)))
            · skip
              have hb87f := of_decide_eq_false hb87
              refine G.no rfl ?_
              refine G.skipK hK69 (fun _ _ h => h) ?_
              refine G.seqK fun K88 hK89 => ?_
              refine G.region ?_
              refine GL.run (j := 2) 2 [4] [(4, .int .u64 (((getB (rV (!(rOK wr rest 1)) (rR wr rest 1) 8)) : Nat) : Int))] (by kernel_rfl) rfl ?_
              refine GL.k rfl hK89 (fun _ _ h => h) ?_
              refine G.ret ?_
              intro F_ hF_ hM_
              refine hRet _ _ (bodyPost_1 rfl (RV.tmp rfl) ?_ F_ hF_ hM_)
              have hn : ctN wr rest = 8 := by unfold ctN; (repeat' split) <;> omega
              obtain ⟨eX, eW, eT⟩ := ct_long hn (by decide)
              obtain ⟨o1, o2, o3⟩ := ct_ok (most := most) (by rw [eW, ‹(rOK (!(rOK wr rest 1)) (rR wr rest 1) 8) = true›]; rfl) (by rw [eX, hn]; omega) (by rw [eX]; omega)
              rw [o1, o2, o3, eX, eT]
              have HF := H84
              rw [‹(rOK (!(rOK wr rest 1)) (rR wr rest 1) 8) = true›] at HF
              exact ⟨_, _, rfl, HF, hC63, hL64⟩
            · skip
              have hb87f := of_decide_eq_true hb87
              refine G.yes rfl ?_
              refine G.seqK fun K90 hK91 => ?_
              refine G.region ?_
              refine GL.run (j := 1) 1 [35] [(35, pt p 0)] (by kernel_rfl) rfl ?_
              refine GL.call (j := 2) (Fail_calls (ids [.blk p [.slice A61 ((rR (!(rOK wr rest 1)) (rR wr rest 1) 8).length) c62, .bool (!(rOK (!(rOK wr rest 1)) (rR wr rest 1) 8))] 54, .row R N C 5 1 (by8 whole)]) p A61 ((rR (!(rOK wr rest 1)) (rR wr rest 1) 8).length) c62 (!(rOK (!(rOK wr rest 1)) (rR wr rest 1) 8)) R N C whole w83 (Hp.startL (A := [.blk p [.slice A61 ((rR (!(rOK wr rest 1)) (rR wr rest 1) 8).length) c62, .bool (!(rOK (!(rOK wr rest 1)) (rR wr rest 1) 8))] 54, .row R N C 5 1 (by8 whole)]) (B := []) H84)) (by kernel_rfl) rfl (fun e_ w92 hR => ?_)
              obtain ⟨rfl, H94⟩ := hR
              have H93 : Hp w S [.blk p [.slice none 0 0, .bool true] 54, .row R N C 5 1 (by8 whole)] w92 := Hp.callL (A := [.blk p [.slice A61 ((rR (!(rOK wr rest 1)) (rR wr rest 1) 8).length) c62, .bool (!(rOK (!(rOK wr rest 1)) (rR wr rest 1) 8))] 54, .row R N C 5 1 (by8 whole)]) (B := []) H84 H94
              refine ⟨_, rfl, [], [], by kernel_rfl, ?_⟩
              refine GL.k rfl hK91 (fun _ _ h => h) ?_
              refine G.seqK fun K95 hK96 => ?_
              refine G.region ?_
              refine GL.run (j := 1) 1 [4] [(4, .int .u64 0)] (by kernel_rfl) rfl ?_
              refine GL.k rfl hK96 (fun _ _ h => h) ?_
              refine G.ret ?_
              intro F_ hF_ hM_
              refine hRet _ _ (bodyPost_1 rfl (RV.tmp rfl) ?_ F_ hF_ hM_)
              have hn : ctN wr rest = 8 := by unfold ctN; (repeat' split) <;> omega
              obtain ⟨eX, eW, eT⟩ := ct_long hn (by decide)
              obtain ⟨o1, o2, o3⟩ := ct_bad (wr := wr) (rest := rest) (most := most) (.inr (.inr (by rw [eX]; omega)))
              rw [o1, o2, o3]
              exact ⟨none, 0, rfl, H93, Cut.nil _ _ _, Nat.le_refl _⟩
          · skip
            have hb86f : (9 : Int) ≠ (((cntSz (getB (rV (!(rOK wr rest 1)) (rR wr rest 1) 8))) : Nat) : Int) := bne_iff_ne.1 hb86
            refine GL.run (j := 13) 4 [0, 5, 34] [(0, pt p 0), (5, .int .u64 (((getB (rV (!(rOK wr rest 1)) (rR wr rest 1) 8)) : Nat) : Int)), (34, .bool true)] (by kernel_rfl) rfl ?_
            refine GL.k rfl hK71 (fun _ _ h => h) ?_
            refine G.yes rfl ?_
            refine G.seqK fun K97 hK98 => ?_
            refine G.region ?_
            refine GL.run (j := 1) 1 [35] [(35, pt p 0)] (by kernel_rfl) rfl ?_
            refine GL.call (j := 2) (Fail_calls (ids [.blk p [.slice A61 ((rR (!(rOK wr rest 1)) (rR wr rest 1) 8).length) c62, .bool (!(rOK (!(rOK wr rest 1)) (rR wr rest 1) 8))] 54, .row R N C 5 1 (by8 whole)]) p A61 ((rR (!(rOK wr rest 1)) (rR wr rest 1) 8).length) c62 (!(rOK (!(rOK wr rest 1)) (rR wr rest 1) 8)) R N C whole w83 (Hp.startL (A := [.blk p [.slice A61 ((rR (!(rOK wr rest 1)) (rR wr rest 1) 8).length) c62, .bool (!(rOK (!(rOK wr rest 1)) (rR wr rest 1) 8))] 54, .row R N C 5 1 (by8 whole)]) (B := []) H84)) (by kernel_rfl) rfl (fun e_ w99 hR => ?_)
            obtain ⟨rfl, H101⟩ := hR
            have H100 : Hp w S [.blk p [.slice none 0 0, .bool true] 54, .row R N C 5 1 (by8 whole)] w99 := Hp.callL (A := [.blk p [.slice A61 ((rR (!(rOK wr rest 1)) (rR wr rest 1) 8).length) c62, .bool (!(rOK (!(rOK wr rest 1)) (rR wr rest 1) 8))] 54, .row R N C 5 1 (by8 whole)]) (B := []) H84 H101
            refine ⟨_, rfl, [], [], by kernel_rfl, ?_⟩
            refine GL.k rfl hK98 (fun _ _ h => h) ?_
            refine G.seqK fun K102 hK103 => ?_
            refine G.region ?_
            refine GL.run (j := 1) 1 [4] [(4, .int .u64 0)] (by kernel_rfl) rfl ?_
            refine GL.k rfl hK103 (fun _ _ h => h) ?_
            refine G.ret ?_
            intro F_ hF_ hM_
            refine hRet _ _ (bodyPost_1 rfl (RV.tmp rfl) ?_ F_ hF_ hM_)
            have hn : ctN wr rest = 8 := by unfold ctN; (repeat' split) <;> omega
            obtain ⟨eX, eW, eT⟩ := ct_long hn (by decide)
            obtain ⟨o1, o2, o3⟩ := ct_bad (wr := wr) (rest := rest) (most := most) (.inr (.inl (by rw [eX, hn]; omega)))
            rw [o1, o2, o3]
            exact ⟨none, 0, rfl, H100, Cut.nil _ _ _, Nat.le_refl _⟩
    · skip
      have hb21f := eq_of_beq hb21
      refine G.yes rfl ?_
      refine G.region ?_
      refine GL.run (j := 1) 1 [0, 1, 16] [(0, pt p 0), (1, .int .u64 (most : Int)), (16, pt p 0)] (by kernel_rfl) rfl ?_
      refine GL.call (j := 2) (Get4_calls (ids [.blk p [.slice A5 ((rR wr rest 1).length) c6, .bool (!(rOK wr rest 1))] 54, .row R N C 5 1 (by8 whole)]) p A5 ((rR wr rest 1).length) c6 (!(rOK wr rest 1)) R N C whole (rR wr rest 1) w9 (Hp.startL (A := [.blk p [.slice A5 ((rR wr rest 1).length) c6, .bool (!(rOK wr rest 1))] 54, .row R N C 5 1 (by8 whole)]) (B := []) H10) hC7 (rfl) (hL8) ((Nat.le_trans (rR_le _ _ _) (hk ▸ hN)))) (by kernel_rfl) rfl (fun e_ w108 hR => ?_)
      obtain ⟨A104, c105, rfl, H110, hC106, hL107⟩ := hR
      have H109 : Hp w S [.blk p [.slice A104 ((rR (!(rOK wr rest 1)) (rR wr rest 1) 4).length) c105, .bool (!(rOK (!(rOK wr rest 1)) (rR wr rest 1) 4))] 54, .row R N C 5 1 (by8 whole)] w108 := Hp.callL (A := [.blk p [.slice A5 ((rR wr rest 1).length) c6, .bool (!(rOK wr rest 1))] 54, .row R N C 5 1 (by8 whole)]) (B := []) H10 H110
      refine ⟨_, rfl, [0, 1, 17], [(0, pt p 0), (1, .int .u64 (most : Int)), (17, .int .u64 (((getB (rV (!(rOK wr rest 1)) (rR wr rest 1) 4)) : Nat) : Int))], by kernel_rfl, ?_⟩
      refine GL.run (j := 4) 2 [0, 1, 5, 6] [(0, pt p 0), (1, .int .u64 (most : Int)), (5, .int .u64 (((getB (rV (!(rOK wr rest 1)) (rR wr rest 1) 4)) : Nat) : Int)), (6, .int .i64 5)] (by kernel_rfl) rfl ?_
      refine GL.k rfl hK13 (fun _ _ h => h) ?_
      refine G.seqK fun K111 hK112 => ?_
      refine G.seqK fun K113 hK114 => ?_
      refine G.region ?_
      refine GL.run (j := 1) 1 [0, 1, 5, 6, 22] [(0, pt p 0), (1, .int .u64 (most : Int)), (5, .int .u64 (((getB (rV (!(rOK wr rest 1)) (rR wr rest 1) 4)) : Nat) : Int)), (6, .int .i64 5), (22, pt p 0)] (by kernel_rfl) rfl ?_
      refine GL.call (j := 2) (Wrong_calls (ids [.blk p [.slice A104 ((rR (!(rOK wr rest 1)) (rR wr rest 1) 4).length) c105, .bool (!(rOK (!(rOK wr rest 1)) (rR wr rest 1) 4))] 54, .row R N C 5 1 (by8 whole)]) p A104 ((rR (!(rOK wr rest 1)) (rR wr rest 1) 4).length) c105 (!(rOK (!(rOK wr rest 1)) (rR wr rest 1) 4)) R N C whole w108 (Hp.startL (A := [.blk p [.slice A104 ((rR (!(rOK wr rest 1)) (rR wr rest 1) 4).length) c105, .bool (!(rOK (!(rOK wr rest 1)) (rR wr rest 1) 4))] 54, .row R N C 5 1 (by8 whole)]) (B := []) H109)) (by kernel_rfl) rfl (fun e_ w115 hR => ?_)
      obtain ⟨rfl, H117⟩ := hR
      have H116 : Hp w S [.blk p [.slice A104 ((rR (!(rOK wr rest 1)) (rR wr rest 1) 4).length) c105, .bool (!(rOK (!(rOK wr rest 1)) (rR wr rest 1) 4))] 54, .row R N C 5 1 (by8 whole)] w115 := Hp.callL (A := [.blk p [.slice A104 ((rR (!(rOK wr rest 1)) (rR wr rest 1) 4).length) c105, .bool (!(rOK (!(rOK wr rest 1)) (rR wr rest 1) 4))] 54, .row R N C 5 1 (by8 whole)]) (B := []) H109 H117
      refine ⟨_, rfl, [0, 1, 5, 6, 23], [(0, pt p 0), (1, .int .u64 (most : Int)), (5, .int .u64 (((getB (rV (!(rOK wr rest 1)) (rR wr rest 1) 4)) : Nat) : Int)), (6, .int .i64 5), (23, .bool (!(rOK (!(rOK wr rest 1)) (rR wr rest 1) 4)))], by kernel_rfl, ?_⟩
      refine GL.run (j := 3) 1 [0, 1, 5, 6, 24] [(0, pt p 0), (1, .int .u64 (most : Int)), (5, .int .u64 (((getB (rV (!(rOK wr rest 1)) (rR wr rest 1) 4)) : Nat) : Int)), (6, .int .i64 5), (24, .bool (!(rOK (!(rOK wr rest 1)) (rR wr rest 1) 4)))] (by kernel_rfl) rfl ?_
      cases hb118 : (rOK (!(rOK wr rest 1)) (rR wr rest 1) 4)
      · skip
        refine GL.run (j := 13) 10 [0, 5, 34] [(0, pt p 0), (5, .int .u64 (((getB (rV (!(rOK wr rest 1)) (rR wr rest 1) 4)) : Nat) : Int)), (34, .bool true)] (by kernel_rfl) rfl ?_
        refine GL.k rfl hK114 (fun _ _ h => h) ?_
        refine G.yes rfl ?_
        refine G.seqK fun K119 hK120 => ?_
        refine G.region ?_
        refine GL.run (j := 1) 1 [35] [(35, pt p 0)] (by kernel_rfl) rfl ?_
        refine GL.call (j := 2) (Fail_calls (ids [.blk p [.slice A104 ((rR (!(rOK wr rest 1)) (rR wr rest 1) 4).length) c105, .bool (!(rOK (!(rOK wr rest 1)) (rR wr rest 1) 4))] 54, .row R N C 5 1 (by8 whole)]) p A104 ((rR (!(rOK wr rest 1)) (rR wr rest 1) 4).length) c105 (!(rOK (!(rOK wr rest 1)) (rR wr rest 1) 4)) R N C whole w115 (Hp.startL (A := [.blk p [.slice A104 ((rR (!(rOK wr rest 1)) (rR wr rest 1) 4).length) c105, .bool (!(rOK (!(rOK wr rest 1)) (rR wr rest 1) 4))] 54, .row R N C 5 1 (by8 whole)]) (B := []) H116)) (by kernel_rfl) rfl (fun e_ w121 hR => ?_)
        obtain ⟨rfl, H123⟩ := hR
        have H122 : Hp w S [.blk p [.slice none 0 0, .bool true] 54, .row R N C 5 1 (by8 whole)] w121 := Hp.callL (A := [.blk p [.slice A104 ((rR (!(rOK wr rest 1)) (rR wr rest 1) 4).length) c105, .bool (!(rOK (!(rOK wr rest 1)) (rR wr rest 1) 4))] 54, .row R N C 5 1 (by8 whole)]) (B := []) H116 H123
        refine ⟨_, rfl, [], [], by kernel_rfl, ?_⟩
        refine GL.k rfl hK120 (fun _ _ h => h) ?_
        refine G.seqK fun K124 hK125 => ?_
        refine G.region ?_
        refine GL.run (j := 1) 1 [4] [(4, .int .u64 0)] (by kernel_rfl) rfl ?_
        refine GL.k rfl hK125 (fun _ _ h => h) ?_
        refine G.ret ?_
        intro F_ hF_ hM_
        refine hRet _ _ (bodyPost_1 rfl (RV.tmp rfl) ?_ F_ hF_ hM_)
        have hn : ctN wr rest = 4 := by unfold ctN; (repeat' split) <;> omega
        obtain ⟨eX, eW, eT⟩ := ct_long hn (by decide)
        obtain ⟨o1, o2, o3⟩ := ct_bad (most := most) (.inl (by rw [eW, ‹(rOK (!(rOK wr rest 1)) (rR wr rest 1) 4) = false›]; rfl))
        rw [o1, o2, o3]
        exact ⟨none, 0, rfl, H122, Cut.nil _ _ _, Nat.le_refl _⟩
      · skip
        refine GL.run (j := 5) 2 [0, 1, 5, 24, 25, 26] [(0, pt p 0), (1, .int .u64 (most : Int)), (5, .int .u64 (((getB (rV (!(rOK wr rest 1)) (rR wr rest 1) 4)) : Nat) : Int)), (24, .bool false), (25, .int .i64 5), (26, .int .u64 (((getB (rV (!(rOK wr rest 1)) (rR wr rest 1) 4)) : Nat) : Int))] (by kernel_rfl) rfl ?_
        refine GL.call (j := 6) (CountSize_calls (getB (rV (!(rOK wr rest 1)) (rR wr rest 1) 4)) w115) (by kernel_rfl) rfl (fun e_ w126 hR => ?_)
        obtain ⟨rfl, H128⟩ := hR
        have H127 : Hp w S [.blk p [.slice A104 ((rR (!(rOK wr rest 1)) (rR wr rest 1) 4).length) c105, .bool (!(rOK (!(rOK wr rest 1)) (rR wr rest 1) 4))] 54, .row R N C 5 1 (by8 whole)] w126 := H116.callNil H128
        refine ⟨_, rfl, [0, 1, 5, 24, 25, 27], [(0, pt p 0), (1, .int .u64 (most : Int)), (5, .int .u64 (((getB (rV (!(rOK wr rest 1)) (rR wr rest 1) 4)) : Nat) : Int)), (24, .bool false), (25, .int .i64 5), (27, .int .i64 (((cntSz (getB (rV (!(rOK wr rest 1)) (rR wr rest 1) 4))) : Nat) : Int))], by kernel_rfl, ?_⟩
        refine GL.run (j := 9) 3 [0, 1, 5, 30] [(0, pt p 0), (1, .int .u64 (most : Int)), (5, .int .u64 (((getB (rV (!(rOK wr rest 1)) (rR wr rest 1) 4)) : Nat) : Int)), (30, .bool ((5 : Int) != (((cntSz (getB (rV (!(rOK wr rest 1)) (rR wr rest 1) 4))) : Nat) : Int)))] (by kernel_rfl) rfl ?_
        cases hb129 : ((5 : Int) != (((cntSz (getB (rV (!(rOK wr rest 1)) (rR wr rest 1) 4))) : Nat) : Int))
        · skip
          have hb129f : (5 : Int) = (((cntSz (getB (rV (!(rOK wr rest 1)) (rR wr rest 1) 4))) : Nat) : Int) := bne_eq_false_iff_eq.1 hb129
          refine GL.run (j := 13) 4 [0, 5, 34] [(0, pt p 0), (5, .int .u64 (((getB (rV (!(rOK wr rest 1)) (rR wr rest 1) 4)) : Nat) : Int)), (34, .bool (decide ((most : Int) < (((getB (rV (!(rOK wr rest 1)) (rR wr rest 1) 4)) : Nat) : Int))))] (by kernel_rfl) rfl ?_
          refine GL.k rfl hK114 (fun _ _ h => h) ?_
          cases hb130 : (decide ((most : Int) < (((getB (rV (!(rOK wr rest 1)) (rR wr rest 1) 4)) : Nat) : Int)))
          · skip
            have hb130f := of_decide_eq_false hb130
            refine G.no rfl ?_
            refine G.skipK hK112 (fun _ _ h => h) ?_
            refine G.seqK fun K131 hK132 => ?_
            refine G.region ?_
            refine GL.run (j := 2) 2 [4] [(4, .int .u64 (((getB (rV (!(rOK wr rest 1)) (rR wr rest 1) 4)) : Nat) : Int))] (by kernel_rfl) rfl ?_
            refine GL.k rfl hK132 (fun _ _ h => h) ?_
            refine G.ret ?_
            intro F_ hF_ hM_
            refine hRet _ _ (bodyPost_1 rfl (RV.tmp rfl) ?_ F_ hF_ hM_)
            have hn : ctN wr rest = 4 := by unfold ctN; (repeat' split) <;> omega
            obtain ⟨eX, eW, eT⟩ := ct_long hn (by decide)
            obtain ⟨o1, o2, o3⟩ := ct_ok (most := most) (by rw [eW, ‹(rOK (!(rOK wr rest 1)) (rR wr rest 1) 4) = true›]; rfl) (by rw [eX, hn]; omega) (by rw [eX]; omega)
            rw [o1, o2, o3, eX, eT]
            have HF := H127
            rw [‹(rOK (!(rOK wr rest 1)) (rR wr rest 1) 4) = true›] at HF
            exact ⟨_, _, rfl, HF, hC106, hL107⟩
          · skip
            have hb130f := of_decide_eq_true hb130
            refine G.yes rfl ?_
            refine G.seqK fun K133 hK134 => ?_
            refine G.region ?_
            refine GL.run (j := 1) 1 [35] [(35, pt p 0)] (by kernel_rfl) rfl ?_
            refine GL.call (j := 2) (Fail_calls (ids [.blk p [.slice A104 ((rR (!(rOK wr rest 1)) (rR wr rest 1) 4).length) c105, .bool (!(rOK (!(rOK wr rest 1)) (rR wr rest 1) 4))] 54, .row R N C 5 1 (by8 whole)]) p A104 ((rR (!(rOK wr rest 1)) (rR wr rest 1) 4).length) c105 (!(rOK (!(rOK wr rest 1)) (rR wr rest 1) 4)) R N C whole w126 (Hp.startL (A := [.blk p [.slice A104 ((rR (!(rOK wr rest 1)) (rR wr rest 1) 4).length) c105, .bool (!(rOK (!(rOK wr rest 1)) (rR wr rest 1) 4))] 54, .row R N C 5 1 (by8 whole)]) (B := []) H127)) (by kernel_rfl) rfl (fun e_ w135 hR => ?_)
            obtain ⟨rfl, H137⟩ := hR
            have H136 : Hp w S [.blk p [.slice none 0 0, .bool true] 54, .row R N C 5 1 (by8 whole)] w135 := Hp.callL (A := [.blk p [.slice A104 ((rR (!(rOK wr rest 1)) (rR wr rest 1) 4).length) c105, .bool (!(rOK (!(rOK wr rest 1)) (rR wr rest 1) 4))] 54, .row R N C 5 1 (by8 whole)]) (B := []) H127 H137
            refine ⟨_, rfl, [], [], by kernel_rfl, ?_⟩
            refine GL.k rfl hK134 (fun _ _ h => h) ?_
            refine G.seqK fun K138 hK139 => ?_
            refine G.region ?_
            refine GL.run (j := 1) 1 [4] [(4, .int .u64 0)] (by kernel_rfl) rfl ?_
            refine GL.k rfl hK139 (fun _ _ h => h) ?_
            refine G.ret ?_
            intro F_ hF_ hM_
            refine hRet _ _ (bodyPost_1 rfl (RV.tmp rfl) ?_ F_ hF_ hM_)
            have hn : ctN wr rest = 4 := by unfold ctN; (repeat' split) <;> omega
            obtain ⟨eX, eW, eT⟩ := ct_long hn (by decide)
            obtain ⟨o1, o2, o3⟩ := ct_bad (wr := wr) (rest := rest) (most := most) (.inr (.inr (by rw [eX]; omega)))
            rw [o1, o2, o3]
            exact ⟨none, 0, rfl, H136, Cut.nil _ _ _, Nat.le_refl _⟩
        · skip
          have hb129f : (5 : Int) ≠ (((cntSz (getB (rV (!(rOK wr rest 1)) (rR wr rest 1) 4))) : Nat) : Int) := bne_iff_ne.1 hb129
          refine GL.run (j := 13) 4 [0, 5, 34] [(0, pt p 0), (5, .int .u64 (((getB (rV (!(rOK wr rest 1)) (rR wr rest 1) 4)) : Nat) : Int)), (34, .bool true)] (by kernel_rfl) rfl ?_
          refine GL.k rfl hK114 (fun _ _ h => h) ?_
          refine G.yes rfl ?_
          refine G.seqK fun K140 hK141 => ?_
          refine G.region ?_
          refine GL.run (j := 1) 1 [35] [(35, pt p 0)] (by kernel_rfl) rfl ?_
          refine GL.call (j := 2) (Fail_calls (ids [.blk p [.slice A104 ((rR (!(rOK wr rest 1)) (rR wr rest 1) 4).length) c105, .bool (!(rOK (!(rOK wr rest 1)) (rR wr rest 1) 4))] 54, .row R N C 5 1 (by8 whole)]) p A104 ((rR (!(rOK wr rest 1)) (rR wr rest 1) 4).length) c105 (!(rOK (!(rOK wr rest 1)) (rR wr rest 1) 4)) R N C whole w126 (Hp.startL (A := [.blk p [.slice A104 ((rR (!(rOK wr rest 1)) (rR wr rest 1) 4).length) c105, .bool (!(rOK (!(rOK wr rest 1)) (rR wr rest 1) 4))] 54, .row R N C 5 1 (by8 whole)]) (B := []) H127)) (by kernel_rfl) rfl (fun e_ w142 hR => ?_)
          obtain ⟨rfl, H144⟩ := hR
          have H143 : Hp w S [.blk p [.slice none 0 0, .bool true] 54, .row R N C 5 1 (by8 whole)] w142 := Hp.callL (A := [.blk p [.slice A104 ((rR (!(rOK wr rest 1)) (rR wr rest 1) 4).length) c105, .bool (!(rOK (!(rOK wr rest 1)) (rR wr rest 1) 4))] 54, .row R N C 5 1 (by8 whole)]) (B := []) H127 H144
          refine ⟨_, rfl, [], [], by kernel_rfl, ?_⟩
          refine GL.k rfl hK141 (fun _ _ h => h) ?_
          refine G.seqK fun K145 hK146 => ?_
          refine G.region ?_
          refine GL.run (j := 1) 1 [4] [(4, .int .u64 0)] (by kernel_rfl) rfl ?_
          refine GL.k rfl hK146 (fun _ _ h => h) ?_
          refine G.ret ?_
          intro F_ hF_ hM_
          refine hRet _ _ (bodyPost_1 rfl (RV.tmp rfl) ?_ F_ hF_ hM_)
          have hn : ctN wr rest = 4 := by unfold ctN; (repeat' split) <;> omega
          obtain ⟨eX, eW, eT⟩ := ct_long hn (by decide)
          obtain ⟨o1, o2, o3⟩ := ct_bad (wr := wr) (rest := rest) (most := most) (.inr (.inl (by rw [eX, hn]; omega)))
          rw [o1, o2, o3]
          exact ⟨none, 0, rfl, H143, Cut.nil _ _ _, Nat.le_refl _⟩
  · skip
    have hb18f := eq_of_beq hb18
    refine G.yes rfl ?_
    refine G.region ?_
    refine GL.run (j := 1) 1 [0, 1, 12] [(0, pt p 0), (1, .int .u64 (most : Int)), (12, pt p 0)] (by kernel_rfl) rfl ?_
    refine GL.call (j := 2) (Get2_calls (ids [.blk p [.slice A5 ((rR wr rest 1).length) c6, .bool (!(rOK wr rest 1))] 54, .row R N C 5 1 (by8 whole)]) p A5 ((rR wr rest 1).length) c6 (!(rOK wr rest 1)) R N C whole (rR wr rest 1) w9 (Hp.startL (A := [.blk p [.slice A5 ((rR wr rest 1).length) c6, .bool (!(rOK wr rest 1))] 54, .row R N C 5 1 (by8 whole)]) (B := []) H10) hC7 (rfl) (hL8) ((Nat.le_trans (rR_le _ _ _) (hk ▸ hN)))) (by kernel_rfl) rfl (fun e_ w151 hR => ?_)
    obtain ⟨A147, c148, rfl, H153, hC149, hL150⟩ := hR
    have H152 : Hp w S [.blk p [.slice A147 ((rR (!(rOK wr rest 1)) (rR wr rest 1) 2).length) c148, .bool (!(rOK (!(rOK wr rest 1)) (rR wr rest 1) 2))] 54, .row R N C 5 1 (by8 whole)] w151 := Hp.callL (A := [.blk p [.slice A5 ((rR wr rest 1).length) c6, .bool (!(rOK wr rest 1))] 54, .row R N C 5 1 (by8 whole)]) (B := []) H10 H153
    refine ⟨_, rfl, [0, 1, 13], [(0, pt p 0), (1, .int .u64 (most : Int)), (13, .int .u64 (((getB (rV (!(rOK wr rest 1)) (rR wr rest 1) 2)) : Nat) : Int))], by kernel_rfl, ?_⟩
    refine GL.run (j := 4) 2 [0, 1, 5, 6] [(0, pt p 0), (1, .int .u64 (most : Int)), (5, .int .u64 (((getB (rV (!(rOK wr rest 1)) (rR wr rest 1) 2)) : Nat) : Int)), (6, .int .i64 3)] (by kernel_rfl) rfl ?_
    refine GL.k rfl hK13 (fun _ _ h => h) ?_
    refine G.seqK fun K154 hK155 => ?_
    refine G.seqK fun K156 hK157 => ?_
    refine G.region ?_
    refine GL.run (j := 1) 1 [0, 1, 5, 6, 22] [(0, pt p 0), (1, .int .u64 (most : Int)), (5, .int .u64 (((getB (rV (!(rOK wr rest 1)) (rR wr rest 1) 2)) : Nat) : Int)), (6, .int .i64 3), (22, pt p 0)] (by kernel_rfl) rfl ?_
    refine GL.call (j := 2) (Wrong_calls (ids [.blk p [.slice A147 ((rR (!(rOK wr rest 1)) (rR wr rest 1) 2).length) c148, .bool (!(rOK (!(rOK wr rest 1)) (rR wr rest 1) 2))] 54, .row R N C 5 1 (by8 whole)]) p A147 ((rR (!(rOK wr rest 1)) (rR wr rest 1) 2).length) c148 (!(rOK (!(rOK wr rest 1)) (rR wr rest 1) 2)) R N C whole w151 (Hp.startL (A := [.blk p [.slice A147 ((rR (!(rOK wr rest 1)) (rR wr rest 1) 2).length) c148, .bool (!(rOK (!(rOK wr rest 1)) (rR wr rest 1) 2))] 54, .row R N C 5 1 (by8 whole)]) (B := []) H152)) (by kernel_rfl) rfl (fun e_ w158 hR => ?_)
    obtain ⟨rfl, H160⟩ := hR
    have H159 : Hp w S [.blk p [.slice A147 ((rR (!(rOK wr rest 1)) (rR wr rest 1) 2).length) c148, .bool (!(rOK (!(rOK wr rest 1)) (rR wr rest 1) 2))] 54, .row R N C 5 1 (by8 whole)] w158 := Hp.callL (A := [.blk p [.slice A147 ((rR (!(rOK wr rest 1)) (rR wr rest 1) 2).length) c148, .bool (!(rOK (!(rOK wr rest 1)) (rR wr rest 1) 2))] 54, .row R N C 5 1 (by8 whole)]) (B := []) H152 H160
    refine ⟨_, rfl, [0, 1, 5, 6, 23], [(0, pt p 0), (1, .int .u64 (most : Int)), (5, .int .u64 (((getB (rV (!(rOK wr rest 1)) (rR wr rest 1) 2)) : Nat) : Int)), (6, .int .i64 3), (23, .bool (!(rOK (!(rOK wr rest 1)) (rR wr rest 1) 2)))], by kernel_rfl, ?_⟩
    refine GL.run (j := 3) 1 [0, 1, 5, 6, 24] [(0, pt p 0), (1, .int .u64 (most : Int)), (5, .int .u64 (((getB (rV (!(rOK wr rest 1)) (rR wr rest 1) 2)) : Nat) : Int)), (6, .int .i64 3), (24, .bool (!(rOK (!(rOK wr rest 1)) (rR wr rest 1) 2)))] (by kernel_rfl) rfl ?_
    cases hb161 : (rOK (!(rOK wr rest 1)) (rR wr rest 1) 2)
    · skip
      refine GL.run (j := 13) 10 [0, 5, 34] [(0, pt p 0), (5, .int .u64 (((getB (rV (!(rOK wr rest 1)) (rR wr rest 1) 2)) : Nat) : Int)), (34, .bool true)] (by kernel_rfl) rfl ?_
      refine GL.k rfl hK157 (fun _ _ h => h) ?_
      refine G.yes rfl ?_
      refine G.seqK fun K162 hK163 => ?_
      refine G.region ?_
      refine GL.run (j := 1) 1 [35] [(35, pt p 0)] (by kernel_rfl) rfl ?_
      refine GL.call (j := 2) (Fail_calls (ids [.blk p [.slice A147 ((rR (!(rOK wr rest 1)) (rR wr rest 1) 2).length) c148, .bool (!(rOK (!(rOK wr rest 1)) (rR wr rest 1) 2))] 54, .row R N C 5 1 (by8 whole)]) p A147 ((rR (!(rOK wr rest 1)) (rR wr rest 1) 2).length) c148 (!(rOK (!(rOK wr rest 1)) (rR wr rest 1) 2)) R N C whole w158 (Hp.startL (A := [.blk p [.slice A147 ((rR (!(rOK wr rest 1)) (rR wr rest 1) 2).length) c148, .bool (!(rOK (!(rOK wr rest 1)) (rR wr rest 1) 2))] 54, .row R N C 5 1 (by8 whole)]) (B := []) H159)) (by kernel_rfl) rfl (fun e_ w164 hR => ?_)
      obtain ⟨rfl, H166⟩ := hR
      have H165 : Hp w S [.blk p [.slice none 0 0, .bool true] 54, .row R N C 5 1 (by8 whole)] w164 := Hp.callL (A := [.blk p [.slice A147 ((rR (!(rOK wr rest 1)) (rR wr rest 1) 2).length) c148, .bool (!(rOK (!(rOK wr rest 1)) (rR wr rest 1) 2))] 54, .row R N C 5 1 (by8 whole)]) (B := []) H159 H166
      refine ⟨_, rfl, [], [], by kernel_rfl, ?_⟩
      refine GL.k rfl hK163 (fun _ _ h => h) ?_
      refine G.seqK fun K167 hK168 => ?_
      refine G.region ?_
      refine GL.run (j := 1) 1 [4] [(4, .int .u64 0)] (by kernel_rfl) rfl ?_
      refine GL.k rfl hK168 (fun _ _ h => h) ?_
      refine G.ret ?_
      intro F_ hF_ hM_
      refine hRet _ _ (bodyPost_1 rfl (RV.tmp rfl) ?_ F_ hF_ hM_)
      have hn : ctN wr rest = 2 := by unfold ctN; (repeat' split) <;> omega
      obtain ⟨eX, eW, eT⟩ := ct_long hn (by decide)
      obtain ⟨o1, o2, o3⟩ := ct_bad (most := most) (.inl (by rw [eW, ‹(rOK (!(rOK wr rest 1)) (rR wr rest 1) 2) = false›]; rfl))
      rw [o1, o2, o3]
      exact ⟨none, 0, rfl, H165, Cut.nil _ _ _, Nat.le_refl _⟩
    · skip
      refine GL.run (j := 5) 2 [0, 1, 5, 24, 25, 26] [(0, pt p 0), (1, .int .u64 (most : Int)), (5, .int .u64 (((getB (rV (!(rOK wr rest 1)) (rR wr rest 1) 2)) : Nat) : Int)), (24, .bool false), (25, .int .i64 3), (26, .int .u64 (((getB (rV (!(rOK wr rest 1)) (rR wr rest 1) 2)) : Nat) : Int))] (by kernel_rfl) rfl ?_
      refine GL.call (j := 6) (CountSize_calls (getB (rV (!(rOK wr rest 1)) (rR wr rest 1) 2)) w158) (by kernel_rfl) rfl (fun e_ w169 hR => ?_)
      obtain ⟨rfl, H171⟩ := hR
      have H170 : Hp w S [.blk p [.slice A147 ((rR (!(rOK wr rest 1)) (rR wr rest 1) 2).length) c148, .bool (!(rOK (!(rOK wr rest 1)) (rR wr rest 1) 2))] 54, .row R N C 5 1 (by8 whole)] w169 := H159.callNil H171
      refine ⟨_, rfl, [0, 1, 5, 24, 25, 27], [(0, pt p 0), (1, .int .u64 (most : Int)), (5, .int .u64 (((getB (rV (!(rOK wr rest 1)) (rR wr rest 1) 2)) : Nat) : Int)), (24, .bool false), (25, .int .i64 3), (27, .int .i64 (((cntSz (getB (rV (!(rOK wr rest 1)) (rR wr rest 1) 2))) : Nat) : Int))], by kernel_rfl, ?_⟩
      refine GL.run (j := 9) 3 [0, 1, 5, 30] [(0, pt p 0), (1, .int .u64 (most : Int)), (5, .int .u64 (((getB (rV (!(rOK wr rest 1)) (rR wr rest 1) 2)) : Nat) : Int)), (30, .bool ((3 : Int) != (((cntSz (getB (rV (!(rOK wr rest 1)) (rR wr rest 1) 2))) : Nat) : Int)))] (by kernel_rfl) rfl ?_
      cases hb172 : ((3 : Int) != (((cntSz (getB (rV (!(rOK wr rest 1)) (rR wr rest 1) 2))) : Nat) : Int))
      · skip
        have hb172f : (3 : Int) = (((cntSz (getB (rV (!(rOK wr rest 1)) (rR wr rest 1) 2))) : Nat) : Int) := bne_eq_false_iff_eq.1 hb172
        refine GL.run (j := 13) 4 [0, 5, 34] [(0, pt p 0), (5, .int .u64 (((getB (rV (!(rOK wr rest 1)) (rR wr rest 1) 2)) : Nat) : Int)), (34, .bool (decide ((most : Int) < (((getB (rV (!(rOK wr rest 1)) (rR wr rest 1) 2)) : Nat) : Int))))] (by kernel_rfl) rfl ?_
        refine GL.k rfl hK157 (fun _ _ h => h) ?_
        cases hb173 : (decide ((most : Int) < (((getB (rV (!(rOK wr rest 1)) (rR wr rest 1) 2)) : Nat) : Int)))
        · skip
          have hb173f := of_decide_eq_false hb173
          refine G.no rfl ?_
          refine G.skipK hK155 (fun _ _ h => h) ?_
          refine G.seqK fun K174 hK175 => ?_
          refine G.region ?_
          refine GL.run (j := 2) 2 [4] [(4, .int .u64 (((getB (rV (!(rOK wr rest 1)) (rR wr rest 1) 2)) : Nat) : Int))] (by kernel_rfl) rfl ?_
          refine GL.k rfl hK175 (fun _ _ h => h) ?_
          refine G.ret ?_
          intro F_ hF_ hM_
          refine hRet _ _ (bodyPost_1 rfl (RV.tmp rfl) ?_ F_ hF_ hM_)
          have hn : ctN wr rest = 2 := by unfold ctN; (repeat' split) <;> omega
          obtain ⟨eX, eW, eT⟩ := ct_long hn (by decide)
          obtain ⟨o1, o2, o3⟩ := ct_ok (most := most) (by rw [eW, ‹(rOK (!(rOK wr rest 1)) (rR wr rest 1) 2) = true›]; rfl) (by rw [eX, hn]; omega) (by rw [eX]; omega)
          rw [o1, o2, o3, eX, eT]
          have HF := H170
          rw [‹(rOK (!(rOK wr rest 1)) (rR wr rest 1) 2) = true›] at HF
          exact ⟨_, _, rfl, HF, hC149, hL150⟩
        · skip
          have hb173f := of_decide_eq_true hb173
          refine G.yes rfl ?_
          refine G.seqK fun K176 hK177 => ?_
          refine G.region ?_
          refine GL.run (j := 1) 1 [35] [(35, pt p 0)] (by kernel_rfl) rfl ?_
          refine GL.call (j := 2) (Fail_calls (ids [.blk p [.slice A147 ((rR (!(rOK wr rest 1)) (rR wr rest 1) 2).length) c148, .bool (!(rOK (!(rOK wr rest 1)) (rR wr rest 1) 2))] 54, .row R N C 5 1 (by8 whole)]) p A147 ((rR (!(rOK wr rest 1)) (rR wr rest 1) 2).length) c148 (!(rOK (!(rOK wr rest 1)) (rR wr rest 1) 2)) R N C whole w169 (Hp.startL (A := [.blk p [.slice A147 ((rR (!(rOK wr rest 1)) (rR wr rest 1) 2).length) c148, .bool (!(rOK (!(rOK wr rest 1)) (rR wr rest 1) 2))] 54, .row R N C 5 1 (by8 whole)]) (B := []) H170)) (by kernel_rfl) rfl (fun e_ w178 hR => ?_)
          obtain ⟨rfl, H180⟩ := hR
          have H179 : Hp w S [.blk p [.slice none 0 0, .bool true] 54, .row R N C 5 1 (by8 whole)] w178 := Hp.callL (A := [.blk p [.slice A147 ((rR (!(rOK wr rest 1)) (rR wr rest 1) 2).length) c148, .bool (!(rOK (!(rOK wr rest 1)) (rR wr rest 1) 2))] 54, .row R N C 5 1 (by8 whole)]) (B := []) H170 H180
          refine ⟨_, rfl, [], [], by kernel_rfl, ?_⟩
          refine GL.k rfl hK177 (fun _ _ h => h) ?_
          refine G.seqK fun K181 hK182 => ?_
          refine G.region ?_
          refine GL.run (j := 1) 1 [4] [(4, .int .u64 0)] (by kernel_rfl) rfl ?_
          refine GL.k rfl hK182 (fun _ _ h => h) ?_
          refine G.ret ?_
          intro F_ hF_ hM_
          refine hRet _ _ (bodyPost_1 rfl (RV.tmp rfl) ?_ F_ hF_ hM_)
          have hn : ctN wr rest = 2 := by unfold ctN; (repeat' split) <;> omega
          obtain ⟨eX, eW, eT⟩ := ct_long hn (by decide)
          obtain ⟨o1, o2, o3⟩ := ct_bad (wr := wr) (rest := rest) (most := most) (.inr (.inr (by rw [eX]; omega)))
          rw [o1, o2, o3]
          exact ⟨none, 0, rfl, H179, Cut.nil _ _ _, Nat.le_refl _⟩
      · skip
        have hb172f : (3 : Int) ≠ (((cntSz (getB (rV (!(rOK wr rest 1)) (rR wr rest 1) 2))) : Nat) : Int) := bne_iff_ne.1 hb172
        refine GL.run (j := 13) 4 [0, 5, 34] [(0, pt p 0), (5, .int .u64 (((getB (rV (!(rOK wr rest 1)) (rR wr rest 1) 2)) : Nat) : Int)), (34, .bool true)] (by kernel_rfl) rfl ?_
        refine GL.k rfl hK157 (fun _ _ h => h) ?_
        refine G.yes rfl ?_
        refine G.seqK fun K183 hK184 => ?_
        refine G.region ?_
        refine GL.run (j := 1) 1 [35] [(35, pt p 0)] (by kernel_rfl) rfl ?_
        refine GL.call (j := 2) (Fail_calls (ids [.blk p [.slice A147 ((rR (!(rOK wr rest 1)) (rR wr rest 1) 2).length) c148, .bool (!(rOK (!(rOK wr rest 1)) (rR wr rest 1) 2))] 54, .row R N C 5 1 (by8 whole)]) p A147 ((rR (!(rOK wr rest 1)) (rR wr rest 1) 2).length) c148 (!(rOK (!(rOK wr rest 1)) (rR wr rest 1) 2)) R N C whole w169 (Hp.startL (A := [.blk p [.slice A147 ((rR (!(rOK wr rest 1)) (rR wr rest 1) 2).length) c148, .bool (!(rOK (!(rOK wr rest 1)) (rR wr rest 1) 2))] 54, .row R N C 5 1 (by8 whole)]) (B := []) H170)) (by kernel_rfl) rfl (fun e_ w185 hR => ?_)
        obtain ⟨rfl, H187⟩ := hR
        have H186 : Hp w S [.blk p [.slice none 0 0, .bool true] 54, .row R N C 5 1 (by8 whole)] w185 := Hp.callL (A := [.blk p [.slice A147 ((rR (!(rOK wr rest 1)) (rR wr rest 1) 2).length) c148, .bool (!(rOK (!(rOK wr rest 1)) (rR wr rest 1) 2))] 54, .row R N C 5 1 (by8 whole)]) (B := []) H170 H187
        refine ⟨_, rfl, [], [], by kernel_rfl, ?_⟩
        refine GL.k rfl hK184 (fun _ _ h => h) ?_
        refine G.seqK fun K188 hK189 => ?_
        refine G.region ?_
        refine GL.run (j := 1) 1 [4] [(4, .int .u64 0)] (by kernel_rfl) rfl ?_
        refine GL.k rfl hK189 (fun _ _ h => h) ?_
        refine G.ret ?_
        intro F_ hF_ hM_
        refine hRet _ _ (bodyPost_1 rfl (RV.tmp rfl) ?_ F_ hF_ hM_)
        have hn : ctN wr rest = 2 := by unfold ctN; (repeat' split) <;> omega
        obtain ⟨eX, eW, eT⟩ := ct_long hn (by decide)
        obtain ⟨o1, o2, o3⟩ := ct_bad (wr := wr) (rest := rest) (most := most) (.inr (.inl (by rw [eX, hn]; omega)))
        rw [o1, o2, o3]
        exact ⟨none, 0, rfl, H186, Cut.nil _ _ _, Nat.le_refl _⟩
theorem RCounted_calls (S : List Nat) (p : Nat) (A : Option Addr) (k cap : Nat) (wr : Bool) (R : Option Addr) (N C : Nat) (whole rest : List UInt8) (most : Nat) (w : World) (h0 : Hp w S [.blk p [.slice A k cap, .bool wr] 54, .row R N C 5 1 (by8 whole)] w) (hcut : Cut R whole A rest) (hk : k = rest.length) (hcap : k ≤ cap) (hN : k ≤ 1000000) (hmost : most ≤ 9223372036854775807) : Calls Try.prog 16 #[pt p 0, .int .i64 (most : Int)] w fun e w' => ∃ B b D d, e = .returned (.slice D (cdV wr rest most).length d) ∧ Hp w S [.blk p [.slice B (cdR wr rest most).length b, .bool (!(cdOK wr rest most))] 54, .row R N C 5 1 (by8 whole), .row D (cdV wr rest most).length d 5 1 (by8 (cdV wr rest most))] w' ∧ Cut R whole B (cdR wr rest most) ∧ (cdR wr rest most).length ≤ b := by
  refine calls_G (args := [pt p 0, .int .i64 (most : Int)]) Try.func16 rfl Try.ntmps16 rfl ?_
  intro Q0 hRet hNor hPan
  have H := h0
  have H : Hp w S [.blk p [.slice A k cap, .bool wr] 54, .row R N C 5 1 (by8 whole)] w := H
  refine G.seqK fun K1 hK2 => ?_
  refine G.region ?_
  refine GL.run (j := 1) 1 [0, 1] [(0, pt p 0), (1, .int .i64 (most : Int))] (by kernel_rfl) rfl ?_
  refine GL.k rfl hK2 (fun _ _ h => h) ?_
  refine G.seqK fun K3 hK4 => ?_
  refine G.seqK fun K5 hK6 => ?_
  refine G.region ?_
  refine GL.run (j := 2) 2 [0, 1, 7] [(0, pt p 0), (1, .int .i64 (most : Int)), (7, .bool (decide ((most : Int) < 0)))] (by kernel_rfl) rfl ?_
  refine GL.k rfl hK6 (fun _ _ h => h) ?_
  have hb7 : (decide ((most : Int) < 0)) = false := decide_eq_false (by omega)
  rw [hb7]
  refine G.no rfl ?_
  refine G.skipK hK4 (fun _ _ h => h) ?_
  refine G.seqK fun K8 hK9 => ?_
  refine G.region ?_
  refine GL.run (j := 4) 4 [0, 10, 13] [(0, pt p 0), (10, pt p 0), (13, .int .u64 (IntKind.u64.wrap (if (0 : Int) > (most : Int) then (0 : Int) else (most : Int))))] (by kernel_rfl) rfl ?_
  have e10 : (if (0 : Int) > (most : Int) then (0 : Int) else (most : Int)) = (most : Int) := by rw [if_neg (by omega)]
  have e11 : (IntKind.u64.wrap (most : Int)) = (most : Int) := in_u64 (by omega)
  refine GL.eq (M' := [(0, pt p 0), (10, pt p 0), (13, .int .u64 (most : Int))]) (by rw [e10, e11]) ?_
  clear e10 e11
  refine GL.call (j := 5) (RCount_calls (ids [.blk p [.slice A k cap, .bool wr] 54, .row R N C 5 1 (by8 whole)]) p A k cap wr R N C whole rest most w (Hp.startL (A := [.blk p [.slice A k cap, .bool wr] 54, .row R N C 5 1 (by8 whole)]) (B := []) H) hcut (hk) (hcap) (hN)) (by kernel_rfl) rfl (fun e_ w16 hR => ?_)
  obtain ⟨A12, c13, rfl, H18, hC14, hL15⟩ := hR
  have H17 : Hp w S [.blk p [.slice A12 ((ctR wr rest most).length) c13, .bool (!(ctOK wr rest most))] 54, .row R N C 5 1 (by8 whole)] w16 := Hp.callL (A := [.blk p [.slice A k cap, .bool wr] 54, .row R N C 5 1 (by8 whole)]) (B := []) H H18
  refine ⟨_, rfl, [0, 14], [(0, pt p 0), (14, .int .u64 (((ctV wr rest most) : Nat) : Int))], by kernel_rfl, ?_⟩
  refine GL.run (j := 6) 1 [0, 5] [(0, pt p 0), (5, .int .u64 (((ctV wr rest most) : Nat) : Int))] (by kernel_rfl) rfl ?_
  refine GL.k rfl hK9 (fun _ _ h => h) ?_
  refine G.seqK fun K19 hK20 => ?_
  refine G.region ?_
  refine GL.run (j := 3) 3 [15, 17] [(15, pt p 0), (17, .int .i64 (IntKind.i64.wrap (((ctV wr rest most) : Nat) : Int)))] (by kernel_rfl) rfl ?_
  have e21 : (IntKind.i64.wrap (((ctV wr rest most) : Nat) : Int)) = (((ctV wr rest most) : Nat) : Int) := in_i64 (by have := ctV_le wr rest most; omega)
  refine GL.eq (M' := [(15, pt p 0), (17, .int .i64 (((ctV wr rest most) : Nat) : Int))]) (by rw [e21]) ?_
  clear e21
  refine GL.call (j := 4) (Raw_calls (ids [.blk p [.slice A12 ((ctR wr rest most).length) c13, .bool (!(ctOK wr rest most))] 54, .row R N C 5 1 (by8 whole)]) p A12 ((ctR wr rest most).length) c13 (!(ctOK wr rest most)) R N C whole (ctR wr rest most) (ctV wr rest most) w16 (Hp.startL (A := [.blk p [.slice A12 ((ctR wr rest most).length) c13, .bool (!(ctOK wr rest most))] 54, .row R N C 5 1 (by8 whole)]) (B := []) H17) hC14 (rfl) (hL15) ((Nat.le_trans (ctR_le _ _ _) (hk ▸ hN)))) (by kernel_rfl) rfl (fun e_ w28 hR => ?_)
  obtain ⟨A22, c23, A24, c25, rfl, H30, hC26, hL27⟩ := hR
  have H29 : Hp w S [.blk p [.slice A22 ((rR (!(ctOK wr rest most)) (ctR wr rest most) (ctV wr rest most)).length) c23, .bool (!(rOK (!(ctOK wr rest most)) (ctR wr rest most) (ctV wr rest most)))] 54, .row R N C 5 1 (by8 whole), .row A24 ((rV (!(ctOK wr rest most)) (ctR wr rest most) (ctV wr rest most)).length) c25 5 1 (by8 (rV (!(ctOK wr rest most)) (ctR wr rest most) (ctV wr rest most)))] w28 := Hp.callL (A := [.blk p [.slice A12 ((ctR wr rest most).length) c13, .bool (!(ctOK wr rest most))] 54, .row R N C 5 1 (by8 whole)]) (B := []) H17 H30
  refine ⟨_, rfl, [18], [(18, .slice A24 ((rV (!(ctOK wr rest most)) (ctR wr rest most) (ctV wr rest most)).length) c25)], by kernel_rfl, ?_⟩
  refine GL.run (j := 5) 1 [4] [(4, .slice A24 ((rV (!(ctOK wr rest most)) (ctR wr rest most) (ctV wr rest most)).length) c25)] (by kernel_rfl) rfl ?_
  refine GL.k rfl hK20 (fun _ _ h => h) ?_
  refine G.ret ?_
  intro F_ hF_ hM_
  refine hRet _ _ (bodyPost_1 rfl (RV.tmp rfl) ?_ F_ hF_ hM_)
  exact ⟨_, _, _, _, rfl, H29, hC26, hL27⟩
theorem RLeft_calls (S : List Nat) (p : Nat) (A : Option Addr) (k cap : Nat) (wr : Bool) (R : Option Addr) (N C : Nat) (whole rest : List UInt8) (w : World) (h0 : Hp w S [.blk p [.slice A k cap, .bool wr] 54, .row R N C 5 1 (by8 whole)] w) (hk : k = rest.length) : Calls Try.prog 18 #[pt p 0] w fun e w' => e = .returned (.int .i64 ((if wr then 0 else rest.length : Nat) : Int)) ∧ Hp w S [.blk p [.slice A k cap, .bool wr] 54, .row R N C 5 1 (by8 whole)] w' := by
  refine calls_G (args := [pt p 0]) Try.func18 rfl Try.ntmps18 rfl ?_
  intro Q0 hRet hNor hPan
  have H := h0
  have H : Hp w S [.blk p [.slice A k cap, .bool wr] 54, .row R N C 5 1 (by8 whole)] w := H
  refine G.seqK fun K1 hK2 => ?_
  refine G.region ?_
  refine GL.run (j := 1) 1 [0] [(0, pt p 0)] (by kernel_rfl) rfl ?_
  refine GL.k rfl hK2 (fun _ _ h => h) ?_
  refine G.seqK fun K3 hK4 => ?_
  refine G.seqK fun K5 hK6 => ?_
  refine G.region ?_
  refine GL.run (j := 1) 1 [0, 3] [(0, pt p 0), (3, pt p 0)] (by kernel_rfl) rfl ?_
  refine GL.call (j := 2) (Wrong_calls (ids [.blk p [.slice A k cap, .bool wr] 54, .row R N C 5 1 (by8 whole)]) p A k cap wr R N C whole w (Hp.startL (A := [.blk p [.slice A k cap, .bool wr] 54, .row R N C 5 1 (by8 whole)]) (B := []) H)) (by kernel_rfl) rfl (fun e_ w7 hR => ?_)
  obtain ⟨rfl, H9⟩ := hR
  have H8 : Hp w S [.blk p [.slice A k cap, .bool wr] 54, .row R N C 5 1 (by8 whole)] w7 := Hp.callL (A := [.blk p [.slice A k cap, .bool wr] 54, .row R N C 5 1 (by8 whole)]) (B := []) H H9
  refine ⟨_, rfl, [0, 4], [(0, pt p 0), (4, .bool wr)], by kernel_rfl, ?_⟩
  refine GL.k rfl hK6 (fun _ _ h => h) ?_
  rcases (Bool.eq_false_or_eq_true wr).symm with hb10 | hb10
  · skip
    refine G.eq (M' := [(0, pt p 0), (4, .bool false)]) (by first | (rw [hb10]; done) | (rw [hb10]; rfl)) ?_
    refine G.no rfl ?_
    refine G.skipK hK4 (fun _ _ h => h) ?_
    refine G.seqK fun K11 hK12 => ?_
    refine G.region ?_
    refine GL.run (j := 3) 3 [7] [(7, pt p 0)] (by kernel_rfl) rfl ?_
    refine GL.sem (j := 4) (H8.ld (o := 0) (ty := 22) (v := .slice A k cap) 0 rfl (by kernel_rfl) rfl) [8] [(8, .slice A k cap)] (by kernel_rfl) (by kernel_rfl) rfl ?_
    refine GL.run (j := 6) 2 [2] [(2, .int .i64 (k : Int))] (by kernel_rfl) rfl ?_
    refine GL.k rfl hK12 (fun _ _ h => h) ?_
    refine G.ret ?_
    intro F_ hF_ hM_
    refine hRet _ _ (bodyPost_1 rfl (RV.tmp rfl) ?_ F_ hF_ hM_)
    have e0 : ((k : Int) : Int) = ((if wr then 0 else rest.length : Nat) : Int) := by
      rw [show wr = false by assumption]
      show (k : Int) = (rest.length : Int); omega
    rw [e0]
    exact ⟨rfl, H8⟩
  · skip
    refine G.eq (M' := [(0, pt p 0), (4, .bool true)]) (by first | (rw [hb10]; done) | (rw [hb10]; rfl)) ?_
    refine G.yes rfl ?_
    refine G.seqK fun K13 hK14 => ?_
    refine G.region ?_
    refine GL.run (j := 1) 1 [2] [(2, .int .i64 0)] (by kernel_rfl) rfl ?_
    refine GL.k rfl hK14 (fun _ _ h => h) ?_
    refine G.ret ?_
    intro F_ hF_ hM_
    refine hRet _ _ (bodyPost_1 rfl (RV.tmp rfl) ?_ F_ hF_ hM_)
    have e0 : (0 : Int) = ((if wr then 0 else rest.length : Nat) : Int) := by
      rw [show wr = true by assumption]
      rfl
    rw [e0]
    exact ⟨rfl, H8⟩
end Go.Proofs.Ytobgpfljdooopaa
