/- The statement's model: what each function answers. -/
import Derived.Test.YtobgpfljdooopaaLawB
import Derived.Test.YtobgpfljdooopaaOd
namespace Go.Proofs.Ytobgpfljdooopaa
open Go.RowKit
theorem MFail_calls (S : List Nat) (p : Nat) (A : Option Addr) (k cap : Nat) (wr : Bool) (R : Option Addr) (N C : Nat) (whole : List UInt8) (w : World) (h0 : Hp w S [.blk p [.slice A k cap, .bool wr] 30, .row R N C 5 1 (by8 whole)] w) : Calls Try.prog 9 #[pt p 0] w fun e w' => e = .returned (.tuple #[]) ∧ Hp w S [.blk p [.slice none 0 0, .bool true] 30, .row R N C 5 1 (by8 whole)] w' := by
  refine calls_G (args := [pt p 0]) Try.func9 rfl Try.ntmps9 rfl ?_
  intro Q0 hRet hNor hPan
  have H := h0
  have H : Hp w S [.blk p [.slice A k cap, .bool wr] 30, .row R N C 5 1 (by8 whole)] w := H
  refine G.region ?_
  refine GL.run (j := 4) 4 [3, 5] [(3, pt p 0), (5, pt p 0)] (by kernel_rfl) rfl ?_
  obtain ⟨w1, r2, H3⟩ := H.st (P := Try.prog) (o := 0) (ty := 22) (v := .slice none 0 0) 0 rfl (by kernel_rfl) (by simp) rfl
  have H3 : Hp w S [.blk p [.slice none 0 0, .bool wr] 30, .row R N C 5 1 (by8 whole)] w1 := H3
  refine GL.semU (j := 5) r2 [3] [(3, pt p 0)] (by kernel_rfl) rfl rfl rfl ?_
  refine GL.run (j := 7) 2 [7] [(7, pt p 1)] (by kernel_rfl) rfl ?_
  obtain ⟨w4, r5, H6⟩ := H3.st (P := Try.prog) (o := 1) (ty := 4) (v := .bool true) 0 rfl (by kernel_rfl) (by simp) rfl
  have H6 : Hp w S [.blk p [.slice none 0 0, .bool true] 30, .row R N C 5 1 (by8 whole)] w4 := H6
  refine GL.semU (j := 8) r5 [] [] (by kernel_rfl) rfl rfl rfl ?_
  refine GL.done rfl ?_
  intro F_ hF_ hM_
  refine hNor _ _ (bodyPost_0 rfl  ?_ F_ hF_ hM_)
  exact ⟨rfl, H6⟩
theorem MRaw_calls (S : List Nat) (p : Nat) (A : Option Addr) (k cap : Nat) (wr : Bool) (R : Option Addr) (N C : Nat) (whole rest : List UInt8) (z : Int) (w : World) (h0 : Hp w S [.blk p [.slice A k cap, .bool wr] 30, .row R N C 5 1 (by8 whole)] w) (hcut : Cut R whole A rest) (hk : k = rest.length) (hcap : k ≤ cap) (hN : k ≤ 1000000) : Calls Try.prog 11 #[pt p 0, .int .i64 z] w fun e w' => ∃ B b, e = .returned (.string (strOf (zV wr rest z))) ∧ Hp w S [.blk p [.slice B (zR wr rest z).length b, .bool (!(zOK wr rest z))] 30, .row R N C 5 1 (by8 whole)] w' ∧ Cut R whole B (zR wr rest z) ∧ (zR wr rest z).length ≤ b := by
  refine calls_G (args := [pt p 0, .int .i64 z]) Try.func11 rfl Try.ntmps11 rfl ?_
  intro Q0 hRet hNor hPan
  have H := h0
  have H : Hp w S [.blk p [.slice A k cap, .bool wr] 30, .row R N C 5 1 (by8 whole)] w := H
  refine G.seqK fun K1 hK2 => ?_
  refine G.region ?_
  refine GL.run (j := 1) 1 [0, 1] [(0, pt p 0), (1, .int .i64 z)] (by kernel_rfl) rfl ?_
  refine GL.k rfl hK2 (fun _ _ h => h) ?_
  refine G.seqK fun K3 hK4 => ?_
  refine G.seqK fun K5 hK6 => ?_
  refine G.region ?_
  refine GL.run (j := 3) 3 [0, 1, 8] [(0, pt p 0), (1, .int .i64 z), (8, pt p 1)] (by kernel_rfl) rfl ?_
  refine GL.sem (j := 4) (H.ld (o := 1) (ty := 4) (v := .bool wr) 0 rfl (by kernel_rfl) rfl) [0, 1, 9] [(0, pt p 0), (1, .int .i64 z), (9, .bool wr)] (by kernel_rfl) (by kernel_rfl) rfl ?_
  refine GL.run (j := 5) 1 [0, 1, 10] [(0, pt p 0), (1, .int .i64 z), (10, .bool wr)] (by kernel_rfl) rfl ?_
  rcases (Bool.eq_false_or_eq_true wr).symm with hb7 | hb7
  · skip
    refine GL.eq (M' := [(0, pt p 0), (1, .int .i64 z), (10, .bool false)]) (by first | (rw [hb7]; done) | (rw [hb7]; rfl)) ?_
    refine GL.run (j := 9) 4 [0, 1, 14] [(0, pt p 0), (1, .int .i64 z), (14, .bool (decide (z < 0)))] (by kernel_rfl) rfl ?_
    cases hb8 : (decide (z < 0))
    · skip
      have hb8f := of_decide_eq_false hb8
      refine GL.run (j := 13) 4 [0, 1, 14, 15, 18] [(0, pt p 0), (1, .int .i64 z), (14, .bool false), (15, .int .i64 z), (18, pt p 0)] (by kernel_rfl) rfl ?_
      refine GL.sem (j := 14) (H.ld (o := 0) (ty := 22) (v := .slice A k cap) 0 rfl (by kernel_rfl) rfl) [0, 1, 14, 15, 19] [(0, pt p 0), (1, .int .i64 z), (14, .bool false), (15, .int .i64 z), (19, .slice A k cap)] (by kernel_rfl) (by kernel_rfl) rfl ?_
      refine GL.run (j := 17) 3 [0, 1, 22] [(0, pt p 0), (1, .int .i64 z), (22, .bool (decide ((k : Int) < z)))] (by kernel_rfl) rfl ?_
      refine GL.k rfl hK6 (fun _ _ h => h) ?_
      cases hb9 : (decide ((k : Int) < z))
      · skip
        have hb9f := of_decide_eq_false hb9
        have hz0 : z = ((z.toNat : Nat) : Int) := by omega
        refine G.eq (M' := [(0, pt p 0), (1, .int .i64 (z.toNat : Int)), (22, .bool false)]) (by rw [← hz0]) ?_
        refine G.no rfl ?_
        refine G.skipK hK4 (fun _ _ h => h) ?_
        refine G.seqK fun K10 hK11 => ?_
        refine G.region ?_
        refine GL.run (j := 3) 3 [0, 1, 27] [(0, pt p 0), (1, .int .i64 (z.toNat : Int)), (27, pt p 0)] (by kernel_rfl) rfl ?_
        refine GL.sem (j := 4) (H.ld (o := 0) (ty := 22) (v := .slice A k cap) 0 rfl (by kernel_rfl) rfl) [0, 1, 28] [(0, pt p 0), (1, .int .i64 (z.toNat : Int)), (28, .slice A k cap)] (by kernel_rfl) (by kernel_rfl) rfl ?_
        refine GL.run (j := 5) 1 [0, 1, 28, 29] [(0, pt p 0), (1, .int .i64 (z.toNat : Int)), (28, .slice A k cap), (29, .int .i64 (z.toNat : Int))] (by kernel_rfl) rfl ?_
        refine GL.sem (j := 6) (run_sliceSl0 (P := Try.prog) (lo := none) (hi := some (.int .i64 (z.toNat : Int))) (t := 22) (len := k) (cap := cap) (A := A) (h := z.toNat) (by kernel_rfl) (Or.inl ⟨rfl, rfl⟩) (Or.inr ⟨_, _, rfl, rfl⟩) (by omega)) [0, 1, 30] [(0, pt p 0), (1, .int .i64 (z.toNat : Int)), (30, .slice A z.toNat cap)] (by kernel_rfl) (by kernel_rfl) rfl ?_
        refine GL.sem (j := 7) (run_toStr (P := Try.prog) (src := 22) (dst := 9) (A := A) (bs := (rest.take z.toNat)) (n := z.toNat) (c := cap) (by kernel_rfl) (by kernel_rfl) (RdS.take8 (hcut _ (H.rdRow 1 rfl)) z.toNat (cs := (rest.take z.toNat)) rfl) (by rw [List.length_take]; omega)) [0, 1, 31] [(0, pt p 0), (1, .int .i64 (z.toNat : Int)), (31, .string (strOf (rest.take z.toNat)))] (by kernel_rfl) (by kernel_rfl) rfl ?_
        refine GL.run (j := 8) 1 [0, 1, 5] [(0, pt p 0), (1, .int .i64 (z.toNat : Int)), (5, .string (strOf (rest.take z.toNat)))] (by kernel_rfl) rfl ?_
        refine GL.k rfl hK11 (fun _ _ h => h) ?_
        refine G.seqK fun K12 hK13 => ?_
        refine G.region ?_
        refine GL.run (j := 4) 4 [1, 5, 32, 35] [(1, .int .i64 (z.toNat : Int)), (5, .string (strOf (rest.take z.toNat))), (32, pt p 0), (35, pt p 0)] (by kernel_rfl) rfl ?_
        refine GL.sem (j := 5) (H.ld (o := 0) (ty := 22) (v := .slice A k cap) 0 rfl (by kernel_rfl) rfl) [1, 5, 32, 36] [(1, .int .i64 (z.toNat : Int)), (5, .string (strOf (rest.take z.toNat))), (32, pt p 0), (36, .slice A k cap)] (by kernel_rfl) (by kernel_rfl) rfl ?_
        refine GL.run (j := 6) 1 [5, 32, 36, 37] [(5, .string (strOf (rest.take z.toNat))), (32, pt p 0), (36, .slice A k cap), (37, .int .i64 (z.toNat : Int))] (by kernel_rfl) rfl ?_
        refine GL.sem (j := 7) (run_sliceSl (P := Try.prog) (lo := some (.int .i64 (z.toNat : Int))) (hi := none) (t := 22) (len := k) (cap := cap) (A := A) (l := z.toNat) (h := k) (by kernel_rfl) (Or.inr ⟨_, _, rfl, rfl⟩) (Or.inl ⟨rfl, rfl⟩) (by omega) (by omega)) [5, 32, 38] [(5, .string (strOf (rest.take z.toNat))), (32, pt p 0), (38, .slice (if cap = z.toNat then A else Option.map (fun x => Addr.add x z.toNat) A) (k - z.toNat) (cap - z.toNat))] (by kernel_rfl) (by kernel_rfl) rfl ?_
        refine GL.run (j := 9) 2 [5, 38, 40] [(5, .string (strOf (rest.take z.toNat))), (38, .slice (if cap = z.toNat then A else Option.map (fun x => Addr.add x z.toNat) A) (k - z.toNat) (cap - z.toNat)), (40, pt p 0)] (by kernel_rfl) rfl ?_
        obtain ⟨w14, r15, H16⟩ := H.st (P := Try.prog) (o := 0) (ty := 22) (v := .slice (if cap = z.toNat then A else Option.map (fun x => Addr.add x z.toNat) A) (k - z.toNat) (cap - z.toNat)) 0 rfl (by kernel_rfl) (by simp) rfl
        have H16 : Hp w S [.blk p [.slice (if cap = z.toNat then A else Option.map (fun x => Addr.add x z.toNat) A) (k - z.toNat) (cap - z.toNat), .bool wr] 30, .row R N C 5 1 (by8 whole)] w14 := H16
        refine GL.semU (j := 10) r15 [5] [(5, .string (strOf (rest.take z.toNat)))] (by kernel_rfl) rfl rfl rfl ?_
        refine GL.k rfl hK13 (fun _ _ h => h) ?_
        refine G.seqK fun K17 hK18 => ?_
        refine G.region ?_
        refine GL.run (j := 2) 2 [4] [(4, .string (strOf (rest.take z.toNat)))] (by kernel_rfl) rfl ?_
        refine GL.k rfl hK18 (fun _ _ h => h) ?_
        refine G.ret ?_
        intro F_ hF_ hM_
        refine hRet _ _ (bodyPost_1 rfl (RV.tmp rfl) ?_ F_ hF_ hM_)
        have hwr : wr = false := by assumption
        subst hwr
        obtain ⟨a, b, c⟩ := z_nat (wr := false) (rest := rest) (z := z) (by omega)
        obtain ⟨e1, e2, e3⟩ := rOK_true (rest := rest) (n := z.toNat) (by omega)
        rw [a, b, c, e1, e2, e3, show (rest.drop z.toNat).length = k - z.toNat by rw [List.length_drop]; omega]
        exact ⟨_, _, rfl, H16, hcut.drop z.toNat (by omega), by omega⟩
      · skip
        have hb9f := of_decide_eq_true hb9
        refine G.yes rfl ?_
        refine G.seqK fun K19 hK20 => ?_
        refine G.region ?_
        refine GL.run (j := 1) 1 [23] [(23, pt p 0)] (by kernel_rfl) rfl ?_
        refine GL.call (j := 2) (MFail_calls (ids [.blk p [.slice A k cap, .bool wr] 30, .row R N C 5 1 (by8 whole)]) p A k cap wr R N C whole w (Hp.startL (A := [.blk p [.slice A k cap, .bool wr] 30, .row R N C 5 1 (by8 whole)]) (B := []) H)) (by kernel_rfl) rfl (fun e_ w21 hR => ?_)
        obtain ⟨rfl, H23⟩ := hR
        have H22 : Hp w S [.blk p [.slice none 0 0, .bool true] 30, .row R N C 5 1 (by8 whole)] w21 := Hp.callL (A := [.blk p [.slice A k cap, .bool wr] 30, .row R N C 5 1 (by8 whole)]) (B := []) H H23
        refine ⟨_, rfl, [], [], by kernel_rfl, ?_⟩
        refine GL.k rfl hK20 (fun _ _ h => h) ?_
        refine G.seqK fun K24 hK25 => ?_
        refine G.region ?_
        refine GL.run (j := 1) 1 [4] [(4, .string ⟨#[]⟩)] (by kernel_rfl) rfl ?_
        refine GL.k rfl hK25 (fun _ _ h => h) ?_
        refine G.ret ?_
        intro F_ hF_ hM_
        refine hRet _ _ (bodyPost_1 rfl (RV.tmp rfl) ?_ F_ hF_ hM_)
        obtain ⟨e1, e2, e3⟩ : zOK wr rest z = false ∧ zV wr rest z = [] ∧ zR wr rest z = [] := by
          by_cases hz : z < 0
          · exact z_neg hz
          · obtain ⟨a, b, c⟩ := z_nat (wr := wr) (rest := rest) (z := z) (by omega)
            rw [a, b, c]
            exact rOK_false (.inr (by omega))
        rw [e1, e2, e3]
        exact ⟨none, 0, rfl, H22, Cut.nil _ _ _, Nat.le_refl _⟩
    · skip
      have hb8f := of_decide_eq_true hb8
      refine GL.run (j := 17) 8 [0, 1, 22] [(0, pt p 0), (1, .int .i64 z), (22, .bool true)] (by kernel_rfl) rfl ?_
      refine GL.k rfl hK6 (fun _ _ h => h) ?_
      refine G.yes rfl ?_
      refine G.seqK fun K26 hK27 => ?_
      refine G.region ?_
      refine GL.run (j := 1) 1 [23] [(23, pt p 0)] (by kernel_rfl) rfl ?_
      refine GL.call (j := 2) (MFail_calls (ids [.blk p [.slice A k cap, .bool wr] 30, .row R N C 5 1 (by8 whole)]) p A k cap wr R N C whole w (Hp.startL (A := [.blk p [.slice A k cap, .bool wr] 30, .row R N C 5 1 (by8 whole)]) (B := []) H)) (by kernel_rfl) rfl (fun e_ w28 hR => ?_)
      obtain ⟨rfl, H30⟩ := hR
      have H29 : Hp w S [.blk p [.slice none 0 0, .bool true] 30, .row R N C 5 1 (by8 whole)] w28 := Hp.callL (A := [.blk p [.slice A k cap, .bool wr] 30, .row R N C 5 1 (by8 whole)]) (B := []) H H30
      refine ⟨_, rfl, [], [], by kernel_rfl, ?_⟩
      refine GL.k rfl hK27 (fun _ _ h => h) ?_
      refine G.seqK fun K31 hK32 => ?_
      refine G.region ?_
      refine GL.run (j := 1) 1 [4] [(4, .string ⟨#[]⟩)] (by kernel_rfl) rfl ?_
      refine GL.k rfl hK32 (fun _ _ h => h) ?_
      refine G.ret ?_
      intro F_ hF_ hM_
      refine hRet _ _ (bodyPost_1 rfl (RV.tmp rfl) ?_ F_ hF_ hM_)
      obtain ⟨e1, e2, e3⟩ : zOK wr rest z = false ∧ zV wr rest z = [] ∧ zR wr rest z = [] := by
        by_cases hz : z < 0
        · exact z_neg hz
        · obtain ⟨a, b, c⟩ := z_nat (wr := wr) (rest := rest) (z := z) (by omega)
          rw [a, b, c]
          exact rOK_false (.inr (by omega))
      rw [e1, e2, e3]
      exact ⟨none, 0, rfl, H29, Cut.nil _ _ _, Nat.le_refl _⟩
  · skip
    refine GL.eq (M' := [(0, pt p 0), (1, .int .i64 z), (10, .bool true)]) (by first | (rw [hb7]; done) | (rw [hb7]; rfl)) ?_
    refine GL.run (j := 17) 12 [0, 1, 22] [(0, pt p 0), (1, .int .i64 z), (22, .bool true)] (by kernel_rfl) rfl ?_
    refine GL.k rfl hK6 (fun _ _ h => h) ?_
    refine G.yes rfl ?_
    refine G.seqK fun K33 hK34 => ?_
    refine G.region ?_
    refine GL.run (j := 1) 1 [23] [(23, pt p 0)] (by kernel_rfl) rfl ?_
    refine GL.call (j := 2) (MFail_calls (ids [.blk p [.slice A k cap, .bool wr] 30, .row R N C 5 1 (by8 whole)]) p A k cap wr R N C whole w (Hp.startL (A := [.blk p [.slice A k cap, .bool wr] 30, .row R N C 5 1 (by8 whole)]) (B := []) H)) (by kernel_rfl) rfl (fun e_ w35 hR => ?_)
    obtain ⟨rfl, H37⟩ := hR
    have H36 : Hp w S [.blk p [.slice none 0 0, .bool true] 30, .row R N C 5 1 (by8 whole)] w35 := Hp.callL (A := [.blk p [.slice A k cap, .bool wr] 30, .row R N C 5 1 (by8 whole)]) (B := []) H H37
    refine ⟨_, rfl, [], [], by kernel_rfl, ?_⟩
    refine GL.k rfl hK34 (fun _ _ h => h) ?_
    refine G.seqK fun K38 hK39 => ?_
    refine G.region ?_
    refine GL.run (j := 1) 1 [4] [(4, .string ⟨#[]⟩)] (by kernel_rfl) rfl ?_
    refine GL.k rfl hK39 (fun _ _ h => h) ?_
    refine G.ret ?_
    intro F_ hF_ hM_
    refine hRet _ _ (bodyPost_1 rfl (RV.tmp rfl) ?_ F_ hF_ hM_)
    obtain ⟨e1, e2, e3⟩ : zOK wr rest z = false ∧ zV wr rest z = [] ∧ zR wr rest z = [] := by
      by_cases hz : z < 0
      · exact z_neg hz
      · obtain ⟨a, b, c⟩ := z_nat (wr := wr) (rest := rest) (z := z) (by omega)
        rw [a, b, c]
        exact rOK_false (.inl (by assumption))
    rw [e1, e2, e3]
    exact ⟨none, 0, rfl, H36, Cut.nil _ _ _, Nat.le_refl _⟩
theorem MCount_calls (S : List Nat) (p : Nat) (A : Option Addr) (k cap : Nat) (wr : Bool) (R : Option Addr) (N C : Nat) (whole rest : List UInt8) (most : Nat) (w : World) (h0 : Hp w S [.blk p [.slice A k cap, .bool wr] 30, .row R N C 5 1 (by8 whole)] w) (hcut : Cut R whole A rest) (hk : k = rest.length) (hcap : k ≤ cap) (hN : k ≤ 1000000) : Calls Try.prog 14 #[pt p 0, .int .u64 (most : Int)] w fun e w' => ∃ B b, e = .returned (.int .u64 ((ctV wr rest most : Nat) : Int)) ∧ Hp w S [.blk p [.slice B (ctR wr rest most).length b, .bool (!(ctOK wr rest most))] 30, .row R N C 5 1 (by8 whole)] w' ∧ Cut R whole B (ctR wr rest most) ∧ (ctR wr rest most).length ≤ b := by
  refine calls_G (args := [pt p 0, .int .u64 (most : Int)]) Try.func14 rfl Try.ntmps14 rfl ?_
  intro Q0 hRet hNor hPan
  have H := h0
  have H : Hp w S [.blk p [.slice A k cap, .bool wr] 30, .row R N C 5 1 (by8 whole)] w := H
  refine G.seqK fun K1 hK2 => ?_
  refine G.region ?_
  refine GL.run (j := 1) 1 [0, 1] [(0, pt p 0), (1, .int .u64 (most : Int))] (by kernel_rfl) rfl ?_
  refine GL.k rfl hK2 (fun _ _ h => h) ?_
  refine G.seqK fun K3 hK4 => ?_
  refine G.region ?_
  refine GL.run (j := 3) 3 [0, 1, 11] [(0, pt p 0), (1, .int .u64 (most : Int)), (11, pt p 0)] (by kernel_rfl) rfl ?_
  refine GL.sem (j := 4) (H.ld (o := 0) (ty := 22) (v := .slice A k cap) 0 rfl (by kernel_rfl) rfl) [0, 1, 12] [(0, pt p 0), (1, .int .u64 (most : Int)), (12, .slice A k cap)] (by kernel_rfl) (by kernel_rfl) rfl ?_
  refine GL.call (j := 5) (ReadCount_calls rest A k cap w (hcut _ (H.rdRow 1 rfl)) hk hcap (by omega)) (by kernel_rfl) rfl (fun e_ w5 hR => ?_)
  obtain ⟨v, s, rfl, hv, H7⟩ := hR
  have H6 : Hp w S [.blk p [.slice A k cap, .bool wr] 30, .row R N C 5 1 (by8 whole)] w5 := H.callNil H7
  refine ⟨_, rfl, [0, 1, 13], [(0, pt p 0), (1, .int .u64 (most : Int)), (13, .tuple #[.int .u64 (v : Int), .int .i64 (s : Int), .bool (cnOK rest)])], by kernel_rfl, ?_⟩
  refine GL.run (j := 12) 7 [0, 1, 5, 6, 7] [(0, pt p 0), (1, .int .u64 (most : Int)), (5, .int .u64 (v : Int)), (6, .int .i64 (s : Int)), (7, .bool (cnOK rest))] (by kernel_rfl) rfl ?_
  refine GL.k rfl hK4 (fun _ _ h => h) ?_
  refine G.seqK fun K8 hK9 => ?_
  refine G.seqK fun K10 hK11 => ?_
  refine G.region ?_
  refine GL.run (j := 3) 3 [0, 1, 5, 6, 7, 19] [(0, pt p 0), (1, .int .u64 (most : Int)), (5, .int .u64 (v : Int)), (6, .int .i64 (s : Int)), (7, .bool (cnOK rest)), (19, pt p 1)] (by kernel_rfl) rfl ?_
  refine GL.sem (j := 4) (H6.ld (o := 1) (ty := 4) (v := .bool wr) 0 rfl (by kernel_rfl) rfl) [0, 1, 5, 6, 7, 20] [(0, pt p 0), (1, .int .u64 (most : Int)), (5, .int .u64 (v : Int)), (6, .int .i64 (s : Int)), (7, .bool (cnOK rest)), (20, .bool wr)] (by kernel_rfl) (by kernel_rfl) rfl ?_
  refine GL.run (j := 5) 1 [0, 1, 5, 6, 7, 21] [(0, pt p 0), (1, .int .u64 (most : Int)), (5, .int .u64 (v : Int)), (6, .int .i64 (s : Int)), (7, .bool (cnOK rest)), (21, .bool wr)] (by kernel_rfl) rfl ?_
  rcases (Bool.eq_false_or_eq_true wr).symm with hb12 | hb12
  · skip
    refine GL.eq (M' := [(0, pt p 0), (1, .int .u64 (most : Int)), (5, .int .u64 (v : Int)), (6, .int .i64 (s : Int)), (7, .bool (cnOK rest)), (21, .bool false)]) (by first | (rw [hb12]; done) | (rw [hb12]; rfl)) ?_
    refine GL.run (j := 9) 4 [0, 1, 5, 6, 25] [(0, pt p 0), (1, .int .u64 (most : Int)), (5, .int .u64 (v : Int)), (6, .int .i64 (s : Int)), (25, .bool (!(cnOK rest)))] (by kernel_rfl) rfl ?_
    cases hb13 : (cnOK rest)
    · skip
      refine GL.run (j := 13) 4 [0, 5, 6, 29] [(0, pt p 0), (5, .int .u64 (v : Int)), (6, .int .i64 (s : Int)), (29, .bool true)] (by kernel_rfl) rfl ?_
      refine GL.k rfl hK11 (fun _ _ h => h) ?_
      refine G.yes rfl ?_
      refine G.seqK fun K14 hK15 => ?_
      refine G.region ?_
      refine GL.run (j := 1) 1 [30] [(30, pt p 0)] (by kernel_rfl) rfl ?_
      refine GL.call (j := 2) (MFail_calls (ids [.blk p [.slice A k cap, .bool wr] 30, .row R N C 5 1 (by8 whole)]) p A k cap wr R N C whole w5 (Hp.startL (A := [.blk p [.slice A k cap, .bool wr] 30, .row R N C 5 1 (by8 whole)]) (B := []) H6)) (by kernel_rfl) rfl (fun e_ w16 hR => ?_)
      obtain ⟨rfl, H18⟩ := hR
      have H17 : Hp w S [.blk p [.slice none 0 0, .bool true] 30, .row R N C 5 1 (by8 whole)] w16 := Hp.callL (A := [.blk p [.slice A k cap, .bool wr] 30, .row R N C 5 1 (by8 whole)]) (B := []) H6 H18
      refine ⟨_, rfl, [], [], by kernel_rfl, ?_⟩
      refine GL.k rfl hK15 (fun _ _ h => h) ?_
      refine G.seqK fun K19 hK20 => ?_
      refine G.region ?_
      refine GL.run (j := 1) 1 [4] [(4, .int .u64 0)] (by kernel_rfl) rfl ?_
      refine GL.k rfl hK20 (fun _ _ h => h) ?_
      refine G.ret ?_
      intro F_ hF_ hM_
      refine hRet _ _ (bodyPost_1 rfl (RV.tmp rfl) ?_ F_ hF_ hM_)
      obtain ⟨o1, o2, o3⟩ := ct_mbad (m := most) (wr := wr) hv (.inr (.inl (by assumption)))
      rw [o1, o2, o3]
      exact ⟨none, 0, rfl, H17, Cut.nil _ _ _, Nat.le_refl _⟩
    · skip
      refine GL.run (j := 13) 4 [0, 5, 6, 29] [(0, pt p 0), (5, .int .u64 (v : Int)), (6, .int .i64 (s : Int)), (29, .bool (decide ((most : Int) < (v : Int))))] (by kernel_rfl) rfl ?_
      refine GL.k rfl hK11 (fun _ _ h => h) ?_
      cases hb21 : (decide ((most : Int) < (v : Int)))
      · skip
        have hb21f := of_decide_eq_false hb21
        have hs9 := (ct_mok (m := most) (wr := wr) hv (by assumption) (by assumption) (by omega)).2.2.2
        refine G.no rfl ?_
        refine G.skipK hK9 (fun _ _ h => h) ?_
        refine G.seqK fun K22 hK23 => ?_
        refine G.region ?_
        refine GL.run (j := 4) 4 [5, 6, 32, 35] [(5, .int .u64 (v : Int)), (6, .int .i64 (s : Int)), (32, pt p 0), (35, pt p 0)] (by kernel_rfl) rfl ?_
        refine GL.sem (j := 5) (H6.ld (o := 0) (ty := 22) (v := .slice A k cap) 0 rfl (by kernel_rfl) rfl) [5, 6, 32, 36] [(5, .int .u64 (v : Int)), (6, .int .i64 (s : Int)), (32, pt p 0), (36, .slice A k cap)] (by kernel_rfl) (by kernel_rfl) rfl ?_
        refine GL.run (j := 6) 1 [5, 32, 36, 37] [(5, .int .u64 (v : Int)), (32, pt p 0), (36, .slice A k cap), (37, .int .i64 (s : Int))] (by kernel_rfl) rfl ?_
        refine GL.sem (j := 7) (run_sliceSl (P := Try.prog) (lo := some (.int .i64 (s : Int))) (hi := none) (t := 22) (len := k) (cap := cap) (A := A) (l := s) (h := k) (by kernel_rfl) (Or.inr ⟨_, _, rfl, rfl⟩) (Or.inl ⟨rfl, rfl⟩) (by omega) (by omega)) [5, 32, 38] [(5, .int .u64 (v : Int)), (32, pt p 0), (38, .slice (if cap = s then A else Option.map (fun x => Addr.add x s) A) (k - s) (cap - s))] (by kernel_rfl) (by kernel_rfl) rfl ?_
        refine GL.run (j := 9) 2 [5, 38, 40] [(5, .int .u64 (v : Int)), (38, .slice (if cap = s then A else Option.map (fun x => Addr.add x s) A) (k - s) (cap - s)), (40, pt p 0)] (by kernel_rfl) rfl ?_
        obtain ⟨w24, r25, H26⟩ := H6.st (P := Try.prog) (o := 0) (ty := 22) (v := .slice (if cap = s then A else Option.map (fun x => Addr.add x s) A) (k - s) (cap - s)) 0 rfl (by kernel_rfl) (by simp) rfl
        have H26 : Hp w S [.blk p [.slice (if cap = s then A else Option.map (fun x => Addr.add x s) A) (k - s) (cap - s), .bool wr] 30, .row R N C 5 1 (by8 whole)] w24 := H26
        refine GL.semU (j := 10) r25 [5] [(5, .int .u64 (v : Int))] (by kernel_rfl) rfl rfl rfl ?_
        refine GL.k rfl hK23 (fun _ _ h => h) ?_
        refine G.seqK fun K27 hK28 => ?_
        refine G.region ?_
        refine GL.run (j := 2) 2 [4] [(4, .int .u64 (v : Int))] (by kernel_rfl) rfl ?_
        refine GL.k rfl hK28 (fun _ _ h => h) ?_
        refine G.ret ?_
        intro F_ hF_ hM_
        refine hRet _ _ (bodyPost_1 rfl (RV.tmp rfl) ?_ F_ hF_ hM_)
        obtain ⟨o1, o2, o3, o4⟩ := ct_mok (m := most) (wr := wr) hv (by assumption) (by assumption) (by omega)
        have hwr : wr = false := by assumption
        rw [o1, o2, o3, show (rest.drop s).length = k - s by rw [List.length_drop]; omega]
        have HF := H26
        rw [hwr] at HF
        exact ⟨_, _, rfl, HF, hcut.drop s (by omega), by omega⟩
      · skip
        have hb21f := of_decide_eq_true hb21
        refine G.yes rfl ?_
        refine G.seqK fun K29 hK30 => ?_
        refine G.region ?_
        refine GL.run (j := 1) 1 [30] [(30, pt p 0)] (by kernel_rfl) rfl ?_
        refine GL.call (j := 2) (MFail_calls (ids [.blk p [.slice A k cap, .bool wr] 30, .row R N C 5 1 (by8 whole)]) p A k cap wr R N C whole w5 (Hp.startL (A := [.blk p [.slice A k cap, .bool wr] 30, .row R N C 5 1 (by8 whole)]) (B := []) H6)) (by kernel_rfl) rfl (fun e_ w31 hR => ?_)
        obtain ⟨rfl, H33⟩ := hR
        have H32 : Hp w S [.blk p [.slice none 0 0, .bool true] 30, .row R N C 5 1 (by8 whole)] w31 := Hp.callL (A := [.blk p [.slice A k cap, .bool wr] 30, .row R N C 5 1 (by8 whole)]) (B := []) H6 H33
        refine ⟨_, rfl, [], [], by kernel_rfl, ?_⟩
        refine GL.k rfl hK30 (fun _ _ h => h) ?_
        refine G.seqK fun K34 hK35 => ?_
        refine G.region ?_
        refine GL.run (j := 1) 1 [4] [(4, .int .u64 0)] (by kernel_rfl) rfl ?_
        refine GL.k rfl hK35 (fun _ _ h => h) ?_
        refine G.ret ?_
        intro F_ hF_ hM_
        refine hRet _ _ (bodyPost_1 rfl (RV.tmp rfl) ?_ F_ hF_ hM_)
        obtain ⟨o1, o2, o3⟩ := ct_mbad (m := most) (wr := wr) hv (.inr (.inr (by omega)))
        rw [o1, o2, o3]
        exact ⟨none, 0, rfl, H32, Cut.nil _ _ _, Nat.le_refl _⟩
  · skip
    refine GL.eq (M' := [(0, pt p 0), (1, .int .u64 (most : Int)), (5, .int .u64 (v : Int)), (6, .int .i64 (s : Int)), (7, .bool (cnOK rest)), (21, .bool true)]) (by first | (rw [hb12]; done) | (rw [hb12]; rfl)) ?_
    refine GL.run (j := 13) 8 [0, 5, 6, 29] [(0, pt p 0), (5, .int .u64 (v : Int)), (6, .int .i64 (s : Int)), (29, .bool true)] (by kernel_rfl) rfl ?_
    refine GL.k rfl hK11 (fun _ _ h => h) ?_
    refine G.yes rfl ?_
    refine G.seqK fun K36 hK37 => ?_
    refine G.region ?_
    refine GL.run (j := 1) 1 [30] [(30, pt p 0)] (by kernel_rfl) rfl ?_
    refine GL.call (j := 2) (MFail_calls (ids [.blk p [.slice A k cap, .bool wr] 30, .row R N C 5 1 (by8 whole)]) p A k cap wr R N C whole w5 (Hp.startL (A := [.blk p [.slice A k cap, .bool wr] 30, .row R N C 5 1 (by8 whole)]) (B := []) H6)) (by kernel_rfl) rfl (fun e_ w38 hR => ?_)
    obtain ⟨rfl, H40⟩ := hR
    have H39 : Hp w S [.blk p [.slice none 0 0, .bool true] 30, .row R N C 5 1 (by8 whole)] w38 := Hp.callL (A := [.blk p [.slice A k cap, .bool wr] 30, .row R N C 5 1 (by8 whole)]) (B := []) H6 H40
    refine ⟨_, rfl, [], [], by kernel_rfl, ?_⟩
    refine GL.k rfl hK37 (fun _ _ h => h) ?_
    refine G.seqK fun K41 hK42 => ?_
    refine G.region ?_
    refine GL.run (j := 1) 1 [4] [(4, .int .u64 0)] (by kernel_rfl) rfl ?_
    refine GL.k rfl hK42 (fun _ _ h => h) ?_
    refine G.ret ?_
    intro F_ hF_ hM_
    refine hRet _ _ (bodyPost_1 rfl (RV.tmp rfl) ?_ F_ hF_ hM_)
    obtain ⟨o1, o2, o3⟩ := ct_mbad (m := most) (wr := wr) hv (.inl (by assumption))
    rw [o1, o2, o3]
    exact ⟨none, 0, rfl, H39, Cut.nil _ _ _, Nat.le_refl _⟩
theorem RawZ_calls (S : List Nat) (p : Nat) (A : Option Addr) (k cap : Nat) (wr : Bool) (R : Option Addr) (N C : Nat) (whole rest : List UInt8) (z : Int) (w : World) (h0 : Hp w S [.blk p [.slice A k cap, .bool wr] 54, .row R N C 5 1 (by8 whole)] w) (hcut : Cut R whole A rest) (hk : k = rest.length) (hcap : k ≤ cap) (hN : k ≤ 1000000) : Calls Try.prog 15 #[.pointer (some ⟨p, 0, none⟩), .int .i64 z] w fun e w' => ∃ B b D d, e = .returned (.slice D (zV wr rest z).length d) ∧ Hp w S [.blk p [.slice B (zR wr rest z).length b, .bool (!(zOK wr rest z))] 54, .row R N C 5 1 (by8 whole), .row D (zV wr rest z).length d 5 1 (by8 (zV wr rest z))] w' ∧ Cut R whole B (zR wr rest z) ∧ (zR wr rest z).length ≤ b := by
  by_cases hz : z < 0
  · obtain ⟨e1, e2, e3⟩ := z_neg (wr := wr) (rest := rest) hz
    rw [e1, e2, e3]
    exact (RawNeg_calls S p A k cap wr R N C whole rest z w h0 hz).mono fun e w' ⟨he, H⟩ => ⟨none, 0, none, 0, he, H.rowNil 5 1, Cut.nil _ _ _, Nat.le_refl _⟩
  · obtain ⟨e1, e2, e3⟩ := z_nat (wr := wr) (rest := rest) (z := z) (by omega)
    obtain ⟨m, hm⟩ := Int.eq_ofNat_of_zero_le (show 0 ≤ z by omega)
    rw [e1, e2, e3]
    subst hm
    exact Raw_calls S p A k cap wr R N C whole rest m w h0 hcut hk hcap hN
theorem GetZ_calls (S : List Nat) (p : Nat) (A : Option Addr) (k cap : Nat) (wr : Bool) (R : Option Addr) (N C : Nat) (whole rest : List UInt8) (s : Int) (w : World) (h0 : Hp w S [.blk p [.slice A k cap, .bool wr] 54, .row R N C 5 1 (by8 whole)] w) (hcut : Cut R whole A rest) (hk : k = rest.length) (hcap : k ≤ cap) (hN : k ≤ 1000000) (hs : s = 1 ∨ s = 2 ∨ s = 4 ∨ s = 8) : Calls Try.prog 12 #[.pointer (some ⟨p, 0, none⟩), .int .i64 s] w fun e w' => ∃ B b, e = .returned (.int .u64 ((getB (zV wr rest s) : Nat) : Int)) ∧ Hp w S [.blk p [.slice B (zR wr rest s).length b, .bool (!(zOK wr rest s))] 54, .row R N C 5 1 (by8 whole)] w' ∧ Cut R whole B (zR wr rest s) ∧ (zR wr rest s).length ≤ b := by
  obtain ⟨e1, e2, e3⟩ := z_nat (wr := wr) (rest := rest) (z := s) (by omega)
  rw [e1, e2, e3]
  exact Get_calls S p A k cap wr R N C whole rest s w h0 hcut hk hcap hN hs
theorem RawWrong_calls (S : List Nat) (p : Nat) (A : Option Addr) (k cap : Nat) (R : Option Addr) (N C : Nat) (whole : List UInt8) (z : Int) (w : World) (h0 : Hp w S [.blk p [.slice A k cap, .bool true] 54, .row R N C 5 1 (by8 whole)] w) : Calls Try.prog 15 #[pt p 0, .int .i64 z] w fun e w' => e = .returned (.slice none 0 0) ∧ Hp w S [.blk p [.slice none 0 0, .bool true] 54, .row R N C 5 1 (by8 whole)] w' := by
  refine calls_G (args := [pt p 0, .int .i64 z]) Try.func15 rfl Try.ntmps15 rfl ?_
  intro Q0 hRet hNor hPan
  have H := h0
  have H : Hp w S [.blk p [.slice A k cap, .bool true] 54, .row R N C 5 1 (by8 whole)] w := H
  refine G.seqK fun K1 hK2 => ?_
  refine G.region ?_
  refine GL.run (j := 1) 1 [0, 1] [(0, pt p 0), (1, .int .i64 z)] (by kernel_rfl) rfl ?_
  refine GL.k rfl hK2 (fun _ _ h => h) ?_
  refine G.seqK fun K3 hK4 => ?_
  refine G.seqK fun K5 hK6 => ?_
  refine G.region ?_
  refine GL.run (j := 1) 1 [0, 1, 6] [(0, pt p 0), (1, .int .i64 z), (6, pt p 0)] (by kernel_rfl) rfl ?_
  refine GL.call (j := 2) (Wrong_calls (ids [.blk p [.slice A k cap, .bool true] 54, .row R N C 5 1 (by8 whole)]) p A k cap true R N C whole w (Hp.startL (A := [.blk p [.slice A k cap, .bool true] 54, .row R N C 5 1 (by8 whole)]) (B := []) H)) (by kernel_rfl) rfl (fun e_ w7 hR => ?_)
  obtain ⟨rfl, H9⟩ := hR
  have H8 : Hp w S [.blk p [.slice A k cap, .bool true] 54, .row R N C 5 1 (by8 whole)] w7 := Hp.callL (A := [.blk p [.slice A k cap, .bool true] 54, .row R N C 5 1 (by8 whole)]) (B := []) H H9
  refine ⟨_, rfl, [0, 1, 7], [(0, pt p 0), (1, .int .i64 z), (7, .bool true)], by kernel_rfl, ?_⟩
  refine GL.run (j := 15) 13 [0, 1, 20] [(0, pt p 0), (1, .int .i64 z), (20, .bool true)] (by kernel_rfl) rfl ?_
  refine GL.k rfl hK6 (fun _ _ h => h) ?_
  refine G.yes rfl ?_
  refine G.seqK fun K10 hK11 => ?_
  refine G.region ?_
  refine GL.run (j := 1) 1 [21] [(21, pt p 0)] (by kernel_rfl) rfl ?_
  refine GL.call (j := 2) (Fail_calls (ids [.blk p [.slice A k cap, .bool true] 54, .row R N C 5 1 (by8 whole)]) p A k cap true R N C whole w7 (Hp.startL (A := [.blk p [.slice A k cap, .bool true] 54, .row R N C 5 1 (by8 whole)]) (B := []) H8)) (by kernel_rfl) rfl (fun e_ w12 hR => ?_)
  obtain ⟨rfl, H14⟩ := hR
  have H13 : Hp w S [.blk p [.slice none 0 0, .bool true] 54, .row R N C 5 1 (by8 whole)] w12 := Hp.callL (A := [.blk p [.slice A k cap, .bool true] 54, .row R N C 5 1 (by8 whole)]) (B := []) H8 H14
  refine ⟨_, rfl, [], [], by kernel_rfl, ?_⟩
  refine GL.k rfl hK11 (fun _ _ h => h) ?_
  refine G.seqK fun K15 hK16 => ?_
  refine G.region ?_
  refine GL.run (j := 1) 1 [4] [(4, .slice none 0 0)] (by kernel_rfl) rfl ?_
  refine GL.k rfl hK16 (fun _ _ h => h) ?_
  refine G.ret ?_
  intro F_ hF_ hM_
  refine hRet _ _ (bodyPost_1 rfl (RV.tmp rfl) ?_ F_ hF_ hM_)
  exact ⟨rfl, H13⟩
end Go.Proofs.Ytobgpfljdooopaa
