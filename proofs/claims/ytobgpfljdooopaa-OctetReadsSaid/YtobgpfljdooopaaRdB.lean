/- Numbers of no right size; counted bytes of any number; nothing to read. -/
import Derived.Test.YtobgpfljdooopaaRdM
namespace Go.Proofs.Ytobgpfljdooopaa
open Go.RowKit
theorem GetBad_calls (S : List Nat) (p : Nat) (A : Option Addr) (k cap : Nat) (wr : Bool) (R : Option Addr) (N C : Nat) (whole : List UInt8) (s0 : Int) (w : World) (h0 : Hp w S [.blk p [.slice A k cap, .bool wr] 54, .row R N C 5 1 (by8 whole)] w) (hs : ¬ (s0 = 1 ∨ s0 = 2 ∨ s0 = 4 ∨ s0 = 8)) : Calls Try.prog 12 #[pt p 0, .int .i64 s0] w fun e w' => e = .returned (.int .u64 0) ∧ Hp w S [.blk p [.slice none 0 0, .bool true] 54, .row R N C 5 1 (by8 whole)] w' := by
  refine calls_R (args := [pt p 0, .int .i64 s0]) Try.func12 rfl Try.ntmps12 rfl ?_
  intro Q0 hRet hNor
  have H := h0
  have H : Hp w S [.blk p [.slice A k cap, .bool wr] 54, .row R N C 5 1 (by8 whole)] w := H
  refine RG.seqK fun K1 hK2 => ?_
  refine RG.region (by kernel_rfl) ?_
  refine RL.run (j := 1) 1 [0, 1] [(0, pt p 0), (1, .int .i64 s0)] (by kernel_rfl) rfl ?_
  refine RL.k rfl hK2 (fun _ _ h => h) ?_
  refine RG.seqK fun K3 hK4 => ?_
  refine RG.seqK fun K5 hK6 => ?_
  refine RG.region (by kernel_rfl) ?_
  refine RL.run (j := 3) 3 [0, 1, 10] [(0, pt p 0), (1, .int .i64 s0), (10, .bool (s0 != 1))] (by kernel_rfl) rfl ?_
  have hb7 : (s0 != 1) = true := bne_iff_ne.2 (by omega)
  rw [hb7]
  refine RL.run (j := 7) 4 [0, 1, 14] [(0, pt p 0), (1, .int .i64 s0), (14, .bool (s0 != 2))] (by kernel_rfl) rfl ?_
  have hb8 : (s0 != 2) = true := bne_iff_ne.2 (by omega)
  rw [hb8]
  refine RL.run (j := 11) 4 [0, 1, 18] [(0, pt p 0), (1, .int .i64 s0), (18, .bool (s0 != 4))] (by kernel_rfl) rfl ?_
  have hb9 : (s0 != 4) = true := bne_iff_ne.2 (by omega)
  rw [hb9]
  refine RL.run (j := 14) 3 [0, 1, 21] [(0, pt p 0), (1, .int .i64 s0), (21, .bool (s0 != 8))] (by kernel_rfl) rfl ?_
  refine RL.k rfl hK6 (fun _ _ h => h) ?_
  have hb10 : (s0 != 8) = true := bne_iff_ne.2 (by omega)
  rw [hb10]
  refine RG.yes rfl ?_
  refine RG.region (by kernel_rfl) ?_
  refine RL.run (j := 1) 1 [0, 1, 22] [(0, pt p 0), (1, .int .i64 s0), (22, pt p 0)] (by kernel_rfl) rfl ?_
  refine RL.call (j := 2) (Fail_calls (ids [.blk p [.slice A k cap, .bool wr] 54, .row R N C 5 1 (by8 whole)]) p A k cap wr R N C whole w (Hp.startL (A := [.blk p [.slice A k cap, .bool wr] 54, .row R N C 5 1 (by8 whole)]) (B := []) H)) (by kernel_rfl) rfl (fun e_ w11 hR => ?_)
  obtain ⟨rfl, H13⟩ := hR
  have H12 : Hp w S [.blk p [.slice none 0 0, .bool true] 54, .row R N C 5 1 (by8 whole)] w11 := Hp.callL (A := [.blk p [.slice A k cap, .bool wr] 54, .row R N C 5 1 (by8 whole)]) (B := []) H H13
  refine ⟨_, rfl, [0, 1], [(0, pt p 0), (1, .int .i64 s0)], by kernel_rfl, ?_⟩
  refine RL.k rfl hK4 (fun _ _ h => h) ?_
  refine RG.seqK fun K14 hK15 => ?_
  refine RG.region (by kernel_rfl) ?_
  obtain ⟨p16, w17, r18, H19⟩ := H12.alloc (P := Try.prog) 31 [.int .u64 0] (by kernel_rfl)
  have H19 : Hp w S [.blk p [.slice none 0 0, .bool true] 54, .row R N C 5 1 (by8 whole), .blk p16 [.int .u64 0] 31] w17 := H19
  refine RL.sem (j := 1) (r18) [0, 1, 5] [(0, pt p 0), (1, .int .i64 s0), (5, pt p16 0)] (by kernel_rfl) (by kernel_rfl) rfl ?_
  refine RL.k rfl hK15 (fun _ _ h => h) ?_
  refine RG.seqK fun K20 hK21 => ?_
  refine RG.seqK fun K22 hK23 => ?_
  refine RG.region (by kernel_rfl) ?_
  refine RL.run (j := 2) 2 [5, 24, 25] [(5, pt p16 0), (24, pt p 0), (25, .int .i64 s0)] (by kernel_rfl) rfl ?_
  refine RL.call (j := 3) (RawWrong_calls (ids [.blk p [.slice none 0 0, .bool true] 54, .row R N C 5 1 (by8 whole)]) p none 0 0 R N C whole s0 w17 (Hp.startL (A := [.blk p [.slice none 0 0, .bool true] 54, .row R N C 5 1 (by8 whole)]) (B := [.blk p16 [.int .u64 0] 31]) H19)) (by kernel_rfl) rfl (fun e_ w24 hR => ?_)
  obtain ⟨rfl, H26⟩ := hR
  have H25 : Hp w S [.blk p [.slice none 0 0, .bool true] 54, .row R N C 5 1 (by8 whole), .blk p16 [.int .u64 0] 31] w24 := Hp.callL (A := [.blk p [.slice none 0 0, .bool true] 54, .row R N C 5 1 (by8 whole)]) (B := [.blk p16 [.int .u64 0] 31]) H19 H26
  refine ⟨_, rfl, [5, 26], [(5, pt p16 0), (26, .slice none 0 0)], by kernel_rfl, ?_⟩
  refine RL.call (j := 4) (Backward_calls none 0 0 w24) (by kernel_rfl) rfl (fun e_ w30 hR => ?_)
  obtain ⟨B27, rfl, H29⟩ := hR
  have H28 : Hp w S [.blk p [.slice none 0 0, .bool true] 54, .row R N C 5 1 (by8 whole), .blk p16 [.int .u64 0] 31, .blk B27 [.slice none 0 0] 22] w30 := H25.callNew H29
  refine ⟨_, rfl, [5, 27], [(5, pt p16 0), (27, .func (.func 32) #[] #[pt B27 0])], by kernel_rfl, ?_⟩
  refine RL.k rfl hK23 (fun _ _ h => h) ?_
  refine RG.block ?_
  refine RG.fit [5, 27] (M' := [(5, pt p16 0), (27, .func (.func 32) #[] #[pt B27 0])]) (by kernel_rfl) ?_
  refine RG.range H28 (gf := 32) (lb := #[pt B27 0]) rfl (enters_of Try.func32 (by kernel_rfl) rfl) (Xt := Nat) (fun k s => s = getB (([] : List UInt8).drop (([] : List UInt8).length - k))) (fun k s => [.blk p [.slice none 0 0, .bool true] 54, .row R N C 5 1 (by8 whole), .blk p16 [.int .u64 (s : Int)] 31, .blk B27 [.slice none 0 0] 22]) (fun s => False) (fun s => []) (N := ([] : List UInt8).length) (enc := fun k => #[.int .i64 ((([] : List UInt8).length - 1 - k : Nat) : Int), .int .u8 ((([] : List UInt8).getD (([] : List UInt8).length - 1 - k) 0).toNat : Int)]) (Backward_iter ([] : List UInt8) (Nat.le_trans (show ([] : List UInt8).length ≤ 8 from (by decide)) (by decide)) none 0 B27) (fun _ => rfl) 0 (by rw [Nat.sub_zero, List.drop_length]; rfl) rfl (fun k s E W hx HW => ⟨(HW.blkAt 3 rfl).cell 0, .inl rfl⟩) (fun k => [(29, .int .u8 ((([] : List UInt8).getD (([] : List UInt8).length - 1 - k) 0).toNat : Int)), (28, .int .i64 ((([] : List UInt8).length - 1 - k : Nat) : Int)), (5, pt p16 0), (27, .func (.func 32) #[] #[pt B27 0])]) (fun _ => rfl) ?_ ?_ ?_
  · skip
    rintro D34 l35 oR36 oB37 k s w31 K38 hk39 hx32 H33 hK40
    have H33 : Hp w S [.blk p [.slice none 0 0, .bool true] 54, .row R N C 5 1 (by8 whole), .blk p16 [.int .u64 (s : Int)] 31, .blk B27 [.slice none 0 0] 22, .obj D34 DF, .obj l35 oR36] w31 := H33
    have hs1 := hx32
    have hk9 := hk39
    have hVl : ([] : List UInt8).length ≤ 8 := (by decide)
    have hs56 : s < 72057594037927936 := by rw [hs1]; exact acc_lt (by omega)
    have hxb := UInt8.toNat_lt (([] : List UInt8).getD (([] : List UInt8).length - 1 - k) 0)
    refine RG.region (by kernel_rfl) ?_
    refine RL.run (j := 1) 1 [5, 7] [(5, pt p16 0), (7, .int .u8 ((([] : List UInt8).getD (([] : List UInt8).length - 1 - k) 0).toNat : Int))] (by kernel_rfl) rfl ?_
    refine RL.done rfl (fun F_ hF_ hM_ => hK40 F_ _ [.blk p [.slice none 0 0, .bool true] 54, .row R N C 5 1 (by8 whole), .blk p16 [.int .u64 (s : Int)] 31, .blk B27 [.slice none 0 0] 22] _ hF_ hM_ H33 ?_)
    intro w41 H42
    have H42 : Hp w S [.blk p [.slice none 0 0, .bool true] 54, .row R N C 5 1 (by8 whole), .blk p16 [.int .u64 (s : Int)] 31, .blk B27 [.slice none 0 0] 22, .obj D34 DF, .obj l35 oB37] w41 := H42
    refine RG.block ?_
    refine RG.region (by kernel_rfl) ?_
    refine RL.sem (j := 1) (H42.ld (o := 0) (ty := 31) (v := .int .u64 (s : Int)) 2 rfl (by kernel_rfl) rfl) [5, 7, 30] [(5, pt p16 0), (7, .int .u8 ((([] : List UInt8).getD (([] : List UInt8).length - 1 - k) 0).toNat : Int)), (30, .int .u64 (s : Int))] (by kernel_rfl) (by kernel_rfl) rfl ?_
    refine RL.run (j := 5) 4 [5, 34] [(5, pt p16 0), (34, .int .u64 (Go.bits .or .u64 (IntKind.u64.wrap ((s : Int) * 2 ^ 8)) (IntKind.u64.wrap ((([] : List UInt8).getD (([] : List UInt8).length - 1 - k) 0).toNat : Int))))] (by kernel_rfl) rfl ?_
    have e43 : (IntKind.u64.wrap ((s : Int) * 2 ^ 8)) = ((s * 2 ^ 8 : Nat) : Int) := by rw [n_shl, Nat.mod_eq_of_lt (by simp only [K]; omega)]
    have e44 : (IntKind.u64.wrap ((([] : List UInt8).getD (([] : List UInt8).length - 1 - k) 0).toNat : Int)) = ((([] : List UInt8).getD (([] : List UInt8).length - 1 - k) 0).toNat : Int) := u8_up_u64 _
    have e45 : (Go.bits .or .u64 ((s * 2 ^ 8 : Nat) : Int) ((([] : List UInt8).getD (([] : List UInt8).length - 1 - k) 0).toNat : Int)) = (((([] : List UInt8).getD (([] : List UInt8).length - 1 - k) 0).toNat + 256 * s : Nat) : Int) := or_low hs56 hxb
    refine RL.eq (M' := [(5, pt p16 0), (34, .int .u64 (((([] : List UInt8).getD (([] : List UInt8).length - 1 - k) 0).toNat + 256 * s : Nat) : Int))]) (by rw [e43, e44, e45]) ?_
    clear e43 e44 e45
    obtain ⟨w46, r47, H48⟩ := H42.st (P := Try.prog) (o := 0) (ty := 31) (v := .int .u64 (((([] : List UInt8).getD (([] : List UInt8).length - 1 - k) 0).toNat + 256 * s : Nat) : Int)) 2 rfl (by kernel_rfl) (by simp) rfl
    have H48 : Hp w S [.blk p [.slice none 0 0, .bool true] 54, .row R N C 5 1 (by8 whole), .blk p16 [.int .u64 (((([] : List UInt8).getD (([] : List UInt8).length - 1 - k) 0).toNat + 256 * s : Nat) : Int)] 31, .blk B27 [.slice none 0 0] 22, .obj D34 DF, .obj l35 oB37] w46 := H48
    refine RL.semU (j := 6) r47 [] [] (by kernel_rfl) rfl rfl rfl ?_
    exact RL.done rfl (fun F_ hF_ hM_ => ⟨(((([] : List UInt8).getD (([] : List UInt8).length - 1 - k) 0)).toNat + 256 * s), (by rw [hs1]; exact acc_step hk9), H48⟩)
  · skip
    rintro D52 s w49 hx50 H51
    refine RG.kk hK21 (fun _ _ h => h) ?_
    have H51 : Hp w S [.blk p [.slice none 0 0, .bool true] 54, .row R N C 5 1 (by8 whole), .blk p16 [.int .u64 (s : Int)] 31, .blk B27 [.slice none 0 0] 22, .obj D52 DF] w49 := H51
    rw [Nat.sub_self, List.drop_zero] at hx50
    have hs1 := hx50
    refine RG.seqK fun K53 hK54 => ?_
    refine RG.region (by kernel_rfl) ?_
    refine RL.sem (j := 1) (H51.ld (o := 0) (ty := 31) (v := .int .u64 (s : Int)) 2 rfl (by kernel_rfl) rfl) [35] [(35, .int .u64 (s : Int))] (by kernel_rfl) (by kernel_rfl) rfl ?_
    refine RL.run (j := 2) 1 [4] [(4, .int .u64 (s : Int))] (by kernel_rfl) rfl ?_
    refine RL.k rfl hK54 (fun _ _ h => h) ?_
    refine RG.ret ?_
    have hD55 := H51.objAt 4 rfl
    have H56 : Hp w S [.blk p [.slice none 0 0, .bool true] 54, .row R N C 5 1 (by8 whole), .blk p16 [.int .u64 (s : Int)] 31, .blk B27 [.slice none 0 0] 22, .obj D52 (.deferred none)] (World.putObj w49 D52 (.deferred none)) := H51.putObj 4 (.deferred none) rfl
    intro F_ hF_ hM_
    refine hRet _ _ (postK_1 hD55 rfl (RV.tmp rfl) ?_ F_ hF_ hM_)
    have H57 : Hp w S [.blk p [.slice none 0 0, .bool true] 54, .row R N C 5 1 (by8 whole)] (World.putObj w49 D52 (.deferred none)) := H56.sub (List.Sublist.cons_cons _ (List.Sublist.cons_cons _ (List.Sublist.cons _ (List.Sublist.cons _ (List.Sublist.cons _ (List.Sublist.slnil))))))
    rw [show _ = (0 : Nat) from hs1]
    exact ⟨rfl, H57⟩
  · skip
    rintro D61 s w58 hx59 H60
    exact hx59.elim
theorem RCountedZ_calls (S : List Nat) (p : Nat) (A : Option Addr) (k cap : Nat) (wr : Bool) (R : Option Addr) (N C : Nat) (whole rest : List UInt8) (z : Int) (w : World) (h0 : Hp w S [.blk p [.slice A k cap, .bool wr] 54, .row R N C 5 1 (by8 whole)] w) (hcut : Cut R whole A rest) (hk : k = rest.length) (hcap : k ≤ cap) (hN : k ≤ 1000000) (hz : 0 ≤ z) (hz2 : z ≤ 9223372036854775807) : Calls Try.prog 16 #[.pointer (some ⟨p, 0, none⟩), .int .i64 z] w fun e w' => ∃ B b D d, e = .returned (.slice D (cdV wr rest z.toNat).length d) ∧ Hp w S [.blk p [.slice B (cdR wr rest z.toNat).length b, .bool (!(cdOK wr rest z.toNat))] 54, .row R N C 5 1 (by8 whole), .row D (cdV wr rest z.toNat).length d 5 1 (by8 (cdV wr rest z.toNat))] w' ∧ Cut R whole B (cdR wr rest z.toNat) ∧ (cdR wr rest z.toNat).length ≤ b := by
  obtain ⟨m, hm⟩ := Int.eq_ofNat_of_zero_le hz
  subst hm
  exact RCounted_calls S p A k cap wr R N C whole rest m w h0 hcut hk hcap hN (by omega)
theorem RCountedNeg_calls (S : List Nat) (p : Nat) (A : Option Addr) (k cap : Nat) (wr : Bool) (R : Option Addr) (N C : Nat) (whole : List UInt8) (z : Int) (w : World) (h0 : Hp w S [.blk p [.slice A k cap, .bool wr] 54, .row R N C 5 1 (by8 whole)] w) (hz : z < 0) : Calls Try.prog 16 #[pt p 0, .int .i64 z] w fun e w' => ∃ B b D d, e = .returned (.slice D (cdV true ([] : List UInt8) 0).length d) ∧ Hp w S [.blk p [.slice B (cdR true ([] : List UInt8) 0).length b, .bool (!(cdOK true ([] : List UInt8) 0))] 54, .row R N C 5 1 (by8 whole), .row D (cdV true ([] : List UInt8) 0).length d 5 1 (by8 (cdV true ([] : List UInt8) 0))] w' ∧ Cut R whole B (cdR true ([] : List UInt8) 0) ∧ (cdR true ([] : List UInt8) 0).length ≤ b := by
  refine calls_G (args := [pt p 0, .int .i64 z]) Try.func16 rfl Try.ntmps16 rfl ?_
  intro Q0 hRet hNor hPan
  have H := h0
  have H : Hp w S [.blk p [.slice A k cap, .bool wr] 54, .row R N C 5 1 (by8 whole)] w := H
  refine G.seqK fun K1 hK2 => ?_
  refine G.region ?_
  refine GL.run (j := 1) 1 [0, 1] [(0, pt p 0), (1, .int .i64 z)] (by kernel_rfl) rfl ?_
  refine GL.k rfl hK2 (fun _ _ h => h) ?_
  refine G.seqK fun K3 hK4 => ?_
  refine G.seqK fun K5 hK6 => ?_
  refine G.region ?_
  refine GL.run (j := 2) 2 [0, 1, 7] [(0, pt p 0), (1, .int .i64 z), (7, .bool (decide (z < 0)))] (by kernel_rfl) rfl ?_
  refine GL.k rfl hK6 (fun _ _ h => h) ?_
  have hb7 : (decide (z < 0)) = true := decide_eq_true hz
  rw [hb7]
  refine G.yes rfl ?_
  refine G.region ?_
  refine GL.run (j := 1) 1 [0, 1, 8] [(0, pt p 0), (1, .int .i64 z), (8, pt p 0)] (by kernel_rfl) rfl ?_
  refine GL.call (j := 2) (Fail_calls (ids [.blk p [.slice A k cap, .bool wr] 54, .row R N C 5 1 (by8 whole)]) p A k cap wr R N C whole w (Hp.startL (A := [.blk p [.slice A k cap, .bool wr] 54, .row R N C 5 1 (by8 whole)]) (B := []) H)) (by kernel_rfl) rfl (fun e_ w8 hR => ?_)
  obtain ⟨rfl, H10⟩ := hR
  have H9 : Hp w S [.blk p [.slice none 0 0, .bool true] 54, .row R N C 5 1 (by8 whole)] w8 := Hp.callL (A := [.blk p [.slice A k cap, .bool wr] 54, .row R N C 5 1 (by8 whole)]) (B := []) H H10
  refine ⟨_, rfl, [0, 1], [(0, pt p 0), (1, .int .i64 z)], by kernel_rfl, ?_⟩
  refine GL.k rfl hK4 (fun _ _ h => h) ?_
  refine G.seqK fun K11 hK12 => ?_
  refine G.region ?_
  refine GL.run (j := 4) 4 [0, 10, 13] [(0, pt p 0), (10, pt p 0), (13, .int .u64 (IntKind.u64.wrap (if (0 : Int) > z then (0 : Int) else z)))] (by kernel_rfl) rfl ?_
  have e13 : (if (0 : Int) > z then (0 : Int) else z) = (0 : Int) := by rw [if_pos (by omega)]
  have e14 : (IntKind.u64.wrap (0 : Int)) = ((0 : Nat) : Int) := in_u64 (by have := ctV_le true ([] : List UInt8) 0; omega)
  refine GL.eq (M' := [(0, pt p 0), (10, pt p 0), (13, .int .u64 ((0 : Nat) : Int))]) (by rw [e13, e14]) ?_
  clear e13 e14
  refine GL.call (j := 5) (RCount_calls (ids [.blk p [.slice none 0 0, .bool true] 54, .row R N C 5 1 (by8 whole)]) p none 0 0 true R N C whole ([] : List UInt8) 0 w8 (Hp.startL (A := [.blk p [.slice none 0 0, .bool true] 54, .row R N C 5 1 (by8 whole)]) (B := []) H9) (Cut.nil _ _ _) (rfl) ((Nat.zero_le _)) ((Nat.zero_le _))) (by kernel_rfl) rfl (fun e_ w19 hR => ?_)
  obtain ⟨A15, c16, rfl, H21, hC17, hL18⟩ := hR
  have H20 : Hp w S [.blk p [.slice A15 ((ctR true ([] : List UInt8) 0).length) c16, .bool (!(ctOK true ([] : List UInt8) 0))] 54, .row R N C 5 1 (by8 whole)] w19 := Hp.callL (A := [.blk p [.slice none 0 0, .bool true] 54, .row R N C 5 1 (by8 whole)]) (B := []) H9 H21
  refine ⟨_, rfl, [0, 14], [(0, pt p 0), (14, .int .u64 (((ctV true ([] : List UInt8) 0) : Nat) : Int))], by kernel_rfl, ?_⟩
  refine GL.run (j := 6) 1 [0, 5] [(0, pt p 0), (5, .int .u64 (((ctV true ([] : List UInt8) 0) : Nat) : Int))] (by kernel_rfl) rfl ?_
  refine GL.k rfl hK12 (fun _ _ h => h) ?_
  refine G.seqK fun K22 hK23 => ?_
  refine G.region ?_
  refine GL.run (j := 3) 3 [15, 17] [(15, pt p 0), (17, .int .i64 (IntKind.i64.wrap (((ctV true ([] : List UInt8) 0) : Nat) : Int)))] (by kernel_rfl) rfl ?_
  have e24 : (IntKind.i64.wrap (((ctV true ([] : List UInt8) 0) : Nat) : Int)) = (((ctV true ([] : List UInt8) 0) : Nat) : Int) := in_i64 (by have := ctV_le true ([] : List UInt8) 0; omega)
  refine GL.eq (M' := [(15, pt p 0), (17, .int .i64 (((ctV true ([] : List UInt8) 0) : Nat) : Int))]) (by rw [e24]) ?_
  clear e24
  refine GL.call (j := 4) (Raw_calls (ids [.blk p [.slice A15 ((ctR true ([] : List UInt8) 0).length) c16, .bool (!(ctOK true ([] : List UInt8) 0))] 54, .row R N C 5 1 (by8 whole)]) p A15 ((ctR true ([] : List UInt8) 0).length) c16 (!(ctOK true ([] : List UInt8) 0)) R N C whole (ctR true ([] : List UInt8) 0) (ctV true ([] : List UInt8) 0) w19 (Hp.startL (A := [.blk p [.slice A15 ((ctR true ([] : List UInt8) 0).length) c16, .bool (!(ctOK true ([] : List UInt8) 0))] 54, .row R N C 5 1 (by8 whole)]) (B := []) H20) hC17 (rfl) (hL18) ((Nat.le_trans (ctR_le _ _ _) (Nat.zero_le _)))) (by kernel_rfl) rfl (fun e_ w31 hR => ?_)
  obtain ⟨A25, c26, A27, c28, rfl, H33, hC29, hL30⟩ := hR
  have H32 : Hp w S [.blk p [.slice A25 ((rR (!(ctOK true ([] : List UInt8) 0)) (ctR true ([] : List UInt8) 0) (ctV true ([] : List UInt8) 0)).length) c26, .bool (!(rOK (!(ctOK true ([] : List UInt8) 0)) (ctR true ([] : List UInt8) 0) (ctV true ([] : List UInt8) 0)))] 54, .row R N C 5 1 (by8 whole), .row A27 ((rV (!(ctOK true ([] : List UInt8) 0)) (ctR true ([] : List UInt8) 0) (ctV true ([] : List UInt8) 0)).length) c28 5 1 (by8 (rV (!(ctOK true ([] : List UInt8) 0)) (ctR true ([] : List UInt8) 0) (ctV true ([] : List UInt8) 0)))] w31 := Hp.callL (A := [.blk p [.slice A15 ((ctR true ([] : List UInt8) 0).length) c16, .bool (!(ctOK true ([] : List UInt8) 0))] 54, .row R N C 5 1 (by8 whole)]) (B := []) H20 H33
  refine ⟨_, rfl, [18], [(18, .slice A27 ((rV (!(ctOK true ([] : List UInt8) 0)) (ctR true ([] : List UInt8) 0) (ctV true ([] : List UInt8) 0)).length) c28)], by kernel_rfl, ?_⟩
  refine GL.run (j := 5) 1 [4] [(4, .slice A27 ((rV (!(ctOK true ([] : List UInt8) 0)) (ctR true ([] : List UInt8) 0) (ctV true ([] : List UInt8) 0)).length) c28)] (by kernel_rfl) rfl ?_
  refine GL.k rfl hK23 (fun _ _ h => h) ?_
  refine G.ret ?_
  intro F_ hF_ hM_
  refine hRet _ _ (bodyPost_1 rfl (RV.tmp rfl) ?_ F_ hF_ hM_)
  exact ⟨_, _, _, _, rfl, H32, hC29, hL30⟩
theorem RGet_nil (w : World) : Calls Try.prog 12 #[.pointer none, .int .i64 1] w fun e w' => e = .returned (.int .u64 0) ∧ Hp w [] [] w' := by
  refine calls_R (args := [.pointer none, .int .i64 1]) Try.func12 rfl Try.ntmps12 rfl ?_
  intro Q0 hRet hNor
  have H := Hp.start w
  have H : Hp w [] [] w := H
  refine RG.seqK fun K1 hK2 => ?_
  refine RG.region (by kernel_rfl) ?_
  refine RL.run (j := 1) 1 [0, 1] [(0, .pointer none), (1, .int .i64 1)] (by kernel_rfl) rfl ?_
  refine RL.k rfl hK2 (fun _ _ h => h) ?_
  refine RG.seqK fun K3 hK4 => ?_
  refine RG.seqK fun K5 hK6 => ?_
  refine RG.region (by kernel_rfl) ?_
  refine RL.run (j := 14) 14 [0, 1, 21] [(0, .pointer none), (1, .int .i64 1), (21, .bool false)] (by kernel_rfl) rfl ?_
  refine RL.k rfl hK6 (fun _ _ h => h) ?_
  refine RG.no rfl ?_
  refine RG.skipK hK4 (fun _ _ h => h) ?_
  refine RG.seqK fun K7 hK8 => ?_
  refine RG.region (by kernel_rfl) ?_
  obtain ⟨p9, w10, r11, H12⟩ := H.alloc (P := Try.prog) 31 [.int .u64 0] (by kernel_rfl)
  have H12 : Hp w [] [.blk p9 [.int .u64 0] 31] w10 := H12
  refine RL.sem (j := 1) (r11) [0, 1, 5] [(0, .pointer none), (1, .int .i64 1), (5, pt p9 0)] (by kernel_rfl) (by kernel_rfl) rfl ?_
  refine RL.k rfl hK8 (fun _ _ h => h) ?_
  refine RG.seqK fun K13 hK14 => ?_
  refine RG.seqK fun K15 hK16 => ?_
  refine RG.region (by kernel_rfl) ?_
  refine RL.run (j := 2) 2 [5, 24, 25] [(5, pt p9 0), (24, .pointer none), (25, .int .i64 1)] (by kernel_rfl) rfl ?_
  refine RL.call (j := 3) (RRaw_nil 1 w10) (by kernel_rfl) rfl (fun e_ w17 hR => ?_)
  obtain ⟨rfl, H19⟩ := hR
  have H18 : Hp w [] [.blk p9 [.int .u64 0] 31] w17 := H12.callNil H19
  refine ⟨_, rfl, [5, 26], [(5, pt p9 0), (26, .slice none 0 0)], by kernel_rfl, ?_⟩
  refine RL.call (j := 4) (Backward_calls none 0 0 w17) (by kernel_rfl) rfl (fun e_ w23 hR => ?_)
  obtain ⟨B20, rfl, H22⟩ := hR
  have H21 : Hp w [] [.blk p9 [.int .u64 0] 31, .blk B20 [.slice none 0 0] 22] w23 := H18.callNew H22
  refine ⟨_, rfl, [5, 27], [(5, pt p9 0), (27, .func (.func 32) #[] #[pt B20 0])], by kernel_rfl, ?_⟩
  refine RL.k rfl hK16 (fun _ _ h => h) ?_
  refine RG.block ?_
  refine RG.fit [5, 27] (M' := [(5, pt p9 0), (27, .func (.func 32) #[] #[pt B20 0])]) (by kernel_rfl) ?_
  refine RG.range H21 (gf := 32) (lb := #[pt B20 0]) rfl (enters_of Try.func32 (by kernel_rfl) rfl) (Xt := Nat) (fun k s => s = getB (([] : List UInt8).drop (([] : List UInt8).length - k))) (fun k s => [.blk p9 [.int .u64 (s : Int)] 31, .blk B20 [.slice none 0 0] 22]) (fun s => False) (fun s => []) (N := ([] : List UInt8).length) (enc := fun k => #[.int .i64 ((([] : List UInt8).length - 1 - k : Nat) : Int), .int .u8 ((([] : List UInt8).getD (([] : List UInt8).length - 1 - k) 0).toNat : Int)]) (Backward_iter ([] : List UInt8) (Nat.le_trans (show ([] : List UInt8).length ≤ 8 from (by decide)) (by decide)) none 0 B20) (fun _ => rfl) 0 (by rw [Nat.sub_zero, List.drop_length]; rfl) rfl (fun k s E W hx HW => ⟨(HW.blkAt 1 rfl).cell 0, .inl rfl⟩) (fun k => [(29, .int .u8 ((([] : List UInt8).getD (([] : List UInt8).length - 1 - k) 0).toNat : Int)), (28, .int .i64 ((([] : List UInt8).length - 1 - k : Nat) : Int)), (5, pt p9 0), (27, .func (.func 32) #[] #[pt B20 0])]) (fun _ => rfl) ?_ ?_ ?_
  · skip
    rintro D27 l28 oR29 oB30 k s w24 K31 hk32 hx25 H26 hK33
    have H26 : Hp w [] [.blk p9 [.int .u64 (s : Int)] 31, .blk B20 [.slice none 0 0] 22, .obj D27 DF, .obj l28 oR29] w24 := H26
    have hs1 := hx25
    have hk9 := hk32
    have hVl : ([] : List UInt8).length ≤ 8 := (by decide)
    have hs56 : s < 72057594037927936 := by rw [hs1]; exact acc_lt (by omega)
    have hxb := UInt8.toNat_lt (([] : List UInt8).getD (([] : List UInt8).length - 1 - k) 0)
    refine RG.region (by kernel_rfl) ?_
    refine RL.run (j := 1) 1 [5, 7] [(5, pt p9 0), (7, .int .u8 ((([] : List UInt8).getD (([] : List UInt8).length - 1 - k) 0).toNat : Int))] (by kernel_rfl) rfl ?_
    refine RL.done rfl (fun F_ hF_ hM_ => hK33 F_ _ [.blk p9 [.int .u64 (s : Int)] 31, .blk B20 [.slice none 0 0] 22] _ hF_ hM_ H26 ?_)
    intro w34 H35
    have H35 : Hp w [] [.blk p9 [.int .u64 (s : Int)] 31, .blk B20 [.slice none 0 0] 22, .obj D27 DF, .obj l28 oB30] w34 := H35
    refine RG.block ?_
    refine RG.region (by kernel_rfl) ?_
    refine RL.sem (j := 1) (H35.ld (o := 0) (ty := 31) (v := .int .u64 (s : Int)) 0 rfl (by kernel_rfl) rfl) [5, 7, 30] [(5, pt p9 0), (7, .int .u8 ((([] : List UInt8).getD (([] : List UInt8).length - 1 - k) 0).toNat : Int)), (30, .int .u64 (s : Int))] (by kernel_rfl) (by kernel_rfl) rfl ?_
    refine RL.run (j := 5) 4 [5, 34] [(5, pt p9 0), (34, .int .u64 (Go.bits .or .u64 (IntKind.u64.wrap ((s : Int) * 2 ^ 8)) (IntKind.u64.wrap ((([] : List UInt8).getD (([] : List UInt8).length - 1 - k) 0).toNat : Int))))] (by kernel_rfl) rfl ?_
    have e36 : (IntKind.u64.wrap ((s : Int) * 2 ^ 8)) = ((s * 2 ^ 8 : Nat) : Int) := by rw [n_shl, Nat.mod_eq_of_lt (by simp only [K]; omega)]
    have e37 : (IntKind.u64.wrap ((([] : List UInt8).getD (([] : List UInt8).length - 1 - k) 0).toNat : Int)) = ((([] : List UInt8).getD (([] : List UInt8).length - 1 - k) 0).toNat : Int) := u8_up_u64 _
    have e38 : (Go.bits .or .u64 ((s * 2 ^ 8 : Nat) : Int) ((([] : List UInt8).getD (([] : List UInt8).length - 1 - k) 0).toNat : Int)) = (((([] : List UInt8).getD (([] : List UInt8).length - 1 - k) 0).toNat + 256 * s : Nat) : Int) := or_low hs56 hxb
    refine RL.eq (M' := [(5, pt p9 0), (34, .int .u64 (((([] : List UInt8).getD (([] : List UInt8).length - 1 - k) 0).toNat + 256 * s : Nat) : Int))]) (by rw [e36, e37, e38]) ?_
    clear e36 e37 e38
    obtain ⟨w39, r40, H41⟩ := H35.st (P := Try.prog) (o := 0) (ty := 31) (v := .int .u64 (((([] : List UInt8).getD (([] : List UInt8).length - 1 - k) 0).toNat + 256 * s : Nat) : Int)) 0 rfl (by kernel_rfl) (by simp) rfl
    have H41 : Hp w [] [.blk p9 [.int .u64 (((([] : List UInt8).getD (([] : List UInt8).length - 1 - k) 0).toNat + 256 * s : Nat) : Int)] 31, .blk B20 [.slice none 0 0] 22, .obj D27 DF, .obj l28 oB30] w39 := H41
    refine RL.semU (j := 6) r40 [] [] (by kernel_rfl) rfl rfl rfl ?_
    exact RL.done rfl (fun F_ hF_ hM_ => ⟨(((([] : List UInt8).getD (([] : List UInt8).length - 1 - k) 0)).toNat + 256 * s), (by rw [hs1]; exact acc_step hk9), H41⟩)
  · skip
    rintro D45 s w42 hx43 H44
    refine RG.kk hK14 (fun _ _ h => h) ?_
    have H44 : Hp w [] [.blk p9 [.int .u64 (s : Int)] 31, .blk B20 [.slice none 0 0] 22, .obj D45 DF] w42 := H44
    rw [Nat.sub_self, List.drop_zero] at hx43
    have hs1 := hx43
    refine RG.seqK fun K46 hK47 => ?_
    refine RG.region (by kernel_rfl) ?_
    refine RL.sem (j := 1) (H44.ld (o := 0) (ty := 31) (v := .int .u64 (s : Int)) 0 rfl (by kernel_rfl) rfl) [35] [(35, .int .u64 (s : Int))] (by kernel_rfl) (by kernel_rfl) rfl ?_
    refine RL.run (j := 2) 1 [4] [(4, .int .u64 (s : Int))] (by kernel_rfl) rfl ?_
    refine RL.k rfl hK47 (fun _ _ h => h) ?_
    refine RG.ret ?_
    have hD48 := H44.objAt 2 rfl
    have H49 : Hp w [] [.blk p9 [.int .u64 (s : Int)] 31, .blk B20 [.slice none 0 0] 22, .obj D45 (.deferred none)] (World.putObj w42 D45 (.deferred none)) := H44.putObj 2 (.deferred none) rfl
    intro F_ hF_ hM_
    refine hRet _ _ (postK_1 hD48 rfl (RV.tmp rfl) ?_ F_ hF_ hM_)
    rw [show _ = (0 : Nat) from hs1]
    exact ⟨rfl, H49.sub (List.nil_sublist _)⟩
  · skip
    rintro D53 s w50 hx51 H52
    exact hx51.elim
theorem RCount_nil (w : World) : Calls Try.prog 13 #[.pointer none, .int .u64 9] w fun e w' => e = .returned (.int .u64 0) ∧ Hp w [] [] w' := by
  refine calls_G (args := [.pointer none, .int .u64 9]) Try.func13 rfl Try.ntmps13 rfl ?_
  intro Q0 hRet hNor hPan
  have H := Hp.start w
  have H : Hp w [] [] w := H
  refine G.seqK fun K1 hK2 => ?_
  refine G.region ?_
  refine GL.run (j := 1) 1 [0, 1] [(0, .pointer none), (1, .int .u64 9)] (by kernel_rfl) rfl ?_
  refine GL.k rfl hK2 (fun _ _ h => h) ?_
  refine G.seqK fun K3 hK4 => ?_
  refine G.region ?_
  refine GL.run (j := 1) 1 [0, 1, 7] [(0, .pointer none), (1, .int .u64 9), (7, .pointer none)] (by kernel_rfl) rfl ?_
  refine GL.call (j := 2) (RGet_nil w) (by kernel_rfl) rfl (fun e_ w5 hR => ?_)
  obtain ⟨rfl, H7⟩ := hR
  have H6 : Hp w [] [] w5 := H.callNil H7
  refine ⟨_, rfl, [0, 1, 8], [(0, .pointer none), (1, .int .u64 9), (8, .int .u64 0)], by kernel_rfl, ?_⟩
  refine GL.run (j := 4) 2 [0, 1, 5, 6] [(0, .pointer none), (1, .int .u64 9), (5, .int .u64 0), (6, .int .i64 1)] (by kernel_rfl) rfl ?_
  refine GL.k rfl hK4 (fun _ _ h => h) ?_
  refine G.seqK fun K8 hK9 => ?_
  refine G.seqK fun K10 hK11 => ?_
  refine G.region ?_
  refine GL.run (j := 1) 1 [0, 1, 5, 6, 9] [(0, .pointer none), (1, .int .u64 9), (5, .int .u64 0), (6, .int .i64 1), (9, .int .u64 0)] (by kernel_rfl) rfl ?_
  refine GL.k rfl hK11 (fun _ _ h => h) ?_
  refine G.block ?_
  refine G.seqK fun K12 hK13 => ?_
  refine G.region ?_
  refine GL.run (j := 2) 2 [0, 1, 5, 6, 9, 10] [(0, .pointer none), (1, .int .u64 9), (5, .int .u64 0), (6, .int .i64 1), (9, .int .u64 0), (10, .bool false)] (by kernel_rfl) rfl ?_
  refine GL.k rfl hK13 (fun _ _ h => h) ?_
  refine G.no rfl ?_
  refine G.seqK fun K14 hK15 => ?_
  refine G.region ?_
  refine GL.run (j := 2) 2 [0, 1, 5, 6, 9, 14] [(0, .pointer none), (1, .int .u64 9), (5, .int .u64 0), (6, .int .i64 1), (9, .int .u64 0), (14, .bool false)] (by kernel_rfl) rfl ?_
  refine GL.k rfl hK15 (fun _ _ h => h) ?_
  refine G.no rfl ?_
  refine G.seqK fun K16 hK17 => ?_
  refine G.region ?_
  refine GL.run (j := 2) 2 [0, 1, 5, 6, 18] [(0, .pointer none), (1, .int .u64 9), (5, .int .u64 0), (6, .int .i64 1), (18, .bool false)] (by kernel_rfl) rfl ?_
  refine GL.k rfl hK17 (fun _ _ h => h) ?_
  refine G.no rfl ?_
  refine G.skipK hK9 (fun _ _ h => h) ?_
  refine G.seqK fun K18 hK19 => ?_
  refine G.seqK fun K20 hK21 => ?_
  refine G.region ?_
  refine GL.run (j := 1) 1 [0, 1, 5, 6, 22] [(0, .pointer none), (1, .int .u64 9), (5, .int .u64 0), (6, .int .i64 1), (22, .pointer none)] (by kernel_rfl) rfl ?_
  refine GL.call (j := 2) (RWrong_nil w5) (by kernel_rfl) rfl (fun e_ w22 hR => ?_)
  obtain ⟨rfl, H24⟩ := hR
  have H23 : Hp w [] [] w22 := H6.callNil H24
  refine ⟨_, rfl, [0, 1, 5, 6, 23], [(0, .pointer none), (1, .int .u64 9), (5, .int .u64 0), (6, .int .i64 1), (23, .bool true)], by kernel_rfl, ?_⟩
  refine GL.run (j := 13) 11 [0, 5, 34] [(0, .pointer none), (5, .int .u64 0), (34, .bool true)] (by kernel_rfl) rfl ?_
  refine GL.k rfl hK21 (fun _ _ h => h) ?_
  refine G.yes rfl ?_
  refine G.seqK fun K25 hK26 => ?_
  refine G.region ?_
  refine GL.run (j := 1) 1 [35] [(35, .pointer none)] (by kernel_rfl) rfl ?_
  refine GL.call (j := 2) (RFail_nil w22) (by kernel_rfl) rfl (fun e_ w27 hR => ?_)
  obtain ⟨rfl, H29⟩ := hR
  have H28 : Hp w [] [] w27 := H23.callNil H29
  refine ⟨_, rfl, [], [], by kernel_rfl, ?_⟩
  refine GL.k rfl hK26 (fun _ _ h => h) ?_
  refine G.seqK fun K30 hK31 => ?_
  refine G.region ?_
  refine GL.run (j := 1) 1 [4] [(4, .int .u64 0)] (by kernel_rfl) rfl ?_
  refine GL.k rfl hK31 (fun _ _ h => h) ?_
  refine G.ret ?_
  intro F_ hF_ hM_
  refine hRet _ _ (bodyPost_1 rfl (RV.tmp rfl) ?_ F_ hF_ hM_)
  exact ⟨rfl, H28.sub (List.nil_sublist _)⟩
theorem RCount_nil3 (w : World) : Calls Try.prog 13 #[.pointer none, .int .u64 3] w fun e w' => e = .returned (.int .u64 0) ∧ Hp w [] [] w' := by
  refine calls_G (args := [.pointer none, .int .u64 3]) Try.func13 rfl Try.ntmps13 rfl ?_
  intro Q0 hRet hNor hPan
  have H := Hp.start w
  have H : Hp w [] [] w := H
  refine G.seqK fun K1 hK2 => ?_
  refine G.region ?_
  refine GL.run (j := 1) 1 [0, 1] [(0, .pointer none), (1, .int .u64 3)] (by kernel_rfl) rfl ?_
  refine GL.k rfl hK2 (fun _ _ h => h) ?_
  refine G.seqK fun K3 hK4 => ?_
  refine G.region ?_
  refine GL.run (j := 1) 1 [0, 1, 7] [(0, .pointer none), (1, .int .u64 3), (7, .pointer none)] (by kernel_rfl) rfl ?_
  refine GL.call (j := 2) (RGet_nil w) (by kernel_rfl) rfl (fun e_ w5 hR => ?_)
  obtain ⟨rfl, H7⟩ := hR
  have H6 : Hp w [] [] w5 := H.callNil H7
  refine ⟨_, rfl, [0, 1, 8], [(0, .pointer none), (1, .int .u64 3), (8, .int .u64 0)], by kernel_rfl, ?_⟩
  refine GL.run (j := 4) 2 [0, 1, 5, 6] [(0, .pointer none), (1, .int .u64 3), (5, .int .u64 0), (6, .int .i64 1)] (by kernel_rfl) rfl ?_
  refine GL.k rfl hK4 (fun _ _ h => h) ?_
  refine G.seqK fun K8 hK9 => ?_
  refine G.seqK fun K10 hK11 => ?_
  refine G.region ?_
  refine GL.run (j := 1) 1 [0, 1, 5, 6, 9] [(0, .pointer none), (1, .int .u64 3), (5, .int .u64 0), (6, .int .i64 1), (9, .int .u64 0)] (by kernel_rfl) rfl ?_
  refine GL.k rfl hK11 (fun _ _ h => h) ?_
  refine G.block ?_
  refine G.seqK fun K12 hK13 => ?_
  refine G.region ?_
  refine GL.run (j := 2) 2 [0, 1, 5, 6, 9, 10] [(0, .pointer none), (1, .int .u64 3), (5, .int .u64 0), (6, .int .i64 1), (9, .int .u64 0), (10, .bool false)] (by kernel_rfl) rfl ?_
  refine GL.k rfl hK13 (fun _ _ h => h) ?_
  refine G.no rfl ?_
  refine G.seqK fun K14 hK15 => ?_
  refine G.region ?_
  refine GL.run (j := 2) 2 [0, 1, 5, 6, 9, 14] [(0, .pointer none), (1, .int .u64 3), (5, .int .u64 0), (6, .int .i64 1), (9, .int .u64 0), (14, .bool false)] (by kernel_rfl) rfl ?_
  refine GL.k rfl hK15 (fun _ _ h => h) ?_
  refine G.no rfl ?_
  refine G.seqK fun K16 hK17 => ?_
  refine G.region ?_
  refine GL.run (j := 2) 2 [0, 1, 5, 6, 18] [(0, .pointer none), (1, .int .u64 3), (5, .int .u64 0), (6, .int .i64 1), (18, .bool false)] (by kernel_rfl) rfl ?_
  refine GL.k rfl hK17 (fun _ _ h => h) ?_
  refine G.no rfl ?_
  refine G.skipK hK9 (fun _ _ h => h) ?_
  refine G.seqK fun K18 hK19 => ?_
  refine G.seqK fun K20 hK21 => ?_
  refine G.region ?_
  refine GL.run (j := 1) 1 [0, 1, 5, 6, 22] [(0, .pointer none), (1, .int .u64 3), (5, .int .u64 0), (6, .int .i64 1), (22, .pointer none)] (by kernel_rfl) rfl ?_
  refine GL.call (j := 2) (RWrong_nil w5) (by kernel_rfl) rfl (fun e_ w22 hR => ?_)
  obtain ⟨rfl, H24⟩ := hR
  have H23 : Hp w [] [] w22 := H6.callNil H24
  refine ⟨_, rfl, [0, 1, 5, 6, 23], [(0, .pointer none), (1, .int .u64 3), (5, .int .u64 0), (6, .int .i64 1), (23, .bool true)], by kernel_rfl, ?_⟩
  refine GL.run (j := 13) 11 [0, 5, 34] [(0, .pointer none), (5, .int .u64 0), (34, .bool true)] (by kernel_rfl) rfl ?_
  refine GL.k rfl hK21 (fun _ _ h => h) ?_
  refine G.yes rfl ?_
  refine G.seqK fun K25 hK26 => ?_
  refine G.region ?_
  refine GL.run (j := 1) 1 [35] [(35, .pointer none)] (by kernel_rfl) rfl ?_
  refine GL.call (j := 2) (RFail_nil w22) (by kernel_rfl) rfl (fun e_ w27 hR => ?_)
  obtain ⟨rfl, H29⟩ := hR
  have H28 : Hp w [] [] w27 := H23.callNil H29
  refine ⟨_, rfl, [], [], by kernel_rfl, ?_⟩
  refine GL.k rfl hK26 (fun _ _ h => h) ?_
  refine G.seqK fun K30 hK31 => ?_
  refine G.region ?_
  refine GL.run (j := 1) 1 [4] [(4, .int .u64 0)] (by kernel_rfl) rfl ?_
  refine GL.k rfl hK31 (fun _ _ h => h) ?_
  refine G.ret ?_
  intro F_ hF_ hM_
  refine hRet _ _ (bodyPost_1 rfl (RV.tmp rfl) ?_ F_ hF_ hM_)
  exact ⟨rfl, H28.sub (List.nil_sublist _)⟩
theorem RCounted_nil (w : World) : Calls Try.prog 16 #[.pointer none, .int .i64 3] w fun e w' => e = .returned (.slice none 0 0) ∧ Hp w [] [] w' := by
  refine calls_G (args := [.pointer none, .int .i64 3]) Try.func16 rfl Try.ntmps16 rfl ?_
  intro Q0 hRet hNor hPan
  have H := Hp.start w
  have H : Hp w [] [] w := H
  refine G.seqK fun K1 hK2 => ?_
  refine G.region ?_
  refine GL.run (j := 1) 1 [0, 1] [(0, .pointer none), (1, .int .i64 3)] (by kernel_rfl) rfl ?_
  refine GL.k rfl hK2 (fun _ _ h => h) ?_
  refine G.seqK fun K3 hK4 => ?_
  refine G.seqK fun K5 hK6 => ?_
  refine G.region ?_
  refine GL.run (j := 2) 2 [0, 1, 7] [(0, .pointer none), (1, .int .i64 3), (7, .bool false)] (by kernel_rfl) rfl ?_
  refine GL.k rfl hK6 (fun _ _ h => h) ?_
  refine G.no rfl ?_
  refine G.skipK hK4 (fun _ _ h => h) ?_
  refine G.seqK fun K7 hK8 => ?_
  refine G.region ?_
  refine GL.run (j := 4) 4 [0, 10, 13] [(0, .pointer none), (10, .pointer none), (13, .int .u64 3)] (by kernel_rfl) rfl ?_
  refine GL.call (j := 5) (RCount_nil3 w) (by kernel_rfl) rfl (fun e_ w9 hR => ?_)
  obtain ⟨rfl, H11⟩ := hR
  have H10 : Hp w [] [] w9 := H.callNil H11
  refine ⟨_, rfl, [0, 14], [(0, .pointer none), (14, .int .u64 0)], by kernel_rfl, ?_⟩
  refine GL.run (j := 6) 1 [0, 5] [(0, .pointer none), (5, .int .u64 0)] (by kernel_rfl) rfl ?_
  refine GL.k rfl hK8 (fun _ _ h => h) ?_
  refine G.seqK fun K12 hK13 => ?_
  refine G.region ?_
  refine GL.run (j := 3) 3 [15, 17] [(15, .pointer none), (17, .int .i64 0)] (by kernel_rfl) rfl ?_
  refine GL.call (j := 4) (RRaw_nil 0 w9) (by kernel_rfl) rfl (fun e_ w14 hR => ?_)
  obtain ⟨rfl, H16⟩ := hR
  have H15 : Hp w [] [] w14 := H10.callNil H16
  refine ⟨_, rfl, [18], [(18, .slice none 0 0)], by kernel_rfl, ?_⟩
  refine GL.run (j := 5) 1 [4] [(4, .slice none 0 0)] (by kernel_rfl) rfl ?_
  refine GL.k rfl hK13 (fun _ _ h => h) ?_
  refine G.ret ?_
  intro F_ hF_ hM_
  refine hRet _ _ (bodyPost_1 rfl (RV.tmp rfl) ?_ F_ hF_ hM_)
  exact ⟨rfl, H15.sub (List.nil_sublist _)⟩
end Go.Proofs.Ytobgpfljdooopaa
