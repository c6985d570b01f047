/- Part 3 of what txPays_proved stands on. -/
import Derived.Test.YtcedmbdahbdmaaaZp2
set_option linter.unusedVariables false
set_option maxRecDepth 100000
namespace Go.Proofs.Ytcedmbdahbdmaaa
open Go.RowKit
theorem write_calls (v : Nat) (ins : List TIn) (A : Option Addr) (ca : Nat) (outs : List TOut) (B : Option Addr) (cb : Nat) (lt : Nat) (w : World) (hv : v < 4294967296) (hlt : lt < 4294967296) (hIns : RdS w A (insC ins)) (hI : ∀ x ∈ ins, x.Ok w []) (hOuts : RdS w B (outsC outs)) (hO : ∀ x ∈ outs, x.Ok w []) (hni : ins.length ≤ maxLen) (hno : outs.length ≤ maxLen) (hK : txK ins outs = 0) : Calls Try.prog 48 #[.agg #[.int .u32 (v : Int), .slice A ins.length ca, .slice B outs.length cb, .int .u32 (lt : Int)]] w fun e w' => ∃ A' n' c', e = .returned (.slice A' n' c') ∧ Hp w [] [.row A' n' c' 5 1 (by8 (txB v ins outs lt))] w' := by
  have hni_ : ins.length ≤ 9223372036854775807 := hni
  have hno_ : outs.length ≤ 9223372036854775807 := hno
  obtain ⟨_, h2, h3, h4, h5⟩ := txK_zero.1 hK
  refine calls_G (args := [.agg #[.int .u32 (v : Int), .slice A ins.length ca, .slice B outs.length cb, .int .u32 (lt : Int)]]) Try.func48 rfl Try.ntmps48 rfl ?_
  intro Q0 hRet hNor hPan
  have H := Hp.start w
  have H : Hp w [] [] w := H
  refine G.seqK fun K1 hK2 => ?_
  refine G.region ?_
  obtain ⟨p3, w4, r5, H6⟩ := H.box (P := Try.prog) 26 [.int .u32 (v : Int), .slice A ins.length ca, .slice B outs.length cb, .int .u32 (lt : Int)] (.agg #[.int .u32 (v : Int), .slice A ins.length ca, .slice B outs.length cb, .int .u32 (lt : Int)]) rfl
  have H6 : Hp w [] [.blk p3 [.int .u32 (v : Int), .slice A ins.length ca, .slice B outs.length cb, .int .u32 (lt : Int)] 26] w4 := H6
  refine GL.sem (j := 1) (r5) [1] [(1, pt p3 0)] (by kernel_rfl) (by kernel_rfl) rfl ?_
  refine GL.run (j := 2) 1 [1] [(1, pt p3 0)] (by kernel_rfl) rfl ?_
  refine GL.k rfl hK2 (fun _ _ h => h) ?_
  refine G.seqK fun K7 hK8 => ?_
  refine G.region ?_
  obtain ⟨p9, w10, r11, H12⟩ := H6.alloc (P := Try.prog) 114 [.slice none 0 0] (by kernel_rfl)
  have H12 : Hp w [] [.blk p3 [.int .u32 (v : Int), .slice A ins.length ca, .slice B outs.length cb, .int .u32 (lt : Int)] 26, .blk p9 [.slice none 0 0] 114] w10 := H12
  refine GL.sem (j := 1) (r11) [1, 3] [(1, pt p3 0), (3, pt p9 0)] (by kernel_rfl) (by kernel_rfl) rfl ?_
  refine GL.k rfl hK8 (fun _ _ h => h) ?_
  refine G.seqK fun K13 hK14 => ?_
  refine G.region ?_
  refine GL.run (j := 1) 1 [1, 3, 8] [(1, pt p3 0), (3, pt p9 0), (8, pt p3 0)] (by kernel_rfl) rfl ?_
  refine GL.sem (j := 2) (H12.ld (o := 0) (ty := 22) (v := .int .u32 (v : Int)) 0 rfl (by kernel_rfl) rfl) [1, 3, 9] [(1, pt p3 0), (3, pt p9 0), (9, .int .u32 (v : Int))] (by kernel_rfl) (by kernel_rfl) rfl ?_
  refine GL.run (j := 3) 1 [1, 3, 10] [(1, pt p3 0), (3, pt p9 0), (10, .int .u64 (IntKind.u64.wrap (v : Int)))] (by kernel_rfl) rfl ?_
  have e15 : (IntKind.u64.wrap (v : Int)) = (v : Int) := in_u64 (by omega)
  refine GL.eq (M' := [(1, pt p3 0), (3, pt p9 0), (10, .int .u64 (v : Int))]) (by rw [e15]) ?_
  clear e15
  have H16 := H12.rowNil 5 1
  have H16 : Hp w [] [.blk p3 [.int .u32 (v : Int), .slice A ins.length ca, .slice B outs.length cb, .int .u32 (lt : Int)] 26, .blk p9 [.slice none 0 0] 114, .row none 0 0 5 1 (by8 ([] : List UInt8))] w10 := H16
  have H19 := (Hp.reorder (L' := [.blk p9 [.slice none 0 0] 114, .row none 0 0 5 1 (by8 ([] : List UInt8)), .blk p3 [.int .u32 (v : Int), .slice A ins.length ca, .slice B outs.length cb, .int .u32 (lt : Int)] 26]) H16 (List.Perm.trans (List.Perm.swap _ _ _) (List.Perm.cons _ (List.Perm.trans (List.Perm.swap _ _ _) (List.Perm.refl _)))))
  refine GL.call (j := 4) (Put4_calls (ids [.blk p9 [.slice none 0 0] 114, .row none 0 0 5 1 (by8 ([] : List UInt8))]) p9 none 0 0 ([] : List UInt8) v w10 (Hp.startL (A := [.blk p9 [.slice none 0 0] 114, .row none 0 0 5 1 (by8 ([] : List UInt8))]) (B := [.blk p3 [.int .u32 (v : Int), .slice A ins.length ca, .slice B outs.length cb, .int .u32 (lt : Int)] 26]) H19) (by omega)) (by kernel_rfl) rfl (fun e_ w20 hR => ?_)
  obtain ⟨A17, c18, rfl, H22⟩ := hR
  have H21 : Hp w [] [.blk p9 [.slice A17 4 c18] 114, .row A17 4 c18 5 1 (by8 (putB v 4)), .blk p3 [.int .u32 (v : Int), .slice A ins.length ca, .slice B outs.length cb, .int .u32 (lt : Int)] 26] w20 := Hp.callL (A := [.blk p9 [.slice none 0 0] 114, .row none 0 0 5 1 (by8 ([] : List UInt8))]) (B := [.blk p3 [.int .u32 (v : Int), .slice A ins.length ca, .slice B outs.length cb, .int .u32 (lt : Int)] 26]) H19 H22
  refine ⟨_, rfl, [1, 3], [(1, pt p3 0), (3, pt p9 0)], by kernel_rfl, ?_⟩
  refine GL.k rfl hK14 (fun _ _ h => h) ?_
  refine G.seqK fun K23 hK24 => ?_
  refine G.region ?_
  refine GL.run (j := 1) 1 [1, 3, 12] [(1, pt p3 0), (3, pt p9 0), (12, pt p3 1)] (by kernel_rfl) rfl ?_
  refine GL.sem (j := 2) (H21.ld (o := 1) (ty := 23) (v := .slice A ins.length ca) 2 rfl (by kernel_rfl) rfl) [1, 3, 13] [(1, pt p3 0), (3, pt p9 0), (13, .slice A ins.length ca)] (by kernel_rfl) (by kernel_rfl) rfl ?_
  refine GL.run (j := 4) 2 [1, 3, 15] [(1, pt p3 0), (3, pt p9 0), (15, .int .u64 (IntKind.u64.wrap (ins.length : Int)))] (by kernel_rfl) rfl ?_
  have e25 : (IntKind.u64.wrap (ins.length : Int)) = (ins.length : Int) := in_u64 (by omega)
  refine GL.eq (M' := [(1, pt p3 0), (3, pt p9 0), (15, .int .u64 (ins.length : Int))]) (by rw [e25]) ?_
  clear e25
  have hcA26 := cntSz_le ins.length
  refine GL.call (j := 5) (WCount_calls (ids [.blk p9 [.slice A17 4 c18] 114, .row A17 4 c18 5 1 (by8 (putB v 4))]) p9 A17 4 c18 (putB v 4) ins.length w20 (Hp.startL (A := [.blk p9 [.slice A17 4 c18] 114, .row A17 4 c18 5 1 (by8 (putB v 4))]) (B := [.blk p3 [.int .u32 (v : Int), .slice A ins.length ca, .slice B outs.length cb, .int .u32 (lt : Int)] 26]) H21) (by omega)) (by kernel_rfl) rfl (fun e_ w28 hR => ?_)
  obtain ⟨A26, c27, rfl, H30⟩ := hR
  have H29 : Hp w [] [.blk p9 [.slice A26 (4 + cntSz ins.length) c27] 114, .row A26 (4 + cntSz ins.length) c27 5 1 (by8 ((putB v 4) ++ cnt ins.length)), .blk p3 [.int .u32 (v : Int), .slice A ins.length ca, .slice B outs.length cb, .int .u32 (lt : Int)] 26] w28 := Hp.callL (A := [.blk p9 [.slice A17 4 c18] 114, .row A17 4 c18 5 1 (by8 (putB v 4))]) (B := [.blk p3 [.int .u32 (v : Int), .slice A ins.length ca, .slice B outs.length cb, .int .u32 (lt : Int)] 26]) H21 H30
  refine ⟨_, rfl, [1, 3], [(1, pt p3 0), (3, pt p9 0)], by kernel_rfl, ?_⟩
  refine GL.k rfl hK24 (fun _ _ h => h) ?_
  refine G.seqK fun K31 hK32 => ?_
  refine G.seqK fun K33 hK34 => ?_
  refine G.region ?_
  refine GL.run (j := 1) 1 [1, 3, 17] [(1, pt p3 0), (3, pt p9 0), (17, pt p3 1)] (by kernel_rfl) rfl ?_
  refine GL.sem (j := 2) (H29.ld (o := 1) (ty := 23) (v := .slice A ins.length ca) 2 rfl (by kernel_rfl) rfl) [1, 3, 18] [(1, pt p3 0), (3, pt p9 0), (18, .slice A ins.length ca)] (by kernel_rfl) (by kernel_rfl) rfl ?_
  refine GL.run (j := 4) 2 [1, 3, 18, 19, 20] [(1, pt p3 0), (3, pt p9 0), (18, .slice A ins.length ca), (19, .int .i64 (ins.length : Int)), (20, .int .i64 0)] (by kernel_rfl) rfl ?_
  refine GL.k rfl hK34 (fun _ _ h => h) ?_
  refine G.block ?_
  refine G.fit [1, 3, 18, 19, 20] (M' := [(1, pt p3 0), (3, pt p9 0), (18, .slice A ins.length ca), (19, .int .i64 (ins.length : Int)), (20, .int .i64 0)]) (by kernel_rfl) ?_
  refine G.loop (X := Nat × Option Addr × Nat × Nat × List UInt8) (fun ⟨i, A_i, c_i, m_i, b_i⟩ => [(1, pt p3 0), (3, pt p9 0), (18, .slice A ins.length ca), (19, .int .i64 (ins.length : Int)), (20, .int .i64 (i : Int))]) (fun ⟨i, A_i, c_i, m_i, b_i⟩ w_ => (i ≤ ins.length ∧ b_i = ((putB v 4) ++ cnt ins.length) ++ insB (ins.take i) ∧ m_i ≤ (4 + cntSz ins.length) + 600 * i) ∧ Hp w [] [.blk p9 [.slice A_i m_i c_i] 114, .row A_i m_i c_i 5 1 (by8 b_i), .blk p3 [.int .u32 (v : Int), .slice A ins.length ca, .slice B outs.length cb, .int .u32 (lt : Int)] 26] w_) (fun ⟨i, A_i, c_i, m_i, b_i⟩ => ins.length - i) ⟨0, A26, c27, (4 + cntSz ins.length), ((putB v 4) ++ cnt ins.length)⟩ [1, 3, 18, 19, 20] (by kernel_rfl) ⟨⟨Nat.zero_le _, by rw [List.take_zero]; exact (List.append_nil _).symm, by omega⟩, H29⟩ ?_
  rintro ⟨i, A_i, c_i, m_i, b_i⟩ w36 ⟨hi37, H38⟩
  refine G.eq (M' := [(1, pt p3 0), (3, pt p9 0), (18, .slice A ins.length ca), (19, .int .i64 (ins.length : Int)), (20, .int .i64 (i : Int))]) rfl ?_
  have H38 : Hp w [] [.blk p9 [.slice A_i m_i c_i] 114, .row A_i m_i c_i 5 1 (by8 b_i), .blk p3 [.int .u32 (v : Int), .slice A ins.length ca, .slice B outs.length cb, .int .u32 (lt : Int)] 26] w36 := H38
  obtain ⟨hil, hbi, hmi⟩ := hi37
  refine G.seqK fun K39 hK40 => ?_
  refine G.region ?_
  refine GL.run (j := 1) 1 [1, 3, 18, 19, 20, 21] [(1, pt p3 0), (3, pt p9 0), (18, .slice A ins.length ca), (19, .int .i64 (ins.length : Int)), (20, .int .i64 (i : Int)), (21, .bool (decide ((i : Int) < (ins.length : Int))))] (by kernel_rfl) rfl ?_
  refine GL.k rfl hK40 (fun _ _ h => h) ?_
  refine G.seqK fun K41 hK42 => ?_
  cases hb43 : (decide ((i : Int) < (ins.length : Int)))
  · skip
    have hb43f := of_decide_eq_false hb43
    refine G.no rfl ?_
    refine G.exitK hK32 (fun _ _ h => h) ?_
    refine G.seqK fun K44 hK45 => ?_
    refine G.region ?_
    refine GL.run (j := 1) 1 [1, 3, 39] [(1, pt p3 0), (3, pt p9 0), (39, pt p3 2)] (by kernel_rfl) rfl ?_
    refine GL.sem (j := 2) (H38.ld (o := 2) (ty := 24) (v := .slice B outs.length cb) 2 rfl (by kernel_rfl) rfl) [1, 3, 40] [(1, pt p3 0), (3, pt p9 0), (40, .slice B outs.length cb)] (by kernel_rfl) (by kernel_rfl) rfl ?_
    refine GL.run (j := 4) 2 [1, 3, 42] [(1, pt p3 0), (3, pt p9 0), (42, .int .u64 (IntKind.u64.wrap (outs.length : Int)))] (by kernel_rfl) rfl ?_
    have e46 : (IntKind.u64.wrap (outs.length : Int)) = (outs.length : Int) := in_u64 (by omega)
    refine GL.eq (M' := [(1, pt p3 0), (3, pt p9 0), (42, .int .u64 (outs.length : Int))]) (by rw [e46]) ?_
    clear e46
    have hcA47 := cntSz_le outs.length
    refine GL.call (j := 5) (WCount_calls (ids [.blk p9 [.slice A_i m_i c_i] 114, .row A_i m_i c_i 5 1 (by8 b_i)]) p9 A_i m_i c_i b_i outs.length w36 (Hp.startL (A := [.blk p9 [.slice A_i m_i c_i] 114, .row A_i m_i c_i 5 1 (by8 b_i)]) (B := [.blk p3 [.int .u32 (v : Int), .slice A ins.length ca, .slice B outs.length cb, .int .u32 (lt : Int)] 26]) H38) (by omega)) (by kernel_rfl) rfl (fun e_ w49 hR => ?_)
    obtain ⟨A47, c48, rfl, H51⟩ := hR
    have H50 : Hp w [] [.blk p9 [.slice A47 (m_i + cntSz outs.length) c48] 114, .row A47 (m_i + cntSz outs.length) c48 5 1 (by8 (b_i ++ cnt outs.length)), .blk p3 [.int .u32 (v : Int), .slice A ins.length ca, .slice B outs.length cb, .int .u32 (lt : Int)] 26] w49 := Hp.callL (A := [.blk p9 [.slice A_i m_i c_i] 114, .row A_i m_i c_i 5 1 (by8 b_i)]) (B := [.blk p3 [.int .u32 (v : Int), .slice A ins.length ca, .slice B outs.length cb, .int .u32 (lt : Int)] 26]) H38 H51
    refine ⟨_, rfl, [1, 3], [(1, pt p3 0), (3, pt p9 0)], by kernel_rfl, ?_⟩
    refine GL.k rfl hK45 (fun _ _ h => h) ?_
    refine G.seqK fun K52 hK53 => ?_
    refine G.seqK fun K54 hK55 => ?_
    refine G.region ?_
    refine GL.run (j := 1) 1 [1, 3, 44] [(1, pt p3 0), (3, pt p9 0), (44, pt p3 2)] (by kernel_rfl) rfl ?_
    refine GL.sem (j := 2) (H50.ld (o := 2) (ty := 24) (v := .slice B outs.length cb) 2 rfl (by kernel_rfl) rfl) [1, 3, 45] [(1, pt p3 0), (3, pt p9 0), (45, .slice B outs.length cb)] (by kernel_rfl) (by kernel_rfl) rfl ?_
    refine GL.run (j := 4) 2 [1, 3, 45, 46, 47] [(1, pt p3 0), (3, pt p9 0), (45, .slice B outs.length cb), (46, .int .i64 (outs.length : Int)), (47, .int .i64 0)] (by kernel_rfl) rfl ?_
    refine GL.k rfl hK55 (fun _ _ h => h) ?_
    refine G.block ?_
    refine G.fit [1, 3, 45, 46, 47] (M' := [(1, pt p3 0), (3, pt p9 0), (45, .slice B outs.length cb), (46, .int .i64 (outs.length : Int)), (47, .int .i64 0)]) (by kernel_rfl) ?_
    refine G.loop (X := Nat × Option Addr × Nat × Nat × List UInt8) (fun ⟨j, A_j, c_j, m_j, b_j⟩ => [(1, pt p3 0), (3, pt p9 0), (45, .slice B outs.length cb), (46, .int .i64 (outs.length : Int)), (47, .int .i64 (j : Int))]) (fun ⟨j, A_j, c_j, m_j, b_j⟩ w_ => (j ≤ outs.length ∧ b_j = (b_i ++ cnt outs.length) ++ outsB (outs.take j) ∧ m_j ≤ (m_i + cntSz outs.length) + 600 * j) ∧ Hp w [] [.blk p9 [.slice A_j m_j c_j] 114, .row A_j m_j c_j 5 1 (by8 b_j), .blk p3 [.int .u32 (v : Int), .slice A ins.length ca, .slice B outs.length cb, .int .u32 (lt : Int)] 26] w_) (fun ⟨j, A_j, c_j, m_j, b_j⟩ => outs.length - j) ⟨0, A47, c48, (m_i + cntSz outs.length), (b_i ++ cnt outs.length)⟩ [1, 3, 45, 46, 47] (by kernel_rfl) ⟨⟨Nat.zero_le _, by rw [List.take_zero]; exact (List.append_nil _).symm, by omega⟩, H50⟩ ?_
    rintro ⟨j, A_j, c_j, m_j, b_j⟩ w57 ⟨hi58, H59⟩
    refine G.eq (M' := [(1, pt p3 0), (3, pt p9 0), (45, .slice B outs.length cb), (46, .int .i64 (outs.length : Int)), (47, .int .i64 (j : Int))]) rfl ?_
    have H59 : Hp w [] [.blk p9 [.slice A_j m_j c_j] 114, .row A_j m_j c_j 5 1 (by8 b_j), .blk p3 [.int .u32 (v : Int), .slice A ins.length ca, .slice B outs.length cb, .int .u32 (lt : Int)] 26] w57 := H59
    obtain ⟨hjl, hbj, hmj⟩ := hi58
    refine G.seqK fun K60 hK61 => ?_
    refine G.region ?_
    refine GL.run (j := 1) 1 [1, 3, 45, 46, 47, 48] [(1, pt p3 0), (3, pt p9 0), (45, .slice B outs.length cb), (46, .int .i64 (outs.length : Int)), (47, .int .i64 (j : Int)), (48, .bool (decide ((j : Int) < (outs.length : Int))))] (by kernel_rfl) rfl ?_
    refine GL.k rfl hK61 (fun _ _ h => h) ?_
    refine G.seqK fun K62 hK63 => ?_
    cases hb64 : (decide ((j : Int) < (outs.length : Int)))
    · skip
      have hb64f := of_decide_eq_false hb64
      refine G.no rfl ?_
      refine G.exitK hK53 (fun _ _ h => h) ?_
      refine G.seqK fun K65 hK66 => ?_
      refine G.region ?_
      refine GL.run (j := 1) 1 [3, 58] [(3, pt p9 0), (58, pt p3 3)] (by kernel_rfl) rfl ?_
      refine GL.sem (j := 2) (H59.ld (o := 3) (ty := 22) (v := .int .u32 (lt : Int)) 2 rfl (by kernel_rfl) rfl) [3, 59] [(3, pt p9 0), (59, .int .u32 (lt : Int))] (by kernel_rfl) (by kernel_rfl) rfl ?_
      refine GL.run (j := 3) 1 [3, 60] [(3, pt p9 0), (60, .int .u64 (IntKind.u64.wrap (lt : Int)))] (by kernel_rfl) rfl ?_
      have e67 : (IntKind.u64.wrap (lt : Int)) = (lt : Int) := in_u64 (by omega)
      refine GL.eq (M' := [(3, pt p9 0), (60, .int .u64 (lt : Int))]) (by rw [e67]) ?_
      clear e67
      refine GL.call (j := 4) (Put4_calls (ids [.blk p9 [.slice A_j m_j c_j] 114, .row A_j m_j c_j 5 1 (by8 b_j)]) p9 A_j m_j c_j b_j lt w57 (Hp.startL (A := [.blk p9 [.slice A_j m_j c_j] 114, .row A_j m_j c_j 5 1 (by8 b_j)]) (B := [.blk p3 [.int .u32 (v : Int), .slice A ins.length ca, .slice B outs.length cb, .int .u32 (lt : Int)] 26]) H59) (by omega)) (by kernel_rfl) rfl (fun e_ w70 hR => ?_)
      obtain ⟨A68, c69, rfl, H72⟩ := hR
      have H71 : Hp w [] [.blk p9 [.slice A68 (m_j + 4) c69] 114, .row A68 (m_j + 4) c69 5 1 (by8 (b_j ++ (putB lt 4))), .blk p3 [.int .u32 (v : Int), .slice A ins.length ca, .slice B outs.length cb, .int .u32 (lt : Int)] 26] w70 := Hp.callL (A := [.blk p9 [.slice A_j m_j c_j] 114, .row A_j m_j c_j 5 1 (by8 b_j)]) (B := [.blk p3 [.int .u32 (v : Int), .slice A ins.length ca, .slice B outs.length cb, .int .u32 (lt : Int)] 26]) H59 H72
      refine ⟨_, rfl, [3], [(3, pt p9 0)], by kernel_rfl, ?_⟩
      refine GL.k rfl hK66 (fun _ _ h => h) ?_
      refine G.seqK fun K73 hK74 => ?_
      refine G.region ?_
      refine GL.call (j := 1) (WBytes_calls (ids [.blk p9 [.slice A68 (m_j + 4) c69] 114, .row A68 (m_j + 4) c69 5 1 (by8 (b_j ++ (putB lt 4)))]) p9 A68 (m_j + 4) c69 (b_j ++ (putB lt 4)) w70 (Hp.startL (A := [.blk p9 [.slice A68 (m_j + 4) c69] 114, .row A68 (m_j + 4) c69 5 1 (by8 (b_j ++ (putB lt 4)))]) (B := [.blk p3 [.int .u32 (v : Int), .slice A ins.length ca, .slice B outs.length cb, .int .u32 (lt : Int)] 26]) H71) (by omega)) (by kernel_rfl) rfl (fun e_ w77 hR => ?_)
      obtain ⟨A75, c76, rfl, H79⟩ := hR
      have H78 : Hp w [] [.blk p9 [.slice A68 (m_j + 4) c69] 114, .row A68 (m_j + 4) c69 5 1 (by8 (b_j ++ (putB lt 4))), .row A75 (m_j + 4) c76 5 1 (by8 (b_j ++ (putB lt 4))), .blk p3 [.int .u32 (v : Int), .slice A ins.length ca, .slice B outs.length cb, .int .u32 (lt : Int)] 26] w77 := Hp.callL (A := [.blk p9 [.slice A68 (m_j + 4) c69] 114, .row A68 (m_j + 4) c69 5 1 (by8 (b_j ++ (putB lt 4)))]) (B := [.blk p3 [.int .u32 (v : Int), .slice A ins.length ca, .slice B outs.length cb, .int .u32 (lt : Int)] 26]) H71 H79
      refine ⟨_, rfl, [62], [(62, .slice A75 (m_j + 4) c76)], by kernel_rfl, ?_⟩
      refine GL.run (j := 2) 1 [2] [(2, .slice A75 (m_j + 4) c76)] (by kernel_rfl) rfl ?_
      refine GL.k rfl hK74 (fun _ _ h => h) ?_
      refine G.ret ?_
      intro F_ hF_ hM_
      refine hRet _ _ (bodyPost_1 rfl (RV.tmp rfl) ?_ F_ hF_ hM_)
      have H80 : Hp w [] [.row A75 (m_j + 4) c76 5 1 (by8 (b_j ++ (putB lt 4)))] w77 := H78.sub (List.Sublist.cons _ (List.Sublist.cons _ (List.Sublist.cons_cons _ (List.Sublist.cons _ (List.Sublist.slnil)))))
      have HF := H80
      have eB : (b_j ++ (putB lt 4)) = txB v ins outs lt := by rw [hbj, hbi, List.take_of_length_le (show ins.length ≤ i by omega), List.take_of_length_le (show outs.length ≤ j by omega)]; simp only [txB, List.append_assoc, List.nil_append]
      rw [eB] at HF
      exact ⟨_, _, _, rfl, HF⟩
    · skip
      have hb64f := of_decide_eq_true hb64
      refine G.yes rfl ?_
      refine G.skipK hK63 (fun _ _ h => h) ?_
      refine G.seqK fun K81 hK82 => ?_
      refine G.block ?_
      refine G.seqK fun K83 hK84 => ?_
      refine G.region ?_
      obtain ⟨x85, hx86⟩ : ∃ x, outs[j]? = some x := ⟨_, List.getElem?_eq_getElem (by omega)⟩
      have hok87 := hO x85 (List.mem_of_getElem? hx86)
      have hpvx85 := hok87.1
      have hllx85 := h5 x85 (List.mem_of_getElem? hx86)
      refine GL.sem (j := 1) (run_idxRdN (P := Try.prog) (k := .i64) (t := 24) (sz := 2) (A := B) (len := outs.length) (cap := cb) (j := j) (by kernel_rfl) rfl (hOuts.hp H59) (outsC_length _) (by decide) (by omega)) [1, 3, 45, 46, 47, 49] [(1, pt p3 0), (3, pt p9 0), (45, .slice B outs.length cb), (46, .int .i64 (outs.length : Int)), (47, .int .i64 (j : Int)), (49, .pointer (Option.map (fun x => Addr.add x (j * 2)) B))] (by kernel_rfl) (by kernel_rfl) rfl ?_
      refine GL.sem (j := 2) (run_ldRdA (P := Try.prog) (ty := 40) (A := B) (o := (j * 2)) (m := 2) (sub := [.int .u64 (x85.pv : Int), .slice x85.B x85.lb.length x85.lc]) (by kernel_rfl) (hOuts.hp H59) (outsC_cut hx86) (rfl) (by decide)) [1, 3, 45, 46, 47, 50] [(1, pt p3 0), (3, pt p9 0), (45, .slice B outs.length cb), (46, .int .i64 (outs.length : Int)), (47, .int .i64 (j : Int)), (50, .agg #[.int .u64 (x85.pv : Int), .slice x85.B x85.lb.length x85.lc])] (by kernel_rfl) (by kernel_rfl) rfl ?_
      obtain ⟨p88, w89, r90, H91⟩ := H59.alloc (P := Try.prog) 40 [.int .u64 0, .slice none 0 0] (by kernel_rfl)
      have H91 : Hp w [] [.blk p9 [.slice A_j m_j c_j] 114, .row A_j m_j c_j 5 1 (by8 b_j), .blk p3 [.int .u32 (v : Int), .slice A ins.length ca, .slice B outs.length cb, .int .u32 (lt : Int)] 26, .blk p88 [.int .u64 0, .slice none 0 0] 40] w89 := H91
      refine GL.sem (j := 3) (r90) [1, 3, 7, 45, 46, 47, 50] [(1, pt p3 0), (3, pt p9 0), (7, pt p88 0), (45, .slice B outs.length cb), (46, .int .i64 (outs.length : Int)), (47, .int .i64 (j : Int)), (50, .agg #[.int .u64 (x85.pv : Int), .slice x85.B x85.lb.length x85.lc])] (by kernel_rfl) (by kernel_rfl) rfl ?_
      obtain ⟨w92, r93, H94⟩ := H91.stA (P := Try.prog) (o := 0) (vs := [.int .u64 (x85.pv : Int), .slice x85.B x85.lb.length x85.lc]) (ty := 40) (m := 2) 3 rfl (by kernel_rfl) rfl (by simp) (by simp [Value.oneCell'])
      have H94 : Hp w [] [.blk p9 [.slice A_j m_j c_j] 114, .row A_j m_j c_j 5 1 (by8 b_j), .blk p3 [.int .u32 (v : Int), .slice A ins.length ca, .slice B outs.length cb, .int .u32 (lt : Int)] 26, .blk p88 [.int .u64 (x85.pv : Int), .slice x85.B x85.lb.length x85.lc] 40] w92 := H94
      refine GL.semU (j := 4) r93 [1, 3, 7, 45, 46, 47] [(1, pt p3 0), (3, pt p9 0), (7, pt p88 0), (45, .slice B outs.length cb), (46, .int .i64 (outs.length : Int)), (47, .int .i64 (j : Int))] (by kernel_rfl) rfl rfl rfl ?_
      refine GL.k rfl hK84 (fun _ _ h => h) ?_
      refine G.seqK fun K95 hK96 => ?_
      refine G.region ?_
      refine GL.run (j := 1) 1 [1, 3, 7, 45, 46, 47, 51] [(1, pt p3 0), (3, pt p9 0), (7, pt p88 0), (45, .slice B outs.length cb), (46, .int .i64 (outs.length : Int)), (47, .int .i64 (j : Int)), (51, pt p88 0)] (by kernel_rfl) rfl ?_
      refine GL.sem (j := 2) (H94.ld (o := 0) (ty := 32) (v := .int .u64 (x85.pv : Int)) 3 rfl (by kernel_rfl) rfl) [1, 3, 7, 45, 46, 47, 52] [(1, pt p3 0), (3, pt p9 0), (7, pt p88 0), (45, .slice B outs.length cb), (46, .int .i64 (outs.length : Int)), (47, .int .i64 (j : Int)), (52, .int .u64 (x85.pv : Int))] (by kernel_rfl) (by kernel_rfl) rfl ?_
      refine GL.call (j := 3) (Put8_calls (ids [.blk p9 [.slice A_j m_j c_j] 114, .row A_j m_j c_j 5 1 (by8 b_j)]) p9 A_j m_j c_j b_j x85.pv w92 (Hp.startL (A := [.blk p9 [.slice A_j m_j c_j] 114, .row A_j m_j c_j 5 1 (by8 b_j)]) (B := [.blk p3 [.int .u32 (v : Int), .slice A ins.length ca, .slice B outs.length cb, .int .u32 (lt : Int)] 26, .blk p88 [.int .u64 (x85.pv : Int), .slice x85.B x85.lb.length x85.lc] 40]) H94) (by omega)) (by kernel_rfl) rfl (fun e_ w99 hR => ?_)
      obtain ⟨A97, c98, rfl, H101⟩ := hR
      have H100 : Hp w [] [.blk p9 [.slice A97 (m_j + 8) c98] 114, .row A97 (m_j + 8) c98 5 1 (by8 (b_j ++ (putB x85.pv 8))), .blk p3 [.int .u32 (v : Int), .slice A ins.length ca, .slice B outs.length cb, .int .u32 (lt : Int)] 26, .blk p88 [.int .u64 (x85.pv : Int), .slice x85.B x85.lb.length x85.lc] 40] w99 := Hp.callL (A := [.blk p9 [.slice A_j m_j c_j] 114, .row A_j m_j c_j 5 1 (by8 b_j)]) (B := [.blk p3 [.int .u32 (v : Int), .slice A ins.length ca, .slice B outs.length cb, .int .u32 (lt : Int)] 26, .blk p88 [.int .u64 (x85.pv : Int), .slice x85.B x85.lb.length x85.lc] 40]) H94 H101
      refine ⟨_, rfl, [1, 3, 7, 45, 46, 47], [(1, pt p3 0), (3, pt p9 0), (7, pt p88 0), (45, .slice B outs.length cb), (46, .int .i64 (outs.length : Int)), (47, .int .i64 (j : Int))], by kernel_rfl, ?_⟩
      refine GL.k rfl hK96 (fun _ _ h => h) ?_
      refine G.region ?_
      refine GL.run (j := 1) 1 [1, 3, 45, 46, 47, 54] [(1, pt p3 0), (3, pt p9 0), (45, .slice B outs.length cb), (46, .int .i64 (outs.length : Int)), (47, .int .i64 (j : Int)), (54, pt p88 1)] (by kernel_rfl) rfl ?_
      refine GL.sem (j := 2) (H100.ld (o := 1) (ty := 38) (v := .slice x85.B x85.lb.length x85.lc) 3 rfl (by kernel_rfl) rfl) [1, 3, 45, 46, 47, 55] [(1, pt p3 0), (3, pt p9 0), (45, .slice B outs.length cb), (46, .int .i64 (outs.length : Int)), (47, .int .i64 (j : Int)), (55, .slice x85.B x85.lb.length x85.lc)] (by kernel_rfl) (by kernel_rfl) rfl ?_
      have hcA102 := cntSz_le x85.lb.length
      refine GL.call (j := 3) (WCounted_calls (ids [.blk p9 [.slice A97 (m_j + 8) c98] 114, .row A97 (m_j + 8) c98 5 1 (by8 (b_j ++ (putB x85.pv 8)))]) p9 A97 (m_j + 8) c98 (b_j ++ (putB x85.pv 8)) x85.B x85.lb.length x85.lc x85.lb w99 (Hp.startL (A := [.blk p9 [.slice A97 (m_j + 8) c98] 114, .row A97 (m_j + 8) c98 5 1 (by8 (b_j ++ (putB x85.pv 8)))]) (B := [.blk p3 [.int .u32 (v : Int), .slice A ins.length ca, .slice B outs.length cb, .int .u32 (lt : Int)] 26, .blk p88 [.int .u64 (x85.pv : Int), .slice x85.B x85.lb.length x85.lc] 40]) H100) (by omega) (RdO.mid (A' := [.blk p9 [.slice A97 (m_j + 8) c98] 114, .row A97 (m_j + 8) c98 5 1 (by8 (b_j ++ (putB x85.pv 8)))]) (B' := [.blk p3 [.int .u32 (v : Int), .slice A ins.length ca, .slice B outs.length cb, .int .u32 (lt : Int)] 26, .blk p88 [.int .u64 (x85.pv : Int), .slice x85.B x85.lb.length x85.lc] 40]) hok87.2.1 H100) (rfl) (by omega)) (by kernel_rfl) rfl (fun e_ w104 hR => ?_)
      obtain ⟨A102, c103, rfl, H106⟩ := hR
      have H105 : Hp w [] [.blk p9 [.slice A102 ((m_j + 8) + (cntSz x85.lb.length + x85.lb.length)) c103] 114, .row A102 ((m_j + 8) + (cntSz x85.lb.length + x85.lb.length)) c103 5 1 (by8 ((b_j ++ (putB x85.pv 8)) ++ (cnt x85.lb.length ++ x85.lb))), .blk p3 [.int .u32 (v : Int), .slice A ins.length ca, .slice B outs.length cb, .int .u32 (lt : Int)] 26, .blk p88 [.int .u64 (x85.pv : Int), .slice x85.B x85.lb.length x85.lc] 40] w104 := Hp.callL (A := [.blk p9 [.slice A97 (m_j + 8) c98] 114, .row A97 (m_j + 8) c98 5 1 (by8 (b_j ++ (putB x85.pv 8)))]) (B := [.blk p3 [.int .u32 (v : Int), .slice A ins.length ca, .slice B outs.length cb, .int .u32 (lt : Int)] 26, .blk p88 [.int .u64 (x85.pv : Int), .slice x85.B x85.lb.length x85.lc] 40]) H100 H106
      refine ⟨_, rfl, [1, 3, 45, 46, 47], [(1, pt p3 0), (3, pt p9 0), (45, .slice B outs.length cb), (46, .int .i64 (outs.length : Int)), (47, .int .i64 (j : Int))], by kernel_rfl, ?_⟩
      refine GL.k rfl hK82 (fun _ _ h => h) ?_
      refine G.region ?_
      refine GL.run (j := 2) 2 [1, 3, 45, 46, 47] [(1, pt p3 0), (3, pt p9 0), (45, .slice B outs.length cb), (46, .int .i64 (outs.length : Int)), (47, .int .i64 (IntKind.i64.wrap ((j : Int) + 1)))] (by kernel_rfl) rfl ?_
      have e107 : (IntKind.i64.wrap ((j : Int) + 1)) = ((j + 1 : Nat) : Int) := by rw [in_i64 (by omega)]; omega
      refine GL.eq (M' := [(1, pt p3 0), (3, pt p9 0), (45, .slice B outs.length cb), (46, .int .i64 (outs.length : Int)), (47, .int .i64 ((j + 1 : Nat) : Int))]) (by rw [e107]) ?_
      clear e107
      have H108 : Hp w [] [.blk p9 [.slice A102 ((m_j + 8) + (cntSz x85.lb.length + x85.lb.length)) c103] 114, .row A102 ((m_j + 8) + (cntSz x85.lb.length + x85.lb.length)) c103 5 1 (by8 ((b_j ++ (putB x85.pv 8)) ++ (cnt x85.lb.length ++ x85.lb))), .blk p3 [.int .u32 (v : Int), .slice A ins.length ca, .slice B outs.length cb, .int .u32 (lt : Int)] 26] w104 := H105.sub (List.Sublist.cons_cons _ (List.Sublist.cons_cons _ (List.Sublist.cons_cons _ (List.Sublist.cons _ (List.Sublist.slnil)))))
      refine GL.fit (ts := [1, 3, 45, 46, 47]) (M' := [(1, pt p3 0), (3, pt p9 0), (45, .slice B outs.length cb), (46, .int .i64 (outs.length : Int)), (47, .int .i64 ((j + 1 : Nat) : Int))]) (by kernel_rfl) ?_
      refine GL.eq (M' := [(1, pt p3 0), (3, pt p9 0), (45, .slice B outs.length cb), (46, .int .i64 (outs.length : Int)), (47, .int .i64 (((j + 1) : Nat) : Int))]) (by rfl) ?_
      exact GL.again ⟨(j + 1), A102, c103, ((m_j + 8) + (cntSz x85.lb.length + x85.lb.length)), ((b_j ++ (putB x85.pv 8)) ++ (cnt x85.lb.length ++ x85.lb))⟩ [1, 3, 45, 46, 47] rfl (by kernel_rfl) (by show outs.length - (j + 1) < outs.length - j; omega) ⟨⟨by omega, by rw [hbj, outsB, outsB, flat_snoc hx86]; simp only [TOut.bytes, List.append_assoc], by omega⟩, H108⟩
  · skip
    have hb43f := of_decide_eq_true hb43
    refine G.yes rfl ?_
    refine G.skipK hK42 (fun _ _ h => h) ?_
    refine G.seqK fun K109 hK110 => ?_
    refine G.block ?_
    refine G.seqK fun K111 hK112 => ?_
    refine G.region ?_
    obtain ⟨x113, hx114⟩ : ∃ x, ins[i]? = some x := ⟨_, List.getElem?_eq_getElem (by omega)⟩
    have hok115 := hI x113 (List.mem_of_getElem? hx114)
    have hfrx113 := hok115.1
    have hixx113 := hok115.2.1
    have hsqx113 := hok115.2.2.1
    have hklx113 := h4 x113 (List.mem_of_getElem? hx114)
    refine GL.sem (j := 1) (run_idxRdN (P := Try.prog) (k := .i64) (t := 23) (sz := 35) (A := A) (len := ins.length) (cap := ca) (j := i) (by kernel_rfl) rfl (hIns.hp H38) (insC_length (fun x_ h_ => (hI x_ h_).1)) (by decide) (by omega)) [1, 3, 18, 19, 20, 22] [(1, pt p3 0), (3, pt p9 0), (18, .slice A ins.length ca), (19, .int .i64 (ins.length : Int)), (20, .int .i64 (i : Int)), (22, .pointer (Option.map (fun x => Addr.add x (i * 35)) A))] (by kernel_rfl) (by kernel_rfl) rfl ?_
    refine GL.sem (j := 2) (run_ldRdA (P := Try.prog) (ty := 53) (A := A) (o := (i * 35)) (m := 35) (sub := x113.cells) (by kernel_rfl) (hIns.hp H38) (insC_cut (fun x_ h_ => (hI x_ h_).1) hx114) (TIn.cells_length hok115.1) (by decide)) [1, 3, 18, 19, 20, 23] [(1, pt p3 0), (3, pt p9 0), (18, .slice A ins.length ca), (19, .int .i64 (ins.length : Int)), (20, .int .i64 (i : Int)), (23, .agg (x113.cells).toArray)] (by kernel_rfl) (by kernel_rfl) rfl ?_
    obtain ⟨p116, w117, r118, H119⟩ := H38.alloc (P := Try.prog) 53 (TIn.nil.cells) (by kernel_rfl)
    have H119 : Hp w [] [.blk p9 [.slice A_i m_i c_i] 114, .row A_i m_i c_i 5 1 (by8 b_i), .blk p3 [.int .u32 (v : Int), .slice A ins.length ca, .slice B outs.length cb, .int .u32 (lt : Int)] 26, .blk p116 (TIn.nil.cells) 53] w117 := H119
    refine GL.sem (j := 3) (r118) [1, 3, 5, 18, 19, 20, 23] [(1, pt p3 0), (3, pt p9 0), (5, pt p116 0), (18, .slice A ins.length ca), (19, .int .i64 (ins.length : Int)), (20, .int .i64 (i : Int)), (23, .agg (x113.cells).toArray)] (by kernel_rfl) (by kernel_rfl) rfl ?_
    obtain ⟨w120, r121, H122⟩ := H119.stA (P := Try.prog) (o := 0) (vs := x113.cells) (ty := 53) (m := 35) 3 rfl (by kernel_rfl) (TIn.cells_length hok115.1) (by rw [Nat.zero_add, TIn.cells_length rfl]; exact Nat.le_refl _) TIn.cells_one
    rw [tx_whole (TIn.cells_length rfl)] at H122
    have H122 : Hp w [] [.blk p9 [.slice A_i m_i c_i] 114, .row A_i m_i c_i 5 1 (by8 b_i), .blk p3 [.int .u32 (v : Int), .slice A ins.length ca, .slice B outs.length cb, .int .u32 (lt : Int)] 26, .blk p116 (x113.cells) 53] w120 := H122
    refine GL.semU (j := 4) r121 [1, 3, 5, 18, 19, 20] [(1, pt p3 0), (3, pt p9 0), (5, pt p116 0), (18, .slice A ins.length ca), (19, .int .i64 (ins.length : Int)), (20, .int .i64 (i : Int))] (by kernel_rfl) rfl rfl rfl ?_
    refine GL.k rfl hK112 (fun _ _ h => h) ?_
    refine G.seqK fun K123 hK124 => ?_
    refine G.region ?_
    refine GL.run (j := 2) 2 [1, 3, 5, 18, 19, 20, 25] [(1, pt p3 0), (3, pt p9 0), (5, pt p116 0), (18, .slice A ins.length ca), (19, .int .i64 (ins.length : Int)), (20, .int .i64 (i : Int)), (25, .slice (some ⟨p116, 0, none⟩) 32 32)] (by kernel_rfl) rfl ?_
    refine GL.call (j := 3) (WRaw_calls (ids [.blk p9 [.slice A_i m_i c_i] 114, .row A_i m_i c_i 5 1 (by8 b_i)]) p9 A_i m_i c_i b_i (some ⟨p116, 0, none⟩) 32 32 x113.fr w120 (Hp.startL (A := [.blk p9 [.slice A_i m_i c_i] 114, .row A_i m_i c_i 5 1 (by8 b_i)]) (B := [.blk p3 [.int .u32 (v : Int), .slice A ins.length ca, .slice B outs.length cb, .int .u32 (lt : Int)] 26, .blk p116 (x113.cells) 53]) H122) (by omega) (RdO.blk (A' := [.blk p9 [.slice A_i m_i c_i] 114, .row A_i m_i c_i 5 1 (by8 b_i)]) (B' := [.blk p3 [.int .u32 (v : Int), .slice A ins.length ca, .slice B outs.length cb, .int .u32 (lt : Int)] 26, .blk p116 (x113.cells) 53]) H122 1 32 rfl (TIn.cells_fr hok115.1)) (by first | rfl | omega | (simp only [List.length_cons, List.length_nil, List.length_drop, List.length_take, List.length_append] <;> omega)) (by omega)) (by kernel_rfl) rfl (fun e_ w127 hR => ?_)
    obtain ⟨A125, c126, rfl, H129⟩ := hR
    have H128 : Hp w [] [.blk p9 [.slice A125 (m_i + 32) c126] 114, .row A125 (m_i + 32) c126 5 1 (by8 (b_i ++ x113.fr)), .blk p3 [.int .u32 (v : Int), .slice A ins.length ca, .slice B outs.length cb, .int .u32 (lt : Int)] 26, .blk p116 (x113.cells) 53] w127 := Hp.callL (A := [.blk p9 [.slice A_i m_i c_i] 114, .row A_i m_i c_i 5 1 (by8 b_i)]) (B := [.blk p3 [.int .u32 (v : Int), .slice A ins.length ca, .slice B outs.length cb, .int .u32 (lt : Int)] 26, .blk p116 (x113.cells) 53]) H122 H129
    refine ⟨_, rfl, [1, 3, 5, 18, 19, 20], [(1, pt p3 0), (3, pt p9 0), (5, pt p116 0), (18, .slice A ins.length ca), (19, .int .i64 (ins.length : Int)), (20, .int .i64 (i : Int))], by kernel_rfl, ?_⟩
    refine GL.k rfl hK124 (fun _ _ h => h) ?_
    refine G.seqK fun K130 hK131 => ?_
    refine G.region ?_
    refine GL.run (j := 1) 1 [1, 3, 5, 18, 19, 20, 27] [(1, pt p3 0), (3, pt p9 0), (5, pt p116 0), (18, .slice A ins.length ca), (19, .int .i64 (ins.length : Int)), (20, .int .i64 (i : Int)), (27, pt p116 32)] (by kernel_rfl) rfl ?_
    refine GL.sem (j := 2) (H128.ld (o := 32) (ty := 22) (v := .int .u32 (x113.ix : Int)) 3 rfl (by kernel_rfl) (TIn.cells_ix hok115.1)) [1, 3, 5, 18, 19, 20, 28] [(1, pt p3 0), (3, pt p9 0), (5, pt p116 0), (18, .slice A ins.length ca), (19, .int .i64 (ins.length : Int)), (20, .int .i64 (i : Int)), (28, .int .u32 (x113.ix : Int))] (by kernel_rfl) (by kernel_rfl) rfl ?_
    refine GL.run (j := 3) 1 [1, 3, 5, 18, 19, 20, 29] [(1, pt p3 0), (3, pt p9 0), (5, pt p116 0), (18, .slice A ins.length ca), (19, .int .i64 (ins.length : Int)), (20, .int .i64 (i : Int)), (29, .int .u64 (IntKind.u64.wrap (x113.ix : Int)))] (by kernel_rfl) rfl ?_
    have e132 : (IntKind.u64.wrap (x113.ix : Int)) = (x113.ix : Int) := in_u64 (by omega)
    refine GL.eq (M' := [(1, pt p3 0), (3, pt p9 0), (5, pt p116 0), (18, .slice A ins.length ca), (19, .int .i64 (ins.length : Int)), (20, .int .i64 (i : Int)), (29, .int .u64 (x113.ix : Int))]) (by rw [e132]) ?_
    clear e132
    refine GL.call (j := 4) (Put4_calls (ids [.blk p9 [.slice A125 (m_i + 32) c126] 114, .row A125 (m_i + 32) c126 5 1 (by8 (b_i ++ x113.fr))]) p9 A125 (m_i + 32) c126 (b_i ++ x113.fr) x113.ix w127 (Hp.startL (A := [.blk p9 [.slice A125 (m_i + 32) c126] 114, .row A125 (m_i + 32) c126 5 1 (by8 (b_i ++ x113.fr))]) (B := [.blk p3 [.int .u32 (v : Int), .slice A ins.length ca, .slice B outs.length cb, .int .u32 (lt : Int)] 26, .blk p116 (x113.cells) 53]) H128) (by omega)) (by kernel_rfl) rfl (fun e_ w135 hR => ?_)
    obtain ⟨A133, c134, rfl, H137⟩ := hR
    have H136 : Hp w [] [.blk p9 [.slice A133 ((m_i + 32) + 4) c134] 114, .row A133 ((m_i + 32) + 4) c134 5 1 (by8 ((b_i ++ x113.fr) ++ (putB x113.ix 4))), .blk p3 [.int .u32 (v : Int), .slice A ins.length ca, .slice B outs.length cb, .int .u32 (lt : Int)] 26, .blk p116 (x113.cells) 53] w135 := Hp.callL (A := [.blk p9 [.slice A125 (m_i + 32) c126] 114, .row A125 (m_i + 32) c126 5 1 (by8 (b_i ++ x113.fr))]) (B := [.blk p3 [.int .u32 (v : Int), .slice A ins.length ca, .slice B outs.length cb, .int .u32 (lt : Int)] 26, .blk p116 (x113.cells) 53]) H128 H137
    refine ⟨_, rfl, [1, 3, 5, 18, 19, 20], [(1, pt p3 0), (3, pt p9 0), (5, pt p116 0), (18, .slice A ins.length ca), (19, .int .i64 (ins.length : Int)), (20, .int .i64 (i : Int))], by kernel_rfl, ?_⟩
    refine GL.k rfl hK131 (fun _ _ h => h) ?_
    refine G.seqK fun K138 hK139 => ?_
    refine G.region ?_
    refine GL.run (j := 1) 1 [1, 3, 5, 18, 19, 20, 31] [(1, pt p3 0), (3, pt p9 0), (5, pt p116 0), (18, .slice A ins.length ca), (19, .int .i64 (ins.length : Int)), (20, .int .i64 (i : Int)), (31, pt p116 33)] (by kernel_rfl) rfl ?_
    refine GL.sem (j := 2) (H136.ld (o := 33) (ty := 38) (v := .slice x113.B x113.kb.length x113.kc) 3 rfl (by kernel_rfl) (TIn.cells_key hok115.1)) [1, 3, 5, 18, 19, 20, 32] [(1, pt p3 0), (3, pt p9 0), (5, pt p116 0), (18, .slice A ins.length ca), (19, .int .i64 (ins.length : Int)), (20, .int .i64 (i : Int)), (32, .slice x113.B x113.kb.length x113.kc)] (by kernel_rfl) (by kernel_rfl) rfl ?_
    have hcA140 := cntSz_le x113.kb.length
    refine GL.call (j := 3) (WCounted_calls (ids [.blk p9 [.slice A133 ((m_i + 32) + 4) c134] 114, .row A133 ((m_i + 32) + 4) c134 5 1 (by8 ((b_i ++ x113.fr) ++ (putB x113.ix 4)))]) p9 A133 ((m_i + 32) + 4) c134 ((b_i ++ x113.fr) ++ (putB x113.ix 4)) x113.B x113.kb.length x113.kc x113.kb w135 (Hp.startL (A := [.blk p9 [.slice A133 ((m_i + 32) + 4) c134] 114, .row A133 ((m_i + 32) + 4) c134 5 1 (by8 ((b_i ++ x113.fr) ++ (putB x113.ix 4)))]) (B := [.blk p3 [.int .u32 (v : Int), .slice A ins.length ca, .slice B outs.length cb, .int .u32 (lt : Int)] 26, .blk p116 (x113.cells) 53]) H136) (by omega) (RdO.mid (A' := [.blk p9 [.slice A133 ((m_i + 32) + 4) c134] 114, .row A133 ((m_i + 32) + 4) c134 5 1 (by8 ((b_i ++ x113.fr) ++ (putB x113.ix 4)))]) (B' := [.blk p3 [.int .u32 (v : Int), .slice A ins.length ca, .slice B outs.length cb, .int .u32 (lt : Int)] 26, .blk p116 (x113.cells) 53]) hok115.2.2.2.1 H136) (rfl) (by omega)) (by kernel_rfl) rfl (fun e_ w142 hR => ?_)
    obtain ⟨A140, c141, rfl, H144⟩ := hR
    have H143 : Hp w [] [.blk p9 [.slice A140 (((m_i + 32) + 4) + (cntSz x113.kb.length + x113.kb.length)) c141] 114, .row A140 (((m_i + 32) + 4) + (cntSz x113.kb.length + x113.kb.length)) c141 5 1 (by8 (((b_i ++ x113.fr) ++ (putB x113.ix 4)) ++ (cnt x113.kb.length ++ x113.kb))), .blk p3 [.int .u32 (v : Int), .slice A ins.length ca, .slice B outs.length cb, .int .u32 (lt : Int)] 26, .blk p116 (x113.cells) 53] w142 := Hp.callL (A := [.blk p9 [.slice A133 ((m_i + 32) + 4) c134] 114, .row A133 ((m_i + 32) + 4) c134 5 1 (by8 ((b_i ++ x113.fr) ++ (putB x113.ix 4)))]) (B := [.blk p3 [.int .u32 (v : Int), .slice A ins.length ca, .slice B outs.length cb, .int .u32 (lt : Int)] 26, .blk p116 (x113.cells) 53]) H136 H144
    refine ⟨_, rfl, [1, 3, 5, 18, 19, 20], [(1, pt p3 0), (3, pt p9 0), (5, pt p116 0), (18, .slice A ins.length ca), (19, .int .i64 (ins.length : Int)), (20, .int .i64 (i : Int))], by kernel_rfl, ?_⟩
    refine GL.k rfl hK139 (fun _ _ h => h) ?_
    refine G.region ?_
    refine GL.run (j := 1) 1 [1, 3, 18, 19, 20, 34] [(1, pt p3 0), (3, pt p9 0), (18, .slice A ins.length ca), (19, .int .i64 (ins.length : Int)), (20, .int .i64 (i : Int)), (34, pt p116 34)] (by kernel_rfl) rfl ?_
    refine GL.sem (j := 2) (H143.ld (o := 34) (ty := 22) (v := .int .u32 (x113.sq : Int)) 3 rfl (by kernel_rfl) (TIn.cells_sq hok115.1)) [1, 3, 18, 19, 20, 35] [(1, pt p3 0), (3, pt p9 0), (18, .slice A ins.length ca), (19, .int .i64 (ins.length : Int)), (20, .int .i64 (i : Int)), (35, .int .u32 (x113.sq : Int))] (by kernel_rfl) (by kernel_rfl) rfl ?_
    refine GL.run (j := 3) 1 [1, 3, 18, 19, 20, 36] [(1, pt p3 0), (3, pt p9 0), (18, .slice A ins.length ca), (19, .int .i64 (ins.length : Int)), (20, .int .i64 (i : Int)), (36, .int .u64 (IntKind.u64.wrap (x113.sq : Int)))] (by kernel_rfl) rfl ?_
    have e145 : (IntKind.u64.wrap (x113.sq : Int)) = (x113.sq : Int) := in_u64 (by omega)
    refine GL.eq (M' := [(1, pt p3 0), (3, pt p9 0), (18, .slice A ins.length ca), (19, .int .i64 (ins.length : Int)), (20, .int .i64 (i : Int)), (36, .int .u64 (x113.sq : Int))]) (by rw [e145]) ?_
    clear e145
    refine GL.call (j := 4) (Put4_calls (ids [.blk p9 [.slice A140 (((m_i + 32) + 4) + (cntSz x113.kb.length + x113.kb.length)) c141] 114, .row A140 (((m_i + 32) + 4) + (cntSz x113.kb.length + x113.kb.length)) c141 5 1 (by8 (((b_i ++ x113.fr) ++ (putB x113.ix 4)) ++ (cnt x113.kb.length ++ x113.kb)))]) p9 A140 (((m_i + 32) + 4) + (cntSz x113.kb.length + x113.kb.length)) c141 (((b_i ++ x113.fr) ++ (putB x113.ix 4)) ++ (cnt x113.kb.length ++ x113.kb)) x113.sq w142 (Hp.startL (A := [.blk p9 [.slice A140 (((m_i + 32) + 4) + (cntSz x113.kb.length + x113.kb.length)) c141] 114, .row A140 (((m_i + 32) + 4) + (cntSz x113.kb.length + x113.kb.length)) c141 5 1 (by8 (((b_i ++ x113.fr) ++ (putB x113.ix 4)) ++ (cnt x113.kb.length ++ x113.kb)))]) (B := [.blk p3 [.int .u32 (v : Int), .slice A ins.length ca, .slice B outs.length cb, .int .u32 (lt : Int)] 26, .blk p116 (x113.cells) 53]) H143) (by omega)) (by kernel_rfl) rfl (fun e_ w148 hR => ?_)
    obtain ⟨A146, c147, rfl, H150⟩ := hR
    have H149 : Hp w [] [.blk p9 [.slice A146 ((((m_i + 32) + 4) + (cntSz x113.kb.length + x113.kb.length)) + 4) c147] 114, .row A146 ((((m_i + 32) + 4) + (cntSz x113.kb.length + x113.kb.length)) + 4) c147 5 1 (by8 ((((b_i ++ x113.fr) ++ (putB x113.ix 4)) ++ (cnt x113.kb.length ++ x113.kb)) ++ (putB x113.sq 4))), .blk p3 [.int .u32 (v : Int), .slice A ins.length ca, .slice B outs.length cb, .int .u32 (lt : Int)] 26, .blk p116 (x113.cells) 53] w148 := Hp.callL (A := [.blk p9 [.slice A140 (((m_i + 32) + 4) + (cntSz x113.kb.length + x113.kb.length)) c141] 114, .row A140 (((m_i + 32) + 4) + (cntSz x113.kb.length + x113.kb.length)) c141 5 1 (by8 (((b_i ++ x113.fr) ++ (putB x113.ix 4)) ++ (cnt x113.kb.length ++ x113.kb)))]) (B := [.blk p3 [.int .u32 (v : Int), .slice A ins.length ca, .slice B outs.length cb, .int .u32 (lt : Int)] 26, .blk p116 (x113.cells) 53]) H143 H150
    refine ⟨_, rfl, [1, 3, 18, 19, 20], [(1, pt p3 0), (3, pt p9 0), (18, .slice A ins.length ca), (19, .int .i64 (ins.length : Int)), (20, .int .i64 (i : Int))], by kernel_rfl, ?_⟩
    refine GL.k rfl hK110 (fun _ _ h => h) ?_
    refine G.region ?_
    refine GL.run (j := 2) 2 [1, 3, 18, 19, 20] [(1, pt p3 0), (3, pt p9 0), (18, .slice A ins.length ca), (19, .int .i64 (ins.length : Int)), (20, .int .i64 (IntKind.i64.wrap ((i : Int) + 1)))] (by kernel_rfl) rfl ?_
    have e151 : (IntKind.i64.wrap ((i : Int) + 1)) = ((i + 1 : Nat) : Int) := by rw [in_i64 (by omega)]; omega
    refine GL.eq (M' := [(1, pt p3 0), (3, pt p9 0), (18, .slice A ins.length ca), (19, .int .i64 (ins.length : Int)), (20, .int .i64 ((i + 1 : Nat) : Int))]) (by rw [e151]) ?_
    clear e151
    have H152 : Hp w [] [.blk p9 [.slice A146 ((((m_i + 32) + 4) + (cntSz x113.kb.length + x113.kb.length)) + 4) c147] 114, .row A146 ((((m_i + 32) + 4) + (cntSz x113.kb.length + x113.kb.length)) + 4) c147 5 1 (by8 ((((b_i ++ x113.fr) ++ (putB x113.ix 4)) ++ (cnt x113.kb.length ++ x113.kb)) ++ (putB x113.sq 4))), .blk p3 [.int .u32 (v : Int), .slice A ins.length ca, .slice B outs.length cb, .int .u32 (lt : Int)] 26] w148 := H149.sub (List.Sublist.cons_cons _ (List.Sublist.cons_cons _ (List.Sublist.cons_cons _ (List.Sublist.cons _ (List.Sublist.slnil)))))
    refine GL.fit (ts := [1, 3, 18, 19, 20]) (M' := [(1, pt p3 0), (3, pt p9 0), (18, .slice A ins.length ca), (19, .int .i64 (ins.length : Int)), (20, .int .i64 ((i + 1 : Nat) : Int))]) (by kernel_rfl) ?_
    refine GL.eq (M' := [(1, pt p3 0), (3, pt p9 0), (18, .slice A ins.length ca), (19, .int .i64 (ins.length : Int)), (20, .int .i64 (((i + 1) : Nat) : Int))]) (by rfl) ?_
    exact GL.again ⟨(i + 1), A146, c147, ((((m_i + 32) + 4) + (cntSz x113.kb.length + x113.kb.length)) + 4), ((((b_i ++ x113.fr) ++ (putB x113.ix 4)) ++ (cnt x113.kb.length ++ x113.kb)) ++ (putB x113.sq 4))⟩ [1, 3, 18, 19, 20] rfl (by kernel_rfl) (by show ins.length - (i + 1) < ins.length - i; omega) ⟨⟨by omega, by rw [hbi, insB, insB, flat_snoc hx114]; simp only [TIn.bytes, List.append_assoc], by omega⟩, H152⟩
end Go.Proofs.Ytcedmbdahbdmaaa
set_option maxRecDepth 100000
namespace Go.Proofs.Ytcedmbdahbdmaaa
open Go.RowKit
theorem Right_calls (a : Nat) (w : World) : Calls Try.prog 31 #[.int .u64 (a : Int)] w fun e w' => e = .returned (.bool (decide (a ≤ 4611686018427387904))) ∧ Hp w [] [] w' := by
  refine calls_G (args := [.int .u64 (a : Int)]) Try.func31 rfl Try.ntmps31 rfl ?_
  intro Q0 hRet hNor hPan
  have H := Hp.start w
  have H : Hp w [] [] w := H
  refine G.seqK fun K1 hK2 => ?_
  refine G.region ?_
  refine GL.run (j := 1) 1 [0] [(0, .int .u64 (a : Int))] (by kernel_rfl) rfl ?_
  refine GL.k rfl hK2 (fun _ _ h => h) ?_
  refine G.seqK fun K3 hK4 => ?_
  refine G.region ?_
  refine GL.run (j := 3) 3 [2] [(2, .bool (decide ((a : Int) ≤ 4611686018427387904)))] (by kernel_rfl) rfl ?_
  refine GL.k rfl hK4 (fun _ _ h => h) ?_
  refine G.ret ?_
  intro F_ hF_ hM_
  refine hRet _ _ (bodyPost_1 rfl (RV.tmp rfl) ?_ F_ hF_ hM_)
  have e0 : ((decide ((a : Int) ≤ 4611686018427387904)) : Bool) = decide (a ≤ 4611686018427387904) := by
    rw [Bool.eq_iff_iff]; simp only [decide_eq_true_eq]; omega
  rw [e0]
  exact ⟨rfl, H.sub (List.nil_sublist _)⟩
theorem Bytes1_calls (x : TOut) (w : World) : Calls Try.prog 50 #[.agg #[.int .u64 (x.pv : Int), .slice x.B x.lb.length x.lc]] w fun e w' => e = .returned (.bool (decide (4611686018427387904 < x.pv))) ∧ Hp w [] [] w' := by
  refine calls_G (args := [.agg #[.int .u64 (x.pv : Int), .slice x.B x.lb.length x.lc]]) Try.func50 rfl Try.ntmps50 rfl ?_
  intro Q0 hRet hNor hPan
  have H := Hp.start w
  have H : Hp w [] [] w := H
  refine G.seqK fun K1 hK2 => ?_
  refine G.region ?_
  obtain ⟨p3, w4, r5, H6⟩ := H.box (P := Try.prog) 40 [.int .u64 (x.pv : Int), .slice x.B x.lb.length x.lc] (.agg #[.int .u64 (x.pv : Int), .slice x.B x.lb.length x.lc]) rfl
  have H6 : Hp w [] [.blk p3 [.int .u64 (x.pv : Int), .slice x.B x.lb.length x.lc] 40] w4 := H6
  refine GL.sem (j := 1) (r5) [1] [(1, pt p3 0)] (by kernel_rfl) (by kernel_rfl) rfl ?_
  refine GL.run (j := 2) 1 [1] [(1, pt p3 0)] (by kernel_rfl) rfl ?_
  refine GL.k rfl hK2 (fun _ _ h => h) ?_
  refine G.seqK fun K7 hK8 => ?_
  refine G.region ?_
  refine GL.run (j := 1) 1 [3] [(3, pt p3 0)] (by kernel_rfl) rfl ?_
  refine GL.sem (j := 2) (H6.ld (o := 0) (ty := 32) (v := .int .u64 (x.pv : Int)) 0 rfl (by kernel_rfl) rfl) [4] [(4, .int .u64 (x.pv : Int))] (by kernel_rfl) (by kernel_rfl) rfl ?_
  refine GL.call (j := 3) (Right_calls x.pv w4) (by kernel_rfl) rfl (fun e_ w9 hR => ?_)
  obtain ⟨rfl, H11⟩ := hR
  have H10 : Hp w [] [.blk p3 [.int .u64 (x.pv : Int), .slice x.B x.lb.length x.lc] 40] w9 := H6.callNil H11
  refine ⟨_, rfl, [5], [(5, .bool (decide (x.pv ≤ 4611686018427387904)))], by kernel_rfl, ?_⟩
  refine GL.run (j := 5) 2 [2] [(2, .bool (!(decide (x.pv ≤ 4611686018427387904))))] (by kernel_rfl) rfl ?_
  refine GL.k rfl hK8 (fun _ _ h => h) ?_
  refine G.ret ?_
  intro F_ hF_ hM_
  refine hRet _ _ (bodyPost_1 rfl (RV.tmp rfl) ?_ F_ hF_ hM_)
  have e0 : ((!(decide (x.pv ≤ 4611686018427387904))) : Bool) = (decide (4611686018427387904 < x.pv)) := by
    rw [Bool.eq_iff_iff]; simp only [Bool.not_eq_true', decide_eq_false_iff_not, decide_eq_true_eq]; omega
  rw [e0]
  exact ⟨rfl, H10.sub (List.nil_sublist _)⟩
theorem IndexO_calls (outs : List TOut) (B : Option Addr) (cb : Nat) (w : World) (hOuts : RdS w B (outsC outs)) (hO : ∀ x ∈ outs, x.Ok w []) (hno : outs.length ≤ maxLen) : Calls Try.prog 67 #[.slice B outs.length cb, .func (.func 50) #[] #[]] w fun e w' => ∃ r : Int, e = .returned (.int .i64 r) ∧ (0 ≤ r ↔ ∃ x ∈ outs, 4611686018427387904 < x.pv) ∧ Hp w [] [] w' := by
  have hno_ : outs.length ≤ 9223372036854775807 := hno
  refine calls_G (args := [.slice B outs.length cb, .func (.func 50) #[] #[]]) Try.func67 rfl Try.ntmps67 rfl ?_
  intro Q0 hRet hNor hPan
  have H := Hp.start w
  have H : Hp w [] [] w := H
  refine G.seqK fun K1 hK2 => ?_
  refine G.region ?_
  refine GL.run (j := 1) 1 [0, 1] [(0, .slice B outs.length cb), (1, .func (.func 50) #[] #[])] (by kernel_rfl) rfl ?_
  refine GL.k rfl hK2 (fun _ _ h => h) ?_
  refine G.seqK fun K3 hK4 => ?_
  refine G.seqK fun K5 hK6 => ?_
  refine G.region ?_
  refine GL.run (j := 3) 3 [0, 1, 7, 8] [(0, .slice B outs.length cb), (1, .func (.func 50) #[] #[]), (7, .int .i64 (outs.length : Int)), (8, .int .i64 0)] (by kernel_rfl) rfl ?_
  refine GL.k rfl hK6 (fun _ _ h => h) ?_
  refine G.block ?_
  refine G.fit [0, 1, 7, 8] (M' := [(0, .slice B outs.length cb), (1, .func (.func 50) #[] #[]), (7, .int .i64 (outs.length : Int)), (8, .int .i64 0)]) (by kernel_rfl) ?_
  refine G.loop (X := Nat) (fun i => [(0, .slice B outs.length cb), (1, .func (.func 50) #[] #[]), (7, .int .i64 (outs.length : Int)), (8, .int .i64 (i : Int))]) (fun i w_ => (i ≤ outs.length ∧ (∀ y ∈ outs.take i, y.pv ≤ 4611686018427387904)) ∧ Hp w [] [] w_) (fun i => outs.length - i) 0 [0, 1, 7, 8] (by kernel_rfl) ⟨⟨Nat.zero_le _, fun y hy => by simp at hy⟩, H⟩ ?_
  rintro i w7 ⟨hi8, H9⟩
  refine G.eq (M' := [(0, .slice B outs.length cb), (1, .func (.func 50) #[] #[]), (7, .int .i64 (outs.length : Int)), (8, .int .i64 (i : Int))]) rfl ?_
  have H9 : Hp w [] [] w7 := H9
  obtain ⟨hil, hia⟩ := hi8
  refine G.seqK fun K10 hK11 => ?_
  refine G.region ?_
  refine GL.run (j := 1) 1 [0, 1, 7, 8, 9] [(0, .slice B outs.length cb), (1, .func (.func 50) #[] #[]), (7, .int .i64 (outs.length : Int)), (8, .int .i64 (i : Int)), (9, .bool (decide ((i : Int) < (outs.length : Int))))] (by kernel_rfl) rfl ?_
  refine GL.k rfl hK11 (fun _ _ h => h) ?_
  refine G.seqK fun K12 hK13 => ?_
  cases hb14 : (decide ((i : Int) < (outs.length : Int)))
  · skip
    have hb14f := of_decide_eq_false hb14
    refine G.no rfl ?_
    refine G.exitK hK4 (fun _ _ h => h) ?_
    refine G.seqK fun K15 hK16 => ?_
    refine G.region ?_
    refine GL.run (j := 1) 1 [4] [(4, .int .i64 (-1))] (by kernel_rfl) rfl ?_
    refine GL.k rfl hK16 (fun _ _ h => h) ?_
    refine G.ret ?_
    intro F_ hF_ hM_
    refine hRet _ _ (bodyPost_1 rfl (RV.tmp rfl) ?_ F_ hF_ hM_)
    exact ⟨_, rfl, ⟨fun h => by omega, fun ⟨y, hy, h⟩ => by have := take_done hia (by omega) y hy; omega⟩, H9.sub (List.nil_sublist _)⟩
  · skip
    have hb14f := of_decide_eq_true hb14
    refine G.yes rfl ?_
    refine G.skipK hK13 (fun _ _ h => h) ?_
    refine G.seqK fun K17 hK18 => ?_
    refine G.block ?_
    refine G.seqK fun K19 hK20 => ?_
    refine G.region ?_
    refine GL.run (j := 2) 2 [0, 1, 5, 7, 8] [(0, .slice B outs.length cb), (1, .func (.func 50) #[] #[]), (5, .int .i64 (i : Int)), (7, .int .i64 (outs.length : Int)), (8, .int .i64 (i : Int))] (by kernel_rfl) rfl ?_
    refine GL.k rfl hK20 (fun _ _ h => h) ?_
    refine G.seqK fun K21 hK22 => ?_
    refine G.region ?_
    refine GL.run (j := 3) 3 [0, 1, 5, 7, 8, 11, 12, 13] [(0, .slice B outs.length cb), (1, .func (.func 50) #[] #[]), (5, .int .i64 (i : Int)), (7, .int .i64 (outs.length : Int)), (8, .int .i64 (i : Int)), (11, .func (.func 50) #[] #[]), (12, .slice B outs.length cb), (13, .int .i64 (i : Int))] (by kernel_rfl) rfl ?_
    obtain ⟨x23, hx24⟩ : ∃ x, outs[i]? = some x := ⟨_, List.getElem?_eq_getElem (by omega)⟩
    have hok25 := hO x23 (List.mem_of_getElem? hx24)
    refine GL.sem (j := 4) (run_idxRdN (P := Try.prog) (k := .i64) (t := 24) (sz := 2) (A := B) (len := outs.length) (cap := cb) (j := i) (by kernel_rfl) rfl (hOuts.hp H9) (outsC_length _) (by decide) (by omega)) [0, 1, 5, 7, 8, 11, 14] [(0, .slice B outs.length cb), (1, .func (.func 50) #[] #[]), (5, .int .i64 (i : Int)), (7, .int .i64 (outs.length : Int)), (8, .int .i64 (i : Int)), (11, .func (.func 50) #[] #[]), (14, .pointer (Option.map (fun x => Addr.add x (i * 2)) B))] (by kernel_rfl) (by kernel_rfl) rfl ?_
    refine GL.sem (j := 5) (run_ldRdA (P := Try.prog) (ty := 40) (A := B) (o := (i * 2)) (m := 2) (sub := [.int .u64 (x23.pv : Int), .slice x23.B x23.lb.length x23.lc]) (by kernel_rfl) (hOuts.hp H9) (outsC_cut hx24) (rfl) (by decide)) [0, 1, 5, 7, 8, 11, 15] [(0, .slice B outs.length cb), (1, .func (.func 50) #[] #[]), (5, .int .i64 (i : Int)), (7, .int .i64 (outs.length : Int)), (8, .int .i64 (i : Int)), (11, .func (.func 50) #[] #[]), (15, .agg #[.int .u64 (x23.pv : Int), .slice x23.B x23.lb.length x23.lc])] (by kernel_rfl) (by kernel_rfl) rfl ?_
    refine GL.call (j := 6) (Bytes1_calls x23 w7) (by kernel_rfl) rfl (fun e_ w26 hR => ?_)
    obtain ⟨rfl, H28⟩ := hR
    have H27 : Hp w [] [] w26 := H9.callNil H28
    refine ⟨_, rfl, [0, 1, 5, 7, 8, 16], [(0, .slice B outs.length cb), (1, .func (.func 50) #[] #[]), (5, .int .i64 (i : Int)), (7, .int .i64 (outs.length : Int)), (8, .int .i64 (i : Int)), (16, .bool (decide (4611686018427387904 < x23.pv)))], by kernel_rfl, ?_⟩
    refine GL.k rfl hK22 (fun _ _ h => h) ?_
    cases hb29 : (decide (4611686018427387904 < x23.pv))
    · skip
      have hb29f := of_decide_eq_false hb29
      refine G.no rfl ?_
      refine G.skipK hK18 (fun _ _ h => h) ?_
      refine G.region ?_
      refine GL.run (j := 2) 2 [0, 1, 7, 8] [(0, .slice B outs.length cb), (1, .func (.func 50) #[] #[]), (7, .int .i64 (outs.length : Int)), (8, .int .i64 (IntKind.i64.wrap ((i : Int) + 1)))] (by kernel_rfl) rfl ?_
      have e30 : (IntKind.i64.wrap ((i : Int) + 1)) = ((i + 1 : Nat) : Int) := by rw [in_i64 (by omega)]; omega
      refine GL.eq (M' := [(0, .slice B outs.length cb), (1, .func (.func 50) #[] #[]), (7, .int .i64 (outs.length : Int)), (8, .int .i64 ((i + 1 : Nat) : Int))]) (by rw [e30]) ?_
      clear e30
      refine GL.fit (ts := [0, 1, 7, 8]) (M' := [(0, .slice B outs.length cb), (1, .func (.func 50) #[] #[]), (7, .int .i64 (outs.length : Int)), (8, .int .i64 ((i + 1 : Nat) : Int))]) (by kernel_rfl) ?_
      refine GL.eq (M' := [(0, .slice B outs.length cb), (1, .func (.func 50) #[] #[]), (7, .int .i64 (outs.length : Int)), (8, .int .i64 (((i + 1) : Nat) : Int))]) (by rfl) ?_
      exact GL.again (i + 1) [0, 1, 7, 8] rfl (by kernel_rfl) (by show outs.length - (i + 1) < outs.length - i; omega) ⟨⟨by omega, take_all hia hx24 (by omega)⟩, H27⟩
    · skip
      have hb29f := of_decide_eq_true hb29
      refine G.yes rfl ?_
      refine G.seqK fun K31 hK32 => ?_
      refine G.region ?_
      refine GL.run (j := 2) 2 [4] [(4, .int .i64 (i : Int))] (by kernel_rfl) rfl ?_
      refine GL.k rfl hK32 (fun _ _ h => h) ?_
      refine G.ret ?_
      intro F_ hF_ hM_
      refine hRet _ _ (bodyPost_1 rfl (RV.tmp rfl) ?_ F_ hF_ hM_)
      exact ⟨_, rfl, ⟨fun _ => ⟨x23, List.mem_of_getElem? hx24, by omega⟩, fun _ => by omega⟩, H27.sub (List.nil_sublist _)⟩
theorem ContainsO_calls (outs : List TOut) (B : Option Addr) (cb : Nat) (w : World) (hOuts : RdS w B (outsC outs)) (hO : ∀ x ∈ outs, x.Ok w []) (hno : outs.length ≤ maxLen) : Calls Try.prog 49 #[.slice B outs.length cb, .func (.func 50) #[] #[]] w fun e w' => e = .returned (.bool (decide (∃ x ∈ outs, 4611686018427387904 < x.pv))) ∧ Hp w [] [] w' := by
  refine calls_G (args := [.slice B outs.length cb, .func (.func 50) #[] #[]]) Try.func49 rfl Try.ntmps49 rfl ?_
  intro Q0 hRet hNor hPan
  have H := Hp.start w
  have H : Hp w [] [] w := H
  refine G.seqK fun K1 hK2 => ?_
  refine G.region ?_
  refine GL.run (j := 1) 1 [0, 1] [(0, .slice B outs.length cb), (1, .func (.func 50) #[] #[])] (by kernel_rfl) rfl ?_
  refine GL.k rfl hK2 (fun _ _ h => h) ?_
  refine G.seqK fun K3 hK4 => ?_
  refine G.region ?_
  refine GL.run (j := 2) 2 [5, 6] [(5, .slice B outs.length cb), (6, .func (.func 50) #[] #[])] (by kernel_rfl) rfl ?_
  refine GL.call (j := 3) (IndexO_calls outs B cb w (hOuts.hp H) (oksO_mid hO H) hno) (by kernel_rfl) rfl (fun e_ w9 hR => ?_)
  obtain ⟨r5, rfl, hr6, H8⟩ := hR
  have H7 : Hp w [] [] w9 := H.callNil H8
  refine ⟨_, rfl, [7], [(7, .int .i64 r5)], by kernel_rfl, ?_⟩
  refine GL.run (j := 5) 2 [4] [(4, .bool (decide (0 ≤ r5)))] (by kernel_rfl) rfl ?_
  refine GL.k rfl hK4 (fun _ _ h => h) ?_
  refine G.ret ?_
  intro F_ hF_ hM_
  refine hRet _ _ (bodyPost_1 rfl (RV.tmp rfl) ?_ F_ hF_ hM_)
  have e0 : ((decide (0 ≤ r5)) : Bool) = (decide (∃ x ∈ outs, 4611686018427387904 < x.pv)) := by
    rw [Bool.eq_iff_iff]; simp only [decide_eq_true_eq]; exact hr6
  rw [e0]
  exact ⟨rfl, H7.sub (List.nil_sublist _)⟩
def txE (v : Nat) (ins : List TIn) (outs : List TOut) (lt : Nat) : Nat := if txK ins outs ≠ 0 then txK ins outs else if 4096 < (txB v ins outs lt).length ∨ (txB v ins outs lt).length = 64 then 3 else if ∃ x ∈ outs, 4611686018427387904 < x.pv then 4 else 0
def txO (v : Nat) (ins : List TIn) (outs : List TOut) (lt : Nat) : List UInt8 := if txE v ins outs lt = 0 then txB v ins outs lt else []
theorem TBytes_calls (v : Nat) (ins : List TIn) (A : Option Addr) (ca : Nat) (outs : List TOut) (B : Option Addr) (cb : Nat) (lt : Nat) (w : World) (hv : v < 4294967296) (hlt : lt < 4294967296) (hIns : RdS w A (insC ins)) (hI : ∀ x ∈ ins, x.Ok w []) (hOuts : RdS w B (outsC outs)) (hO : ∀ x ∈ outs, x.Ok w []) (hni : ins.length ≤ maxLen) (hno : outs.length ≤ maxLen) : Calls Try.prog 21 #[.agg #[.int .u32 (v : Int), .slice A ins.length ca, .slice B outs.length cb, .int .u32 (lt : Int)]] w fun e w' => ∃ A' n' c', e = .returned (.tuple #[.slice A' n' c', .int .i64 ((txE v ins outs lt : Nat) : Int)]) ∧ Hp w [] [.row A' n' c' 5 1 (by8 (txO v ins outs lt))] w' := by
  have hni_ : ins.length ≤ 9223372036854775807 := hni
  have hno_ : outs.length ≤ 9223372036854775807 := hno
  refine calls_G (args := [.agg #[.int .u32 (v : Int), .slice A ins.length ca, .slice B outs.length cb, .int .u32 (lt : Int)]]) Try.func21 rfl Try.ntmps21 rfl ?_
  intro Q0 hRet hNor hPan
  have H := Hp.start w
  have H : Hp w [] [] w := H
  refine G.seqK fun K1 hK2 => ?_
  refine G.region ?_
  obtain ⟨p3, w4, r5, H6⟩ := H.box (P := Try.prog) 26 [.int .u32 (v : Int), .slice A ins.length ca, .slice B outs.length cb, .int .u32 (lt : Int)] (.agg #[.int .u32 (v : Int), .slice A ins.length ca, .slice B outs.length cb, .int .u32 (lt : Int)]) rfl
  have H6 : Hp w [] [.blk p3 [.int .u32 (v : Int), .slice A ins.length ca, .slice B outs.length cb, .int .u32 (lt : Int)] 26] w4 := H6
  refine GL.sem (j := 1) (r5) [1] [(1, pt p3 0)] (by kernel_rfl) (by kernel_rfl) rfl ?_
  refine GL.run (j := 3) 2 [1] [(1, pt p3 0)] (by kernel_rfl) rfl ?_
  refine GL.k rfl hK2 (fun _ _ h => h) ?_
  refine G.seqK fun K7 hK8 => ?_
  refine G.seqK fun K9 hK10 => ?_
  refine G.region ?_
  refine GL.sem (j := 1) (H6.ldA (o := 0) (ty := 26) (m := 4) (sub := [.int .u32 (v : Int), .slice A ins.length ca, .slice B outs.length cb, .int .u32 (lt : Int)]) 0 rfl (by kernel_rfl) rfl rfl) [1, 6] [(1, pt p3 0), (6, .agg #[.int .u32 (v : Int), .slice A ins.length ca, .slice B outs.length cb, .int .u32 (lt : Int)])] (by kernel_rfl) (by kernel_rfl) rfl ?_
  refine GL.call (j := 2) (check_calls v ins A ca outs B cb lt w4 hv hlt (hIns.hp H6) (oks_mid hI H6) (hOuts.hp H6) (oksO_mid hO H6) hni hno) (by kernel_rfl) rfl (fun e_ w11 hR => ?_)
  obtain ⟨rfl, H13⟩ := hR
  have H12 : Hp w [] [.blk p3 [.int .u32 (v : Int), .slice A ins.length ca, .slice B outs.length cb, .int .u32 (lt : Int)] 26] w11 := H6.callNil H13
  refine ⟨_, rfl, [1, 7], [(1, pt p3 0), (7, .int .i64 (((txK ins outs) : Nat) : Int))], by kernel_rfl, ?_⟩
  refine GL.run (j := 3) 1 [1, 4] [(1, pt p3 0), (4, .int .i64 (((txK ins outs) : Nat) : Int))] (by kernel_rfl) rfl ?_
  refine GL.k rfl hK10 (fun _ _ h => h) ?_
  refine G.seqK fun K14 hK15 => ?_
  refine G.region ?_
  refine GL.run (j := 2) 2 [1, 4, 9] [(1, pt p3 0), (4, .int .i64 (((txK ins outs) : Nat) : Int)), (9, .bool ((((txK ins outs) : Nat) : Int) != 0))] (by kernel_rfl) rfl ?_
  refine GL.k rfl hK15 (fun _ _ h => h) ?_
  cases hb16 : ((((txK ins outs) : Nat) : Int) != 0)
  · skip
    have hb16f : (((txK ins outs) : Nat) : Int) = 0 := bne_eq_false_iff_eq.1 hb16
    have hK0 : txK ins outs = 0 := by omega
    refine G.no rfl ?_
    refine G.skipK hK8 (fun _ _ h => h) ?_
    refine G.seqK fun K17 hK18 => ?_
    refine G.region ?_
    refine GL.sem (j := 1) (H12.ldA (o := 0) (ty := 26) (m := 4) (sub := [.int .u32 (v : Int), .slice A ins.length ca, .slice B outs.length cb, .int .u32 (lt : Int)]) 0 rfl (by kernel_rfl) rfl rfl) [1, 11] [(1, pt p3 0), (11, .agg #[.int .u32 (v : Int), .slice A ins.length ca, .slice B outs.length cb, .int .u32 (lt : Int)])] (by kernel_rfl) (by kernel_rfl) rfl ?_
    refine GL.call (j := 2) (write_calls v ins A ca outs B cb lt w11 hv hlt (hIns.hp H12) (oks_mid hI H12) (hOuts.hp H12) (oksO_mid hO H12) hni hno hK0) (by kernel_rfl) rfl (fun e_ w22 hR => ?_)
    obtain ⟨A19, c20, c21, rfl, H24⟩ := hR
    have H23 : Hp w [] [.blk p3 [.int .u32 (v : Int), .slice A ins.length ca, .slice B outs.length cb, .int .u32 (lt : Int)] 26, .row A19 c20 c21 5 1 (by8 (txB v ins outs lt))] w22 := H12.callNew H24
    have hlA19 := (H23.rowLe 1 rfl).2.1
    rw [by8_length, Nat.mul_one] at hlA19
    refine ⟨_, rfl, [1, 12], [(1, pt p3 0), (12, .slice A19 c20 c21)], by kernel_rfl, ?_⟩
    refine GL.run (j := 3) 1 [1, 5] [(1, pt p3 0), (5, .slice A19 c20 c21)] (by kernel_rfl) rfl ?_
    refine GL.k rfl hK18 (fun _ _ h => h) ?_
    refine G.seqK fun K25 hK26 => ?_
    refine G.seqK fun K27 hK28 => ?_
    refine G.region ?_
    refine GL.run (j := 4) 4 [1, 5, 16] [(1, pt p3 0), (5, .slice A19 c20 c21), (16, .bool (decide (4096 < (c20 : Int))))] (by kernel_rfl) rfl ?_
    cases hb29 : (decide (4096 < (c20 : Int)))
    · skip
      have hb29f := of_decide_eq_false hb29
      refine GL.run (j := 8) 4 [1, 5, 20] [(1, pt p3 0), (5, .slice A19 c20 c21), (20, .bool ((c20 : Int) == 64))] (by kernel_rfl) rfl ?_
      refine GL.k rfl hK28 (fun _ _ h => h) ?_
      cases hb30 : ((c20 : Int) == 64)
      · skip
        have hb30f := ne_of_beq_false hb30
        refine G.no rfl ?_
        refine G.skipK hK26 (fun _ _ h => h) ?_
        refine G.seqK fun K31 hK32 => ?_
        refine G.seqK fun K33 hK34 => ?_
        refine G.region ?_
        refine GL.run (j := 1) 1 [5, 21] [(5, .slice A19 c20 c21), (21, pt p3 2)] (by kernel_rfl) rfl ?_
        refine GL.sem (j := 2) (H23.ld (o := 2) (ty := 24) (v := .slice B outs.length cb) 0 rfl (by kernel_rfl) rfl) [5, 22] [(5, .slice A19 c20 c21), (22, .slice B outs.length cb)] (by kernel_rfl) (by kernel_rfl) rfl ?_
        refine GL.call (j := 3) (ContainsO_calls outs B cb w22 (hOuts.hp H23) (oksO_mid hO H23) hno) (by kernel_rfl) rfl (fun e_ w35 hR => ?_)
        obtain ⟨rfl, H37⟩ := hR
        have H36 : Hp w [] [.blk p3 [.int .u32 (v : Int), .slice A ins.length ca, .slice B outs.length cb, .int .u32 (lt : Int)] 26, .row A19 c20 c21 5 1 (by8 (txB v ins outs lt))] w35 := H23.callNil H37
        refine ⟨_, rfl, [5, 23], [(5, .slice A19 c20 c21), (23, .bool (decide (∃ x ∈ outs, 4611686018427387904 < x.pv)))], by kernel_rfl, ?_⟩
        refine GL.k rfl hK34 (fun _ _ h => h) ?_
        cases hb38 : (decide (∃ x ∈ outs, 4611686018427387904 < x.pv))
        · skip
          have hb38f := of_decide_eq_false hb38
          have hex : ¬ (∃ x ∈ outs, 4611686018427387904 < x.pv) := of_decide_eq_false hb38
          refine G.no rfl ?_
          refine G.skipK hK32 (fun _ _ h => h) ?_
          refine G.seqK fun K39 hK40 => ?_
          refine G.region ?_
          refine GL.run (j := 3) 3 [2, 3] [(2, .slice A19 c20 c21), (3, .int .i64 0)] (by kernel_rfl) rfl ?_
          refine GL.k rfl hK40 (fun _ _ h => h) ?_
          refine G.ret ?_
          intro F_ hF_ hM_
          refine hRet _ _ (bodyPost_2 rfl (RV.tmp rfl) (RV.tmp rfl) ?_ F_ hF_ hM_)
          have e0 : txE v ins outs lt = 0 := by rw [txE, if_neg (by omega), if_neg (by omega), if_neg hex]
          have H41 : Hp w [] [.row A19 c20 c21 5 1 (by8 (txB v ins outs lt))] w35 := H36.sub (List.Sublist.cons _ (List.Sublist.cons_cons _ (List.Sublist.slnil)))
          rw [txO, e0, if_pos rfl]
          exact ⟨_, _, _, rfl, H41⟩
        · skip
          have hb38f := of_decide_eq_true hb38
          have hex : ∃ x ∈ outs, 4611686018427387904 < x.pv := of_decide_eq_true hb38
          refine G.yes rfl ?_
          refine G.seqK fun K42 hK43 => ?_
          refine G.region ?_
          refine GL.run (j := 2) 2 [2, 3] [(2, .slice none 0 0), (3, .int .i64 4)] (by kernel_rfl) rfl ?_
          refine GL.k rfl hK43 (fun _ _ h => h) ?_
          refine G.ret ?_
          intro F_ hF_ hM_
          refine hRet _ _ (bodyPost_2 rfl (RV.tmp rfl) (RV.tmp rfl) ?_ F_ hF_ hM_)
          have e0 : txE v ins outs lt = 4 := by rw [txE, if_neg (by omega), if_neg (by omega), if_pos hex]
          rw [txO, e0, if_neg (by omega)]
          exact ⟨none, 0, 0, rfl, (H36.sub (List.nil_sublist _)).rowNil 5 1⟩
      · skip
        have hb30f := eq_of_beq hb30
        refine G.yes rfl ?_
        refine G.seqK fun K44 hK45 => ?_
        refine G.region ?_
        refine GL.run (j := 2) 2 [2, 3] [(2, .slice none 0 0), (3, .int .i64 3)] (by kernel_rfl) rfl ?_
        refine GL.k rfl hK45 (fun _ _ h => h) ?_
        refine G.ret ?_
        intro F_ hF_ hM_
        refine hRet _ _ (bodyPost_2 rfl (RV.tmp rfl) (RV.tmp rfl) ?_ F_ hF_ hM_)
        have e0 : txE v ins outs lt = 3 := by rw [txE, if_neg (by omega), if_pos (by omega)]
        rw [txO, e0, if_neg (by omega)]
        exact ⟨none, 0, 0, rfl, (H23.sub (List.nil_sublist _)).rowNil 5 1⟩
    · skip
      have hb29f := of_decide_eq_true hb29
      refine GL.run (j := 8) 4 [1, 5, 20] [(1, pt p3 0), (5, .slice A19 c20 c21), (20, .bool true)] (by kernel_rfl) rfl ?_
      refine GL.k rfl hK28 (fun _ _ h => h) ?_
      refine G.yes rfl ?_
      refine G.seqK fun K46 hK47 => ?_
      refine G.region ?_
      refine GL.run (j := 2) 2 [2, 3] [(2, .slice none 0 0), (3, .int .i64 3)] (by kernel_rfl) rfl ?_
      refine GL.k rfl hK47 (fun _ _ h => h) ?_
      refine G.ret ?_
      intro F_ hF_ hM_
      refine hRet _ _ (bodyPost_2 rfl (RV.tmp rfl) (RV.tmp rfl) ?_ F_ hF_ hM_)
      have e0 : txE v ins outs lt = 3 := by rw [txE, if_neg (by omega), if_pos (by omega)]
      rw [txO, e0, if_neg (by omega)]
      exact ⟨none, 0, 0, rfl, (H23.sub (List.nil_sublist _)).rowNil 5 1⟩
  · skip
    have hb16f : (((txK ins outs) : Nat) : Int) ≠ 0 := bne_iff_ne.1 hb16
    refine G.yes rfl ?_
    refine G.seqK fun K48 hK49 => ?_
    refine G.region ?_
    refine GL.run (j := 3) 3 [2, 3] [(2, .slice none 0 0), (3, .int .i64 (((txK ins outs) : Nat) : Int))] (by kernel_rfl) rfl ?_
    refine GL.k rfl hK49 (fun _ _ h => h) ?_
    refine G.ret ?_
    intro F_ hF_ hM_
    refine hRet _ _ (bodyPost_2 rfl (RV.tmp rfl) (RV.tmp rfl) ?_ F_ hF_ hM_)
    have e0 : txE v ins outs lt = txK ins outs := if_pos (by omega)
    rw [txO, e0, if_neg (by omega)]
    exact ⟨none, 0, 0, rfl, (H12.sub (List.nil_sublist _)).rowNil 5 1⟩
end Go.Proofs.Ytcedmbdahbdmaaa
set_option maxRecDepth 100000
namespace Go.Proofs.Ytcedmbdahbdmaaa
open Go.RowKit
def AAddE (a b : Nat) : Nat := if MX < a ∨ MX < b then 1 else if MX < a + b then 4 else 0
def AAddV (a b : Nat) : Nat := if MX < a ∨ MX < b then 0 else if MX < a + b then 0 else a + b
theorem AAdd_cases (a b : Nat) : ((MX < a ∨ MX < b) ∧ AAddE a b = 1 ∧ AAddV a b = 0) ∨ (¬ (MX < a ∨ MX < b) ∧ MX < a + b ∧ AAddE a b = 4 ∧ AAddV a b = 0) ∨ (¬ (MX < a ∨ MX < b) ∧ ¬ MX < a + b ∧ AAddE a b = 0 ∧ AAddV a b = a + b) := by
  unfold AAddE AAddV
  repeat' split
  all_goals omega
theorem AAdd_calls (a b : Nat) (ha : a < K) (hb : b < K) (w : World) : Calls Try.prog 12 #[.int .u64 (a : Int), .int .u64 (b : Int)] w fun e w' => e = .returned (.tuple #[.int .u64 ((AAddV a b : Nat) : Int), .int .i64 ((AAddE a b : Nat) : Int)]) ∧ Hp w [] [] w' := by
  have hMX : MX = 4611686018427387904 := rfl
  have hK0 : K = 18446744073709551616 := rfl
  have hK40 : K4 = 115792089237316195423570985008687907853269984665640564039457584007913129639936 := rfl
  refine calls_G (args := [.int .u64 (a : Int), .int .u64 (b : Int)]) Try.func12 rfl Try.ntmps12 rfl ?_
  intro Q0 hRet hNor hPan
  have H := Hp.start w
  have H : Hp w [] [] w := H
  refine G.seqK fun K1 hK2 => ?_
  refine G.region ?_
  refine GL.run (j := 2) 2 [0, 1] [(0, .int .u64 (a : Int)), (1, .int .u64 (b : Int))] (by kernel_rfl) rfl ?_
  refine GL.k rfl hK2 (fun _ _ h => h) ?_
  refine G.seqK fun K3 hK4 => ?_
  refine G.block ?_
  refine G.seqK fun K5 hK6 => ?_
  refine G.region ?_
  refine GL.run (j := 1) 1 [0, 1, 7] [(0, .int .u64 (a : Int)), (1, .int .u64 (b : Int)), (7, .int .u64 (a : Int))] (by kernel_rfl) rfl ?_
  refine GL.call (j := 2) (Right_calls a w) (by kernel_rfl) rfl (fun e_ w7 hR => ?_)
  obtain ⟨rfl, H9⟩ := hR
  have H8 : Hp w [] [] w7 := H.callNil H9
  refine ⟨_, rfl, [0, 1, 8], [(0, .int .u64 (a : Int)), (1, .int .u64 (b : Int)), (8, .bool (decide (a ≤ 4611686018427387904)))], by kernel_rfl, ?_⟩
  refine GL.run (j := 4) 2 [0, 1, 10] [(0, .int .u64 (a : Int)), (1, .int .u64 (b : Int)), (10, .bool (!(decide (a ≤ 4611686018427387904))))] (by kernel_rfl) rfl ?_
  cases hb10 : (decide (a ≤ 4611686018427387904))
  · skip
    have hb10f := of_decide_eq_false hb10
    refine GL.run (j := 9) 5 [0, 1, 6] [(0, .int .u64 (a : Int)), (1, .int .u64 (b : Int)), (6, .bool true)] (by kernel_rfl) rfl ?_
    refine GL.k rfl hK6 (fun _ _ h => h) ?_
    refine G.yes rfl ?_
    refine G.seqK fun K11 hK12 => ?_
    refine G.region ?_
    refine GL.run (j := 2) 2 [4, 5] [(4, .int .u64 0), (5, .int .i64 1)] (by kernel_rfl) rfl ?_
    refine GL.k rfl hK12 (fun _ _ h => h) ?_
    refine G.ret ?_
    intro F_ hF_ hM_
    refine hRet _ _ (bodyPost_2 rfl (RV.tmp rfl) (RV.tmp rfl) ?_ F_ hF_ hM_)
    have eVE : AAddV a b = 0 ∧ AAddE a b = 1 := by
      unfold AAddV AAddE
      simp only [MX] at *
      constructor <;> repeat' split
      all_goals omega
    rw [eVE.1, eVE.2]
    exact ⟨rfl, H8.sub (List.nil_sublist _)⟩
  · skip
    have hb10f := of_decide_eq_true hb10
    refine GL.run (j := 5) 1 [0, 1, 10, 11] [(0, .int .u64 (a : Int)), (1, .int .u64 (b : Int)), (10, .bool false), (11, .int .u64 (b : Int))] (by kernel_rfl) rfl ?_
    refine GL.call (j := 6) (Right_calls b w7) (by kernel_rfl) rfl (fun e_ w13 hR => ?_)
    obtain ⟨rfl, H15⟩ := hR
    have H14 : Hp w [] [] w13 := H8.callNil H15
    refine ⟨_, rfl, [0, 1, 10, 12], [(0, .int .u64 (a : Int)), (1, .int .u64 (b : Int)), (10, .bool false), (12, .bool (decide (b ≤ 4611686018427387904)))], by kernel_rfl, ?_⟩
    refine GL.run (j := 9) 3 [0, 1, 6] [(0, .int .u64 (a : Int)), (1, .int .u64 (b : Int)), (6, .bool (!(decide (b ≤ 4611686018427387904))))] (by kernel_rfl) rfl ?_
    refine GL.k rfl hK6 (fun _ _ h => h) ?_
    cases hb16 : (decide (b ≤ 4611686018427387904))
    · skip
      have hb16f := of_decide_eq_false hb16
      refine G.yes rfl ?_
      refine G.seqK fun K17 hK18 => ?_
      refine G.region ?_
      refine GL.run (j := 2) 2 [4, 5] [(4, .int .u64 0), (5, .int .i64 1)] (by kernel_rfl) rfl ?_
      refine GL.k rfl hK18 (fun _ _ h => h) ?_
      refine G.ret ?_
      intro F_ hF_ hM_
      refine hRet _ _ (bodyPost_2 rfl (RV.tmp rfl) (RV.tmp rfl) ?_ F_ hF_ hM_)
      have eVE : AAddV a b = 0 ∧ AAddE a b = 1 := by
        unfold AAddV AAddE
        simp only [MX] at *
        constructor <;> repeat' split
        all_goals omega
      rw [eVE.1, eVE.2]
      exact ⟨rfl, H14.sub (List.nil_sublist _)⟩
    · skip
      have hb16f := of_decide_eq_true hb16
      refine G.no rfl ?_
      refine G.seqK fun K19 hK20 => ?_
      refine G.region ?_
      refine GL.run (j := 3) 3 [0, 1, 18] [(0, .int .u64 (a : Int)), (1, .int .u64 (b : Int)), (18, .int .u64 (IntKind.u64.wrap ((a : Int) + (b : Int))))] (by kernel_rfl) rfl ?_
      have e21 : (IntKind.u64.wrap ((a : Int) + (b : Int))) = ((a + b : Nat) : Int) := n_add' (a := a) (b := b) (by omega)
      refine GL.eq (M' := [(0, .int .u64 (a : Int)), (1, .int .u64 (b : Int)), (18, .int .u64 ((a + b : Nat) : Int))]) (by rw [e21]) ?_
      clear e21
      refine GL.call (j := 4) (Right_calls (a + b) w13) (by kernel_rfl) rfl (fun e_ w22 hR => ?_)
      obtain ⟨rfl, H24⟩ := hR
      have H23 : Hp w [] [] w22 := H14.callNil H24
      refine ⟨_, rfl, [0, 1, 19], [(0, .int .u64 (a : Int)), (1, .int .u64 (b : Int)), (19, .bool (decide (a + b ≤ 4611686018427387904)))], by kernel_rfl, ?_⟩
      refine GL.run (j := 6) 2 [0, 1, 15] [(0, .int .u64 (a : Int)), (1, .int .u64 (b : Int)), (15, .bool (!(decide (a + b ≤ 4611686018427387904))))] (by kernel_rfl) rfl ?_
      refine GL.k rfl hK20 (fun _ _ h => h) ?_
      cases hb25 : (decide (a + b ≤ 4611686018427387904))
      · skip
        have hb25f := of_decide_eq_false hb25
        refine G.yes rfl ?_
        refine G.seqK fun K26 hK27 => ?_
        refine G.region ?_
        refine GL.run (j := 2) 2 [4, 5] [(4, .int .u64 0), (5, .int .i64 4)] (by kernel_rfl) rfl ?_
        refine GL.k rfl hK27 (fun _ _ h => h) ?_
        refine G.ret ?_
        intro F_ hF_ hM_
        refine hRet _ _ (bodyPost_2 rfl (RV.tmp rfl) (RV.tmp rfl) ?_ F_ hF_ hM_)
        have eVE : AAddV a b = 0 ∧ AAddE a b = 4 := by
          unfold AAddV AAddE
          simp only [MX] at *
          constructor <;> repeat' split
          all_goals omega
        rw [eVE.1, eVE.2]
        exact ⟨rfl, H23.sub (List.nil_sublist _)⟩
      · skip
        have hb25f := of_decide_eq_true hb25
        refine G.no rfl ?_
        refine G.skipK hK4 (fun _ _ h => h) ?_
        refine G.seqK fun K28 hK29 => ?_
        refine G.region ?_
        refine GL.run (j := 5) 5 [4, 5] [(4, .int .u64 (IntKind.u64.wrap ((a : Int) + (b : Int)))), (5, .int .i64 0)] (by kernel_rfl) rfl ?_
        have e30 : (IntKind.u64.wrap ((a : Int) + (b : Int))) = ((a + b : Nat) : Int) := n_add' (a := a) (b := b) (by omega)
        refine GL.eq (M' := [(4, .int .u64 ((a + b : Nat) : Int)), (5, .int .i64 0)]) (by rw [e30]) ?_
        clear e30
        refine GL.k rfl hK29 (fun _ _ h => h) ?_
        refine G.ret ?_
        intro F_ hF_ hM_
        refine hRet _ _ (bodyPost_2 rfl (RV.tmp rfl) (RV.tmp rfl) ?_ F_ hF_ hM_)
        have eVE : AAddV a b = a + b ∧ AAddE a b = 0 := by
          unfold AAddV AAddE
          simp only [MX] at *
          constructor <;> repeat' split
          all_goals omega
        rw [eVE.1, eVE.2]
        exact ⟨rfl, H23.sub (List.nil_sublist _)⟩
def tot : List Nat → Nat → Nat × Nat
  | [], s => (0, s)
  | a :: l, s => if MX < a then (1, 0) else if MX < s + a then (4, 0) else tot l (s + a)
theorem tot_step {ls : List Nat} {k x s : Nat} (h : ls[k]? = some x) : tot (ls.drop k) s = if MX < x then (1, 0) else if MX < s + x then (4, 0) else tot (ls.drop (k + 1)) (s + x) := by
  obtain ⟨hk, hx⟩ := List.getElem?_eq_some_iff.1 h
  rw [List.drop_eq_getElem_cons hk, hx]
  rfl
theorem tot_end {ls : List Nat} {s : Nat} : tot (ls.drop ls.length) s = (0, s) := by rw [List.drop_length]; rfl
theorem Total_calls (ls : List Nat) (hls : ∀ x ∈ ls, x < K) (gf : Nat) (lb : Array Value) (Rd : World → Prop) (he : ∀ args w, (callFunc gf args).run Try.prog w = .ok (.enter gf args) w) (hit : Iter Try.prog gf lb ls.length (fun k => #[.int .u64 ((ls.getD k 0 : Nat) : Int)]) Rd) (w : World) (hRd : ∀ W, Below w.heap.size w W → Rd W) :
    Calls Try.prog 54 #[.func (.func gf) #[] lb] w fun e w' => e = .returned (.tuple #[.int .u64 (((tot ls 0).2 : Nat) : Int), .int .i64 (((tot ls 0).1 : Nat) : Int)]) ∧ Hp w [] [] w' := by
  have hMX : MX = 4611686018427387904 := rfl
  have hK0 : K = 18446744073709551616 := rfl
  refine calls_R (args := [.func (.func gf) #[] lb]) Try.func54 rfl Try.ntmps54 rfl ?_
  intro Q0 hRet hNor
  have H := Hp.start w
  have H : Hp w [] [] w := H
  refine RG.seqK fun K1 hK2 => ?_
  refine RG.region (by kernel_rfl) ?_
  obtain ⟨p3, w4, r5, H6⟩ := H.alloc (P := Try.prog) 32 [.int .u64 0] (by kernel_rfl)
  have H6 : Hp w [] [.blk p3 [.int .u64 0] 32] w4 := H6
  refine RL.sem (j := 1) (r5) [0, 2] [(0, .func (.func gf) #[] lb), (2, pt p3 0)] (by kernel_rfl) (by kernel_rfl) rfl ?_
  obtain ⟨p7, w8, r9, H10⟩ := H6.alloc (P := Try.prog) 33 [.int .i64 0] (by kernel_rfl)
  have H10 : Hp w [] [.blk p3 [.int .u64 0] 32, .blk p7 [.int .i64 0] 33] w8 := H10
  refine RL.sem (j := 2) (r9) [0, 2, 3] [(0, .func (.func gf) #[] lb), (2, pt p3 0), (3, pt p7 0)] (by kernel_rfl) (by kernel_rfl) rfl ?_
  refine RL.k rfl hK2 (fun _ _ h => h) ?_
  refine RG.seqK fun K11 hK12 => ?_
  refine RG.region (by kernel_rfl) ?_
  obtain ⟨p13, w14, r15, H16⟩ := H10.alloc (P := Try.prog) 32 [.int .u64 0] (by kernel_rfl)
  have H16 : Hp w [] [.blk p3 [.int .u64 0] 32, .blk p7 [.int .i64 0] 33, .blk p13 [.int .u64 0] 32] w14 := H16
  refine RL.sem (j := 1) (r15) [0, 2, 3, 4] [(0, .func (.func gf) #[] lb), (2, pt p3 0), (3, pt p7 0), (4, pt p13 0)] (by kernel_rfl) (by kernel_rfl) rfl ?_
  refine RL.k rfl hK12 (fun _ _ h => h) ?_
  refine RG.seqK fun K17 hK18 => ?_
  refine RG.seqK fun K19 hK20 => ?_
  refine RG.region (by kernel_rfl) ?_
  refine RL.run (j := 1) 1 [2, 3, 4, 8] [(2, pt p3 0), (3, pt p7 0), (4, pt p13 0), (8, .func (.func gf) #[] lb)] (by kernel_rfl) rfl ?_
  refine RL.k rfl hK20 (fun _ _ h => h) ?_
  refine RG.block ?_
  refine RG.fit [2, 3, 4, 8] (M' := [(2, pt p3 0), (3, pt p7 0), (4, pt p13 0), (8, .func (.func gf) #[] lb)]) (by kernel_rfl) ?_
  refine RG.range H16 (gf := gf) (lb := lb) rfl he (Xt := Nat) (fun k s => s ≤ MX ∧ tot ls 0 = tot (ls.drop k) s) (fun k s => [.blk p3 [.int .u64 0] 32, .blk p7 [.int .i64 0] 33, .blk p13 [.int .u64 (s : Int)] 32]) (fun s => tot ls 0 = (s, 0)) (fun s => [.blk p3 [.int .u64 0] 32, .blk p7 [.int .i64 (s : Int)] 33]) (N := ls.length) (enc := fun k => #[.int .u64 ((ls.getD k 0 : Nat) : Int)]) (hit) (fun _ => rfl) 0 ⟨Nat.zero_le _, by rw [List.drop_zero]⟩ rfl (fun k s E W hx HW => hRd W (HW.sub (List.nil_sublist _)).below) (fun k => [(9, .int .u64 ((ls.getD k 0 : Nat) : Int)), (2, pt p3 0), (3, pt p7 0), (4, pt p13 0), (8, .func (.func gf) #[] lb)]) (fun _ => rfl) ?_ ?_ ?_
  · skip
    rintro D24 l25 oR26 oB27 k s w21 K28 hk29 hx22 H23 hK30
    have H23 : Hp w [] [.blk p3 [.int .u64 0] 32, .blk p7 [.int .i64 0] 33, .blk p13 [.int .u64 (s : Int)] 32, .obj D24 DF, .obj l25 oR26] w21 := H23
    obtain ⟨hs1, hs2⟩ := hx22
    have hdx := getD_some hk29
    have hst := tot_step (s := s) hdx
    have hxK := hls _ (List.mem_of_getElem? hdx)
    refine RG.region (by kernel_rfl) ?_
    refine RL.run (j := 1) 1 [2, 3, 4, 5] [(2, pt p3 0), (3, pt p7 0), (4, pt p13 0), (5, .int .u64 ((ls.getD k 0 : Nat) : Int))] (by kernel_rfl) rfl ?_
    refine RL.done rfl (fun F_ hF_ hM_ => hK30 F_ _ [.blk p3 [.int .u64 0] 32, .blk p7 [.int .i64 0] 33, .blk p13 [.int .u64 (s : Int)] 32] _ hF_ hM_ H23 ?_)
    intro w31 H32
    have H32 : Hp w [] [.blk p3 [.int .u64 0] 32, .blk p7 [.int .i64 0] 33, .blk p13 [.int .u64 (s : Int)] 32, .obj D24 DF, .obj l25 oB27] w31 := H32
    refine RG.block ?_
    refine RG.seqK fun K33 hK34 => ?_
    refine RG.region (by kernel_rfl) ?_
    refine RL.sem (j := 1) (H32.ld (o := 0) (ty := 32) (v := .int .u64 (s : Int)) 2 rfl (by kernel_rfl) rfl) [2, 3, 4, 5, 11] [(2, pt p3 0), (3, pt p7 0), (4, pt p13 0), (5, .int .u64 ((ls.getD k 0 : Nat) : Int)), (11, .int .u64 (s : Int))] (by kernel_rfl) (by kernel_rfl) rfl ?_
    refine RL.run (j := 2) 1 [2, 3, 4, 11, 12] [(2, pt p3 0), (3, pt p7 0), (4, pt p13 0), (11, .int .u64 (s : Int)), (12, .int .u64 ((ls.getD k 0 : Nat) : Int))] (by kernel_rfl) rfl ?_
    refine RL.call (j := 3) (AAdd_calls s (ls.getD k 0) (show s < K by omega) hxK w31) (by kernel_rfl) rfl (fun e_ w35 hR => ?_)
    obtain ⟨rfl, H37⟩ := hR
    have H36 : Hp w [] [.blk p3 [.int .u64 0] 32, .blk p7 [.int .i64 0] 33, .blk p13 [.int .u64 (s : Int)] 32, .obj D24 DF, .obj l25 oB27] w35 := H32.callNil H37
    refine ⟨_, rfl, [2, 3, 4, 13], [(2, pt p3 0), (3, pt p7 0), (4, pt p13 0), (13, .tuple #[.int .u64 (((AAddV s (ls.getD k 0)) : Nat) : Int), .int .i64 (((AAddE s (ls.getD k 0)) : Nat) : Int)])], by kernel_rfl, ?_⟩
    refine RL.run (j := 8) 5 [2, 3, 4, 6, 7] [(2, pt p3 0), (3, pt p7 0), (4, pt p13 0), (6, .int .u64 (((AAddV s (ls.getD k 0)) : Nat) : Int)), (7, .int .i64 (((AAddE s (ls.getD k 0)) : Nat) : Int))] (by kernel_rfl) rfl ?_
    refine RL.k rfl hK34 (fun _ _ h => h) ?_
    refine RG.seqK fun K38 hK39 => ?_
    refine RG.seqK fun K40 hK41 => ?_
    refine RG.region (by kernel_rfl) ?_
    refine RL.run (j := 2) 2 [2, 3, 4, 6, 7, 17] [(2, pt p3 0), (3, pt p7 0), (4, pt p13 0), (6, .int .u64 (((AAddV s (ls.getD k 0)) : Nat) : Int)), (7, .int .i64 (((AAddE s (ls.getD k 0)) : Nat) : Int)), (17, .bool ((((AAddE s (ls.getD k 0)) : Nat) : Int) != 0))] (by kernel_rfl) rfl ?_
    refine RL.k rfl hK41 (fun _ _ h => h) ?_
    cases hb42 : ((((AAddE s (ls.getD k 0)) : Nat) : Int) != 0)
    · skip
      have hb42f : (((AAddE s (ls.getD k 0)) : Nat) : Int) = 0 := bne_eq_false_iff_eq.1 hb42
      refine RG.no rfl ?_
      refine RG.skipK hK39 (fun _ _ h => h) ?_
      refine RG.region (by kernel_rfl) ?_
      refine RL.run (j := 1) 1 [4, 19] [(4, pt p13 0), (19, .int .u64 (((AAddV s (ls.getD k 0)) : Nat) : Int))] (by kernel_rfl) rfl ?_
      obtain ⟨w43, r44, H45⟩ := H36.st (P := Try.prog) (o := 0) (ty := 32) (v := .int .u64 (((AAddV s (ls.getD k 0)) : Nat) : Int)) 2 rfl (by kernel_rfl) (by simp) rfl
      have H45 : Hp w [] [.blk p3 [.int .u64 0] 32, .blk p7 [.int .i64 0] 33, .blk p13 [.int .u64 (((AAddV s (ls.getD k 0)) : Nat) : Int)] 32, .obj D24 DF, .obj l25 oB27] w43 := H45
      refine RL.semU (j := 2) r44 [] [] (by kernel_rfl) rfl rfl rfl ?_
      have hA1 : AAddV s (ls.getD k 0) ≤ MX := by rcases AAdd_cases s (ls.getD k 0) with h | h | h <;> omega
      have hA2 : tot ls 0 = tot (ls.drop (k + 1)) (AAddV s (ls.getD k 0)) := by rcases AAdd_cases s (ls.getD k 0) with h | h | h <;> first | omega | (rw [hs2, hst, if_neg (by omega), if_neg (by omega), h.2.2.2])
      exact RL.done rfl (fun F_ hF_ hM_ => ⟨(AAddV s (ls.getD k 0)), ⟨hA1, hA2⟩, H45⟩)
    · skip
      have hb42f : (((AAddE s (ls.getD k 0)) : Nat) : Int) ≠ 0 := bne_iff_ne.1 hb42
      refine RG.yes rfl ?_
      refine RG.seqK fun K46 hK47 => ?_
      refine RG.region (by kernel_rfl) ?_
      refine RL.run (j := 1) 1 [2, 3, 18] [(2, pt p3 0), (3, pt p7 0), (18, .int .i64 (((AAddE s (ls.getD k 0)) : Nat) : Int))] (by kernel_rfl) rfl ?_
      obtain ⟨w48, r49, H50⟩ := H36.st (P := Try.prog) (o := 0) (ty := 32) (v := .int .u64 0) 0 rfl (by kernel_rfl) (by simp) rfl
      have H50 : Hp w [] [.blk p3 [.int .u64 0] 32, .blk p7 [.int .i64 0] 33, .blk p13 [.int .u64 (s : Int)] 32, .obj D24 DF, .obj l25 oB27] w48 := H50
      refine RL.semU (j := 2) r49 [2, 3, 18] [(2, pt p3 0), (3, pt p7 0), (18, .int .i64 (((AAddE s (ls.getD k 0)) : Nat) : Int))] (by kernel_rfl) rfl rfl rfl ?_
      obtain ⟨w51, r52, H53⟩ := H50.st (P := Try.prog) (o := 0) (ty := 33) (v := .int .i64 (((AAddE s (ls.getD k 0)) : Nat) : Int)) 1 rfl (by kernel_rfl) (by simp) rfl
      have H53 : Hp w [] [.blk p3 [.int .u64 0] 32, .blk p7 [.int .i64 (((AAddE s (ls.getD k 0)) : Nat) : Int)] 33, .blk p13 [.int .u64 (s : Int)] 32, .obj D24 DF, .obj l25 oB27] w51 := H53
      refine RL.semU (j := 3) r52 [2, 3] [(2, pt p3 0), (3, pt p7 0)] (by kernel_rfl) rfl rfl rfl ?_
      refine RL.k rfl hK47 (fun _ _ h => h) ?_
      refine RG.ret ?_
      have H54 : Hp w [] [.blk p3 [.int .u64 0] 32, .blk p7 [.int .i64 (((AAddE s (ls.getD k 0)) : Nat) : Int)] 33, .obj D24 DF, .obj l25 oB27] w51 := H53.sub (List.Sublist.cons_cons _ (List.Sublist.cons_cons _ (List.Sublist.cons _ (List.Sublist.cons_cons _ (List.Sublist.cons_cons _ (List.Sublist.slnil))))))
      intro F_ hF_ hM_
      exact ⟨(AAddE s (ls.getD k 0)), (by rcases AAdd_cases s (ls.getD k 0) with h | h | h <;> first | omega | (rw [hs2, hst, if_pos (by omega), h.2.1]) | (rw [hs2, hst, if_neg (by omega), if_pos (by omega), h.2.2.1])), H54⟩
  · skip
    rintro D58 s w55 hx56 H57
    refine RG.kk hK18 (fun _ _ h => h) ?_
    have H57 : Hp w [] [.blk p3 [.int .u64 0] 32, .blk p7 [.int .i64 0] 33, .blk p13 [.int .u64 (s : Int)] 32, .obj D58 DF] w55 := H57
    have ht : tot ls 0 = (0, s) := by rw [hx56.2, tot_end]
    refine RG.seqK fun K59 hK60 => ?_
    refine RG.region (by kernel_rfl) ?_
    refine RL.sem (j := 1) (H57.ld (o := 0) (ty := 32) (v := .int .u64 (s : Int)) 2 rfl (by kernel_rfl) rfl) [2, 3, 20] [(2, pt p3 0), (3, pt p7 0), (20, .int .u64 (s : Int))] (by kernel_rfl) (by kernel_rfl) rfl ?_
    obtain ⟨w61, r62, H63⟩ := H57.st (P := Try.prog) (o := 0) (ty := 32) (v := .int .u64 (s : Int)) 0 rfl (by kernel_rfl) (by simp) rfl
    have H63 : Hp w [] [.blk p3 [.int .u64 (s : Int)] 32, .blk p7 [.int .i64 0] 33, .blk p13 [.int .u64 (s : Int)] 32, .obj D58 DF] w61 := H63
    refine RL.semU (j := 2) r62 [2, 3] [(2, pt p3 0), (3, pt p7 0)] (by kernel_rfl) rfl rfl rfl ?_
    obtain ⟨w64, r65, H66⟩ := H63.st (P := Try.prog) (o := 0) (ty := 33) (v := .int .i64 0) 1 rfl (by kernel_rfl) (by simp) rfl
    have H66 : Hp w [] [.blk p3 [.int .u64 (s : Int)] 32, .blk p7 [.int .i64 0] 33, .blk p13 [.int .u64 (s : Int)] 32, .obj D58 DF] w64 := H66
    refine RL.semU (j := 3) r65 [2, 3] [(2, pt p3 0), (3, pt p7 0)] (by kernel_rfl) rfl rfl rfl ?_
    refine RL.k rfl hK60 (fun _ _ h => h) ?_
    refine RG.ret ?_
    have hD67 := H66.objAt 3 rfl
    have H68 : Hp w [] [.blk p3 [.int .u64 (s : Int)] 32, .blk p7 [.int .i64 0] 33, .blk p13 [.int .u64 (s : Int)] 32, .obj D58 (.deferred none)] (World.putObj w64 D58 (.deferred none)) := H66.putObj 3 (.deferred none) rfl
    intro F_ hF_ hM_
    refine hRet _ _ (postK_2 hD67 rfl (RV.cell rfl (H68.ld (o := 0) (ty := 32) (v := .int .u64 (s : Int)) 0 rfl (by kernel_rfl) rfl)) (RV.cell rfl (H68.ld (o := 0) (ty := 33) (v := .int .i64 0) 1 rfl (by kernel_rfl) rfl)) ?_ F_ hF_ hM_)
    rw [ht]
    exact ⟨rfl, H68.sub (List.nil_sublist _)⟩
  · skip
    rintro D72 s w69 hx70 H71
    intro F_ hF_ hM_
    have H71 : Hp w [] [.blk p3 [.int .u64 0] 32, .blk p7 [.int .i64 (s : Int)] 33, .obj D72 DF] w69 := H71
    have ht : tot ls 0 = (s, 0) := hx70
    have hD73 := H71.objAt 2 rfl
    have H74 : Hp w [] [.blk p3 [.int .u64 0] 32, .blk p7 [.int .i64 (s : Int)] 33, .obj D72 (.deferred none)] (World.putObj w69 D72 (.deferred none)) := H71.putObj 2 (.deferred none) rfl
    refine hRet _ _ (postK_2 hD73 rfl (RV.cell rfl (H74.ld (o := 0) (ty := 32) (v := .int .u64 0) 0 rfl (by kernel_rfl) rfl)) (RV.cell rfl (H74.ld (o := 0) (ty := 33) (v := .int .i64 (s : Int)) 1 rfl (by kernel_rfl) rfl)) ?_ F_ hF_ hM_)
    rw [ht]
    exact ⟨rfl, H74.sub (List.nil_sublist _)⟩
end Go.Proofs.Ytcedmbdahbdmaaa
set_option maxRecDepth 100000
namespace Go.Proofs.Ytcedmbdahbdmaaa
open Go.RowKit
theorem paysA_iter (outs : List TOut) (B : Option Addr) (cb : Nat) (hsh : ∀ x ∈ outs, x.lb.length ≤ 600) (hno : outs.length ≤ maxLen) (a : List UInt8) (ha : a.length = 20) (pa : Nat) (b1 b2 : Nat) : Iter Try.prog 55 #[pt b1 0, pt b2 0] (outs.filter (toA a)).length (fun k => #[.int .u64 (((payL (toA a) outs).getD k 0 : Nat) : Int)]) (fun W => W.cell? ⟨b1, 2, none⟩ = some (.slice B outs.length cb) ∧ W.cell? ⟨b2, 0, none⟩ = some (.func (.func 27) #[] #[pt pa 0]) ∧ RdS W B (outsC outs) ∧ (∀ x ∈ outs, x.Ok W []) ∧ Blk W pa (by8 a) 28) := by
  intro l J Jx hRd hst hy w h0
  have hno_ : outs.length ≤ 9223372036854775807 := hno
  rw [show (#[Value.func (.yield l) #[] #[]] ++ #[pt b1 0, pt b2 0] : Array Value) = #[.func (.yield l) #[] #[], pt b1 0, pt b2 0] by simp]
  refine calls_R (args := [.func (.yield l) #[] #[], pt b1 0, pt b2 0]) Try.func55 rfl Try.ntmps55 rfl ?_
  intro Q0 hRet hNor
  have H := Hp.start w
  have H : Hp w [] [] w := H
  refine RG.seqK fun K1 hK2 => ?_
  refine RG.region (by kernel_rfl) ?_
  refine RL.run (j := 1) 1 [0, 2, 6] [(0, .func (.yield l) #[] #[]), (2, pt b2 0), (6, pt b1 2)] (by kernel_rfl) rfl ?_
  refine RL.sem (j := 2) (run_ld1 (P := Try.prog) (ty := 24) (a := ⟨b1, 2, none⟩) (v := .slice B outs.length cb) (by kernel_rfl) (H.oldCell (hRd _ _ h0).1)) [0, 2, 7] [(0, .func (.yield l) #[] #[]), (2, pt b2 0), (7, .slice B outs.length cb)] (by kernel_rfl) (by kernel_rfl) rfl ?_
  refine RL.run (j := 4) 2 [0, 2, 7, 8, 9] [(0, .func (.yield l) #[] #[]), (2, pt b2 0), (7, .slice B outs.length cb), (8, .int .i64 (outs.length : Int)), (9, .int .i64 0)] (by kernel_rfl) rfl ?_
  refine RL.k rfl hK2 (fun _ _ h => h) ?_
  refine RG.block ?_
  refine RG.fit [0, 2, 7, 8, 9] (M' := [(0, .func (.yield l) #[] #[]), (2, pt b2 0), (7, .slice B outs.length cb), (8, .int .i64 (outs.length : Int)), (9, .int .i64 0)]) (by kernel_rfl) ?_
  refine RG.loop (X := Nat) (fun i => [(0, .func (.yield l) #[] #[]), (2, pt b2 0), (7, .slice B outs.length cb), (8, .int .i64 (outs.length : Int)), (9, .int .i64 (i : Int))]) (fun i w_ => i ≤ outs.length ∧ J (sel (toA a) outs i) w_) (fun i => outs.length - i) 0 [0, 2, 7, 8, 9] (by kernel_rfl) ⟨Nat.zero_le _, h0⟩ ?_
  rintro i wk ⟨hil, hJk⟩
  have H3 := Hp.start wk
  refine RG.eq (M' := [(0, .func (.yield l) #[] #[]), (2, pt b2 0), (7, .slice B outs.length cb), (8, .int .i64 (outs.length : Int)), (9, .int .i64 (i : Int))]) rfl ?_
  refine RG.seqK fun K4 hK5 => ?_
  refine RG.region (by kernel_rfl) ?_
  refine RL.run (j := 1) 1 [0, 2, 7, 8, 9, 10] [(0, .func (.yield l) #[] #[]), (2, pt b2 0), (7, .slice B outs.length cb), (8, .int .i64 (outs.length : Int)), (9, .int .i64 (i : Int)), (10, .bool (decide ((i : Int) < (outs.length : Int))))] (by kernel_rfl) rfl ?_
  refine RL.k rfl hK5 (fun _ _ h => h) ?_
  refine RG.seqK fun K6 hK7 => ?_
  cases hb8 : (decide ((i : Int) < (outs.length : Int)))
  · skip
    have hb8f := of_decide_eq_false hb8
    refine RG.no rfl ?_
    refine fun F_ hF_ hM_ => wpIn_exit ?_
    refine hNor _ _ (postM_0 rfl  ?_ F_ hF_ hM_)
    exact ⟨⟨_, rfl⟩, .inl (by rw [← sel_end (q := (toA a)) (l := outs) (i := i) (by omega)]; exact hJk)⟩
  · skip
    have hb8f := of_decide_eq_true hb8
    refine RG.yes rfl ?_
    refine RG.skipK hK7 (fun _ _ h => h) ?_
    refine RG.seqK fun K9 hK10 => ?_
    refine RG.block ?_
    refine RG.seqK fun K11 hK12 => ?_
    refine RG.region (by kernel_rfl) ?_
    obtain ⟨x13, hx14⟩ : ∃ x, outs[i]? = some x := ⟨_, List.getElem?_eq_getElem (by omega)⟩
    have hok15 := (hRd _ _ hJk).2.2.2.1 x13 (List.mem_of_getElem? hx14)
    refine RL.sem (j := 1) (run_idxRdN (P := Try.prog) (k := .i64) (t := 24) (sz := 2) (A := B) (len := outs.length) (cap := cb) (j := i) (by kernel_rfl) rfl ((hRd _ _ hJk).2.2.1.hp H3) (outsC_length _) (by decide) (by omega)) [0, 2, 7, 8, 9, 11] [(0, .func (.yield l) #[] #[]), (2, pt b2 0), (7, .slice B outs.length cb), (8, .int .i64 (outs.length : Int)), (9, .int .i64 (i : Int)), (11, .pointer (Option.map (fun x => Addr.add x (i * 2)) B))] (by kernel_rfl) (by kernel_rfl) rfl ?_
    refine RL.sem (j := 2) (run_ldRdA (P := Try.prog) (ty := 40) (A := B) (o := (i * 2)) (m := 2) (sub := [.int .u64 (x13.pv : Int), .slice x13.B x13.lb.length x13.lc]) (by kernel_rfl) ((hRd _ _ hJk).2.2.1.hp H3) (outsC_cut hx14) (rfl) (by decide)) [0, 2, 7, 8, 9, 12] [(0, .func (.yield l) #[] #[]), (2, pt b2 0), (7, .slice B outs.length cb), (8, .int .i64 (outs.length : Int)), (9, .int .i64 (i : Int)), (12, .agg #[.int .u64 (x13.pv : Int), .slice x13.B x13.lb.length x13.lc])] (by kernel_rfl) (by kernel_rfl) rfl ?_
    obtain ⟨p16, w17, r18, H19⟩ := H3.alloc (P := Try.prog) 40 [.int .u64 0, .slice none 0 0] (by kernel_rfl)
    have H19 : Hp wk [] [.blk p16 [.int .u64 0, .slice none 0 0] 40] w17 := H19
    refine RL.sem (j := 3) (r18) [0, 2, 5, 7, 8, 9, 12] [(0, .func (.yield l) #[] #[]), (2, pt b2 0), (5, pt p16 0), (7, .slice B outs.length cb), (8, .int .i64 (outs.length : Int)), (9, .int .i64 (i : Int)), (12, .agg #[.int .u64 (x13.pv : Int), .slice x13.B x13.lb.length x13.lc])] (by kernel_rfl) (by kernel_rfl) rfl ?_
    obtain ⟨w20, r21, H22⟩ := H19.stA (P := Try.prog) (o := 0) (vs := [.int .u64 (x13.pv : Int), .slice x13.B x13.lb.length x13.lc]) (ty := 40) (m := 2) 0 rfl (by kernel_rfl) rfl (by simp) (by simp [Value.oneCell'])
    have H22 : Hp wk [] [.blk p16 [.int .u64 (x13.pv : Int), .slice x13.B x13.lb.length x13.lc] 40] w20 := H22
    refine RL.semU (j := 4) r21 [0, 2, 5, 7, 8, 9] [(0, .func (.yield l) #[] #[]), (2, pt b2 0), (5, pt p16 0), (7, .slice B outs.length cb), (8, .int .i64 (outs.length : Int)), (9, .int .i64 (i : Int))] (by kernel_rfl) rfl rfl rfl ?_
    refine RL.k rfl hK12 (fun _ _ h => h) ?_
    refine RG.seqK fun K23 hK24 => ?_
    refine RG.region (by kernel_rfl) ?_
    refine RL.sem (j := 1) (run_ld1 (P := Try.prog) (ty := 77) (a := ⟨b2, 0, none⟩) (v := .func (.func 27) #[] #[pt pa 0]) (by kernel_rfl) (H22.oldCell (hRd _ _ hJk).2.1)) [0, 2, 5, 7, 8, 9, 13] [(0, .func (.yield l) #[] #[]), (2, pt b2 0), (5, pt p16 0), (7, .slice B outs.length cb), (8, .int .i64 (outs.length : Int)), (9, .int .i64 (i : Int)), (13, .func (.func 27) #[] #[pt pa 0])] (by kernel_rfl) (by kernel_rfl) rfl ?_
    refine RL.sem (j := 2) (H22.ldA (o := 0) (ty := 40) (m := 2) (sub := [.int .u64 (x13.pv : Int), .slice x13.B x13.lb.length x13.lc]) 0 rfl (by kernel_rfl) rfl rfl) [0, 2, 5, 7, 8, 9, 13, 14] [(0, .func (.yield l) #[] #[]), (2, pt b2 0), (5, pt p16 0), (7, .slice B outs.length cb), (8, .int .i64 (outs.length : Int)), (9, .int .i64 (i : Int)), (13, .func (.func 27) #[] #[pt pa 0]), (14, .agg #[.int .u64 (x13.pv : Int), .slice x13.B x13.lb.length x13.lc])] (by kernel_rfl) (by kernel_rfl) rfl ?_
    refine RL.call (j := 3) (Paid1_calls x13 a pa w20 ha (hok15.mid (A' := []) H22) (Nat.le_trans (hsh x13 (List.mem_of_getElem? hx14)) (by decide)) ((hRd _ _ hJk).2.2.2.2.old H22)) (by kernel_rfl) rfl (fun e_ w25 hR => ?_)
    obtain ⟨rfl, H27⟩ := hR
    have H26 : Hp wk [] [.blk p16 [.int .u64 (x13.pv : Int), .slice x13.B x13.lb.length x13.lc] 40] w25 := H22.callNil H27
    refine ⟨_, rfl, [0, 2, 5, 7, 8, 9, 15], [(0, .func (.yield l) #[] #[]), (2, pt b2 0), (5, pt p16 0), (7, .slice B outs.length cb), (8, .int .i64 (outs.length : Int)), (9, .int .i64 (i : Int)), (15, .bool (toA a x13))], by kernel_rfl, ?_⟩
    refine RL.run (j := 4) 1 [0, 2, 5, 7, 8, 9, 16] [(0, .func (.yield l) #[] #[]), (2, pt b2 0), (5, pt p16 0), (7, .slice B outs.length cb), (8, .int .i64 (outs.length : Int)), (9, .int .i64 (i : Int)), (16, .bool (toA a x13))] (by kernel_rfl) rfl ?_
    cases hb28 : (toA a x13)
    · skip
      refine RL.run (j := 10) 6 [0, 2, 7, 8, 9, 22] [(0, .func (.yield l) #[] #[]), (2, pt b2 0), (7, .slice B outs.length cb), (8, .int .i64 (outs.length : Int)), (9, .int .i64 (i : Int)), (22, .bool false)] (by kernel_rfl) rfl ?_
      refine RL.k rfl hK24 (fun _ _ h => h) ?_
      refine RG.no rfl ?_
      refine RG.skipK hK10 (fun _ _ h => h) ?_
      refine RG.region (by kernel_rfl) ?_
      refine RL.run (j := 2) 2 [0, 2, 7, 8, 9] [(0, .func (.yield l) #[] #[]), (2, pt b2 0), (7, .slice B outs.length cb), (8, .int .i64 (outs.length : Int)), (9, .int .i64 (IntKind.i64.wrap ((i : Int) + 1)))] (by kernel_rfl) rfl ?_
      have e29 : (IntKind.i64.wrap ((i : Int) + 1)) = ((i + 1 : Nat) : Int) := by rw [in_i64 (by omega)]; omega
      refine RL.eq (M' := [(0, .func (.yield l) #[] #[]), (2, pt b2 0), (7, .slice B outs.length cb), (8, .int .i64 (outs.length : Int)), (9, .int .i64 ((i + 1 : Nat) : Int))]) (by rw [e29]) ?_
      clear e29
      refine RL.fit (ts := [0, 2, 7, 8, 9]) (M' := [(0, .func (.yield l) #[] #[]), (2, pt b2 0), (7, .slice B outs.length cb), (8, .int .i64 (outs.length : Int)), (9, .int .i64 ((i + 1 : Nat) : Int))]) (by kernel_rfl) ?_
      refine RL.eq (M' := [(0, .func (.yield l) #[] #[]), (2, pt b2 0), (7, .slice B outs.length cb), (8, .int .i64 (outs.length : Int)), (9, .int .i64 (((i + 1) : Nat) : Int))]) (by rfl) ?_
      exact RL.again (i + 1) [0, 2, 7, 8, 9] rfl (by kernel_rfl) (by show outs.length - (i + 1) < outs.length - i; omega) ⟨by omega, by rw [sel_no hx14 hb28]; exact hst _ _ _ hJk H26.below⟩
    · skip
      refine RL.run (j := 6) 2 [0, 2, 7, 8, 9, 16, 17, 18] [(0, .func (.yield l) #[] #[]), (2, pt b2 0), (7, .slice B outs.length cb), (8, .int .i64 (outs.length : Int)), (9, .int .i64 (i : Int)), (16, .bool true), (17, .func (.yield l) #[] #[]), (18, pt p16 0)] (by kernel_rfl) rfl ?_
      refine RL.sem (j := 7) (H26.ld (o := 0) (ty := 32) (v := .int .u64 (x13.pv : Int)) 0 rfl (by kernel_rfl) rfl) [0, 2, 7, 8, 9, 16, 17, 19] [(0, .func (.yield l) #[] #[]), (2, pt b2 0), (7, .slice B outs.length cb), (8, .int .i64 (outs.length : Int)), (9, .int .i64 (i : Int)), (16, .bool true), (17, .func (.yield l) #[] #[]), (19, .int .u64 (x13.pv : Int))] (by kernel_rfl) (by kernel_rfl) rfl ?_
      refine RL.yield (j := 8) ((by have h_ := hy (sel (toA a) outs i) w25 (sel_lt hx14 hb28) (hst _ _ _ hJk H26.below); simp only [payL_at (q := (toA a)) hx14 hb28] at h_; exact h_)) (by kernel_rfl) rfl (fun e_ w30 hR34 => ?_)
      obtain ⟨b31, rfl, hyt32, hyf33⟩ := yield_cases hR34
      have H35 := Hp.start w30
      refine ⟨_, rfl, [0, 2, 7, 8, 9, 16, 20], [(0, .func (.yield l) #[] #[]), (2, pt b2 0), (7, .slice B outs.length cb), (8, .int .i64 (outs.length : Int)), (9, .int .i64 (i : Int)), (16, .bool true), (20, .bool b31)], by kernel_rfl, ?_⟩
      refine RL.run (j := 10) 2 [0, 2, 7, 8, 9, 22] [(0, .func (.yield l) #[] #[]), (2, pt b2 0), (7, .slice B outs.length cb), (8, .int .i64 (outs.length : Int)), (9, .int .i64 (i : Int)), (22, .bool (!b31))] (by kernel_rfl) rfl ?_
      refine RL.k rfl hK24 (fun _ _ h => h) ?_
      rcases (Bool.eq_false_or_eq_true b31).symm with hb36 | hb36
      · skip
        refine RG.eq (M' := [(0, .func (.yield l) #[] #[]), (2, pt b2 0), (7, .slice B outs.length cb), (8, .int .i64 (outs.length : Int)), (9, .int .i64 (i : Int)), (22, .bool true)]) (by first | (rw [hb36]; done) | (rw [hb36]; rfl)) ?_
        have hJ37 := hyf33 hb36
        refine RG.yes rfl ?_
        refine RG.ret ?_
        intro F_ hF_ hM_
        refine hRet _ _ (postM_0 rfl  ?_ F_ hF_ hM_)
        exact ⟨⟨_, rfl⟩, .inr hJ37⟩
      · skip
        refine RG.eq (M' := [(0, .func (.yield l) #[] #[]), (2, pt b2 0), (7, .slice B outs.length cb), (8, .int .i64 (outs.length : Int)), (9, .int .i64 (i : Int)), (22, .bool false)]) (by first | (rw [hb36]; done) | (rw [hb36]; rfl)) ?_
        have hJ38 := hyt32 hb36
        refine RG.no rfl ?_
        refine RG.skipK hK10 (fun _ _ h => h) ?_
        refine RG.region (by kernel_rfl) ?_
        refine RL.run (j := 2) 2 [0, 2, 7, 8, 9] [(0, .func (.yield l) #[] #[]), (2, pt b2 0), (7, .slice B outs.length cb), (8, .int .i64 (outs.length : Int)), (9, .int .i64 (IntKind.i64.wrap ((i : Int) + 1)))] (by kernel_rfl) rfl ?_
        have e39 : (IntKind.i64.wrap ((i : Int) + 1)) = ((i + 1 : Nat) : Int) := by rw [in_i64 (by omega)]; omega
        refine RL.eq (M' := [(0, .func (.yield l) #[] #[]), (2, pt b2 0), (7, .slice B outs.length cb), (8, .int .i64 (outs.length : Int)), (9, .int .i64 ((i + 1 : Nat) : Int))]) (by rw [e39]) ?_
        clear e39
        refine RL.fit (ts := [0, 2, 7, 8, 9]) (M' := [(0, .func (.yield l) #[] #[]), (2, pt b2 0), (7, .slice B outs.length cb), (8, .int .i64 (outs.length : Int)), (9, .int .i64 ((i + 1 : Nat) : Int))]) (by kernel_rfl) ?_
        refine RL.eq (M' := [(0, .func (.yield l) #[] #[]), (2, pt b2 0), (7, .slice B outs.length cb), (8, .int .i64 (outs.length : Int)), (9, .int .i64 (((i + 1) : Nat) : Int))]) (by rfl) ?_
        exact RL.again (i + 1) [0, 2, 7, 8, 9] rfl (by kernel_rfl) (by show outs.length - (i + 1) < outs.length - i; omega) ⟨by omega, by rw [sel_yes hx14 hb28]; exact hJ38⟩
theorem paysT_iter (outs : List TOut) (B : Option Addr) (cb : Nat) (hsh : ∀ x ∈ outs, x.lb.length ≤ 600) (hno : outs.length ≤ maxLen) (b1 b2 : Nat) : Iter Try.prog 55 #[pt b1 0, pt b2 0] (outs.filter (fun _ => true)).length (fun k => #[.int .u64 (((payL (fun _ => true) outs).getD k 0 : Nat) : Int)]) (fun W => W.cell? ⟨b1, 2, none⟩ = some (.slice B outs.length cb) ∧ W.cell? ⟨b2, 0, none⟩ = some (.func (.func 28) #[] #[]) ∧ RdS W B (outsC outs) ∧ (∀ x ∈ outs, x.Ok W [])) := by
  intro l J Jx hRd hst hy w h0
  have hno_ : outs.length ≤ 9223372036854775807 := hno
  rw [show (#[Value.func (.yield l) #[] #[]] ++ #[pt b1 0, pt b2 0] : Array Value) = #[.func (.yield l) #[] #[], pt b1 0, pt b2 0] by simp]
  refine calls_R (args := [.func (.yield l) #[] #[], pt b1 0, pt b2 0]) Try.func55 rfl Try.ntmps55 rfl ?_
  intro Q0 hRet hNor
  have H := Hp.start w
  have H : Hp w [] [] w := H
  refine RG.seqK fun K1 hK2 => ?_
  refine RG.region (by kernel_rfl) ?_
  refine RL.run (j := 1) 1 [0, 2, 6] [(0, .func (.yield l) #[] #[]), (2, pt b2 0), (6, pt b1 2)] (by kernel_rfl) rfl ?_
  refine RL.sem (j := 2) (run_ld1 (P := Try.prog) (ty := 24) (a := ⟨b1, 2, none⟩) (v := .slice B outs.length cb) (by kernel_rfl) (H.oldCell (hRd _ _ h0).1)) [0, 2, 7] [(0, .func (.yield l) #[] #[]), (2, pt b2 0), (7, .slice B outs.length cb)] (by kernel_rfl) (by kernel_rfl) rfl ?_
  refine RL.run (j := 4) 2 [0, 2, 7, 8, 9] [(0, .func (.yield l) #[] #[]), (2, pt b2 0), (7, .slice B outs.length cb), (8, .int .i64 (outs.length : Int)), (9, .int .i64 0)] (by kernel_rfl) rfl ?_
  refine RL.k rfl hK2 (fun _ _ h => h) ?_
  refine RG.block ?_
  refine RG.fit [0, 2, 7, 8, 9] (M' := [(0, .func (.yield l) #[] #[]), (2, pt b2 0), (7, .slice B outs.length cb), (8, .int .i64 (outs.length : Int)), (9, .int .i64 0)]) (by kernel_rfl) ?_
  refine RG.loop (X := Nat) (fun i => [(0, .func (.yield l) #[] #[]), (2, pt b2 0), (7, .slice B outs.length cb), (8, .int .i64 (outs.length : Int)), (9, .int .i64 (i : Int))]) (fun i w_ => i ≤ outs.length ∧ J (sel (fun _ => true) outs i) w_) (fun i => outs.length - i) 0 [0, 2, 7, 8, 9] (by kernel_rfl) ⟨Nat.zero_le _, h0⟩ ?_
  rintro i wk ⟨hil, hJk⟩
  have H3 := Hp.start wk
  refine RG.eq (M' := [(0, .func (.yield l) #[] #[]), (2, pt b2 0), (7, .slice B outs.length cb), (8, .int .i64 (outs.length : Int)), (9, .int .i64 (i : Int))]) rfl ?_
  refine RG.seqK fun K4 hK5 => ?_
  refine RG.region (by kernel_rfl) ?_
  refine RL.run (j := 1) 1 [0, 2, 7, 8, 9, 10] [(0, .func (.yield l) #[] #[]), (2, pt b2 0), (7, .slice B outs.length cb), (8, .int .i64 (outs.length : Int)), (9, .int .i64 (i : Int)), (10, .bool (decide ((i : Int) < (outs.length : Int))))] (by kernel_rfl) rfl ?_
  refine RL.k rfl hK5 (fun _ _ h => h) ?_
  refine RG.seqK fun K6 hK7 => ?_
  cases hb8 : (decide ((i : Int) < (outs.length : Int)))
  · skip
    have hb8f := of_decide_eq_false hb8
    refine RG.no rfl ?_
    refine fun F_ hF_ hM_ => wpIn_exit ?_
    refine hNor _ _ (postM_0 rfl  ?_ F_ hF_ hM_)
    exact ⟨⟨_, rfl⟩, .inl (by rw [← sel_end (q := (fun _ => true)) (l := outs) (i := i) (by omega)]; exact hJk)⟩
  · skip
    have hb8f := of_decide_eq_true hb8
    refine RG.yes rfl ?_
    refine RG.skipK hK7 (fun _ _ h => h) ?_
    refine RG.seqK fun K9 hK10 => ?_
    refine RG.block ?_
    refine RG.seqK fun K11 hK12 => ?_
    refine RG.region (by kernel_rfl) ?_
    obtain ⟨x13, hx14⟩ : ∃ x, outs[i]? = some x := ⟨_, List.getElem?_eq_getElem (by omega)⟩
    have hok15 := (hRd _ _ hJk).2.2.2 x13 (List.mem_of_getElem? hx14)
    refine RL.sem (j := 1) (run_idxRdN (P := Try.prog) (k := .i64) (t := 24) (sz := 2) (A := B) (len := outs.length) (cap := cb) (j := i) (by kernel_rfl) rfl ((hRd _ _ hJk).2.2.1.hp H3) (outsC_length _) (by decide) (by omega)) [0, 2, 7, 8, 9, 11] [(0, .func (.yield l) #[] #[]), (2, pt b2 0), (7, .slice B outs.length cb), (8, .int .i64 (outs.length : Int)), (9, .int .i64 (i : Int)), (11, .pointer (Option.map (fun x => Addr.add x (i * 2)) B))] (by kernel_rfl) (by kernel_rfl) rfl ?_
    refine RL.sem (j := 2) (run_ldRdA (P := Try.prog) (ty := 40) (A := B) (o := (i * 2)) (m := 2) (sub := [.int .u64 (x13.pv : Int), .slice x13.B x13.lb.length x13.lc]) (by kernel_rfl) ((hRd _ _ hJk).2.2.1.hp H3) (outsC_cut hx14) (rfl) (by decide)) [0, 2, 7, 8, 9, 12] [(0, .func (.yield l) #[] #[]), (2, pt b2 0), (7, .slice B outs.length cb), (8, .int .i64 (outs.length : Int)), (9, .int .i64 (i : Int)), (12, .agg #[.int .u64 (x13.pv : Int), .slice x13.B x13.lb.length x13.lc])] (by kernel_rfl) (by kernel_rfl) rfl ?_
    obtain ⟨p16, w17, r18, H19⟩ := H3.alloc (P := Try.prog) 40 [.int .u64 0, .slice none 0 0] (by kernel_rfl)
    have H19 : Hp wk [] [.blk p16 [.int .u64 0, .slice none 0 0] 40] w17 := H19
    refine RL.sem (j := 3) (r18) [0, 2, 5, 7, 8, 9, 12] [(0, .func (.yield l) #[] #[]), (2, pt b2 0), (5, pt p16 0), (7, .slice B outs.length cb), (8, .int .i64 (outs.length : Int)), (9, .int .i64 (i : Int)), (12, .agg #[.int .u64 (x13.pv : Int), .slice x13.B x13.lb.length x13.lc])] (by kernel_rfl) (by kernel_rfl) rfl ?_
    obtain ⟨w20, r21, H22⟩ := H19.stA (P := Try.prog) (o := 0) (vs := [.int .u64 (x13.pv : Int), .slice x13.B x13.lb.length x13.lc]) (ty := 40) (m := 2) 0 rfl (by kernel_rfl) rfl (by simp) (by simp [Value.oneCell'])
    have H22 : Hp wk [] [.blk p16 [.int .u64 (x13.pv : Int), .slice x13.B x13.lb.length x13.lc] 40] w20 := H22
    refine RL.semU (j := 4) r21 [0, 2, 5, 7, 8, 9] [(0, .func (.yield l) #[] #[]), (2, pt b2 0), (5, pt p16 0), (7, .slice B outs.length cb), (8, .int .i64 (outs.length : Int)), (9, .int .i64 (i : Int))] (by kernel_rfl) rfl rfl rfl ?_
    refine RL.k rfl hK12 (fun _ _ h => h) ?_
    refine RG.seqK fun K23 hK24 => ?_
    refine RG.region (by kernel_rfl) ?_
    refine RL.sem (j := 1) (run_ld1 (P := Try.prog) (ty := 77) (a := ⟨b2, 0, none⟩) (v := .func (.func 28) #[] #[]) (by kernel_rfl) (H22.oldCell (hRd _ _ hJk).2.1)) [0, 2, 5, 7, 8, 9, 13] [(0, .func (.yield l) #[] #[]), (2, pt b2 0), (5, pt p16 0), (7, .slice B outs.length cb), (8, .int .i64 (outs.length : Int)), (9, .int .i64 (i : Int)), (13, .func (.func 28) #[] #[])] (by kernel_rfl) (by kernel_rfl) rfl ?_
    refine RL.sem (j := 2) (H22.ldA (o := 0) (ty := 40) (m := 2) (sub := [.int .u64 (x13.pv : Int), .slice x13.B x13.lb.length x13.lc]) 0 rfl (by kernel_rfl) rfl rfl) [0, 2, 5, 7, 8, 9, 13, 14] [(0, .func (.yield l) #[] #[]), (2, pt b2 0), (5, pt p16 0), (7, .slice B outs.length cb), (8, .int .i64 (outs.length : Int)), (9, .int .i64 (i : Int)), (13, .func (.func 28) #[] #[]), (14, .agg #[.int .u64 (x13.pv : Int), .slice x13.B x13.lb.length x13.lc])] (by kernel_rfl) (by kernel_rfl) rfl ?_
    refine RL.call (j := 3) (Total1_calls x13 w20) (by kernel_rfl) rfl (fun e_ w25 hR => ?_)
    obtain ⟨rfl, H27⟩ := hR
    have H26 : Hp wk [] [.blk p16 [.int .u64 (x13.pv : Int), .slice x13.B x13.lb.length x13.lc] 40] w25 := H22.callNil H27
    refine ⟨_, rfl, [0, 2, 5, 7, 8, 9, 15], [(0, .func (.yield l) #[] #[]), (2, pt b2 0), (5, pt p16 0), (7, .slice B outs.length cb), (8, .int .i64 (outs.length : Int)), (9, .int .i64 (i : Int)), (15, .bool true)], by kernel_rfl, ?_⟩
    refine RL.run (j := 6) 3 [0, 2, 7, 8, 9, 16, 17, 18] [(0, .func (.yield l) #[] #[]), (2, pt b2 0), (7, .slice B outs.length cb), (8, .int .i64 (outs.length : Int)), (9, .int .i64 (i : Int)), (16, .bool true), (17, .func (.yield l) #[] #[]), (18, pt p16 0)] (by kernel_rfl) rfl ?_
    refine RL.sem (j := 7) (H26.ld (o := 0) (ty := 32) (v := .int .u64 (x13.pv : Int)) 0 rfl (by kernel_rfl) rfl) [0, 2, 7, 8, 9, 16, 17, 19] [(0, .func (.yield l) #[] #[]), (2, pt b2 0), (7, .slice B outs.length cb), (8, .int .i64 (outs.length : Int)), (9, .int .i64 (i : Int)), (16, .bool true), (17, .func (.yield l) #[] #[]), (19, .int .u64 (x13.pv : Int))] (by kernel_rfl) (by kernel_rfl) rfl ?_
    refine RL.yield (j := 8) ((by have h_ := hy (sel (fun _ => true) outs i) w25 (sel_lt hx14 rfl) (hst _ _ _ hJk H26.below); simp only [payL_at (q := (fun _ => true)) hx14 rfl] at h_; exact h_)) (by kernel_rfl) rfl (fun e_ w28 hR32 => ?_)
    obtain ⟨b29, rfl, hyt30, hyf31⟩ := yield_cases hR32
    have H33 := Hp.start w28
    refine ⟨_, rfl, [0, 2, 7, 8, 9, 16, 20], [(0, .func (.yield l) #[] #[]), (2, pt b2 0), (7, .slice B outs.length cb), (8, .int .i64 (outs.length : Int)), (9, .int .i64 (i : Int)), (16, .bool true), (20, .bool b29)], by kernel_rfl, ?_⟩
    refine RL.run (j := 10) 2 [0, 2, 7, 8, 9, 22] [(0, .func (.yield l) #[] #[]), (2, pt b2 0), (7, .slice B outs.length cb), (8, .int .i64 (outs.length : Int)), (9, .int .i64 (i : Int)), (22, .bool (!b29))] (by kernel_rfl) rfl ?_
    refine RL.k rfl hK24 (fun _ _ h => h) ?_
    rcases (Bool.eq_false_or_eq_true b29).symm with hb34 | hb34
    · skip
      refine RG.eq (M' := [(0, .func (.yield l) #[] #[]), (2, pt b2 0), (7, .slice B outs.length cb), (8, .int .i64 (outs.length : Int)), (9, .int .i64 (i : Int)), (22, .bool true)]) (by first | (rw [hb34]; done) | (rw [hb34]; rfl)) ?_
      have hJ35 := hyf31 hb34
      refine RG.yes rfl ?_
      refine RG.ret ?_
      intro F_ hF_ hM_
      refine hRet _ _ (postM_0 rfl  ?_ F_ hF_ hM_)
      exact ⟨⟨_, rfl⟩, .inr hJ35⟩
    · skip
      refine RG.eq (M' := [(0, .func (.yield l) #[] #[]), (2, pt b2 0), (7, .slice B outs.length cb), (8, .int .i64 (outs.length : Int)), (9, .int .i64 (i : Int)), (22, .bool false)]) (by first | (rw [hb34]; done) | (rw [hb34]; rfl)) ?_
      have hJ36 := hyt30 hb34
      refine RG.no rfl ?_
      refine RG.skipK hK10 (fun _ _ h => h) ?_
      refine RG.region (by kernel_rfl) ?_
      refine RL.run (j := 2) 2 [0, 2, 7, 8, 9] [(0, .func (.yield l) #[] #[]), (2, pt b2 0), (7, .slice B outs.length cb), (8, .int .i64 (outs.length : Int)), (9, .int .i64 (IntKind.i64.wrap ((i : Int) + 1)))] (by kernel_rfl) rfl ?_
      have e37 : (IntKind.i64.wrap ((i : Int) + 1)) = ((i + 1 : Nat) : Int) := by rw [in_i64 (by omega)]; omega
      refine RL.eq (M' := [(0, .func (.yield l) #[] #[]), (2, pt b2 0), (7, .slice B outs.length cb), (8, .int .i64 (outs.length : Int)), (9, .int .i64 ((i + 1 : Nat) : Int))]) (by rw [e37]) ?_
      clear e37
      refine RL.fit (ts := [0, 2, 7, 8, 9]) (M' := [(0, .func (.yield l) #[] #[]), (2, pt b2 0), (7, .slice B outs.length cb), (8, .int .i64 (outs.length : Int)), (9, .int .i64 ((i + 1 : Nat) : Int))]) (by kernel_rfl) ?_
      refine RL.eq (M' := [(0, .func (.yield l) #[] #[]), (2, pt b2 0), (7, .slice B outs.length cb), (8, .int .i64 (outs.length : Int)), (9, .int .i64 (((i + 1) : Nat) : Int))]) (by rfl) ?_
      exact RL.again (i + 1) [0, 2, 7, 8, 9] rfl (by kernel_rfl) (by show outs.length - (i + 1) < outs.length - i; omega) ⟨by omega, by rw [sel_yes hx14 rfl]; exact hJ36⟩
theorem PaysA_calls (v : Nat) (ins : List TIn) (A : Option Addr) (ca : Nat) (outs : List TOut) (B : Option Addr) (cb : Nat) (lt : Nat) (a : List UInt8) (pa : Nat) (w : World) (hv : v < 4294967296) (hlt : lt < 4294967296) (hIns : RdS w A (insC ins)) (hI : ∀ x ∈ ins, x.Ok w []) (hOuts : RdS w B (outsC outs)) (hO : ∀ x ∈ outs, x.Ok w []) (hni : ins.length ≤ maxLen) (hno : outs.length ≤ maxLen) (hsh : ∀ x ∈ outs, x.lb.length ≤ 600) (ha : a.length = 20) (hpb : Blk w pa (by8 a) 28) : Calls Try.prog 26 #[.agg #[.int .u32 (v : Int), .slice A ins.length ca, .slice B outs.length cb, .int .u32 (lt : Int)], .func (.func 27) #[] #[pt pa 0]] w fun e w' => e = .returned (.tuple #[.int .u64 (((tot (payL (toA a) outs) 0).2 : Nat) : Int), .int .i64 (((tot (payL (toA a) outs) 0).1 : Nat) : Int)]) ∧ Hp w [] [] w' := by
  refine calls_G (args := [.agg #[.int .u32 (v : Int), .slice A ins.length ca, .slice B outs.length cb, .int .u32 (lt : Int)], .func (.func 27) #[] #[pt pa 0]]) Try.func26 rfl Try.ntmps26 rfl ?_
  intro Q0 hRet hNor hPan
  have H := Hp.start w
  have H : Hp w [] [] w := H
  refine G.seqK fun K1 hK2 => ?_
  refine G.region ?_
  obtain ⟨p3, w4, r5, H6⟩ := H.box (P := Try.prog) 26 [.int .u32 (v : Int), .slice A ins.length ca, .slice B outs.length cb, .int .u32 (lt : Int)] (.agg #[.int .u32 (v : Int), .slice A ins.length ca, .slice B outs.length cb, .int .u32 (lt : Int)]) rfl
  have H6 : Hp w [] [.blk p3 [.int .u32 (v : Int), .slice A ins.length ca, .slice B outs.length cb, .int .u32 (lt : Int)] 26] w4 := H6
  refine GL.sem (j := 1) (r5) [1, 2] [(1, .func (.func 27) #[] #[pt pa 0]), (2, pt p3 0)] (by kernel_rfl) (by kernel_rfl) rfl ?_
  obtain ⟨p7, w8, r9, H10⟩ := H6.box (P := Try.prog) 77 [.func (.func 27) #[] #[pt pa 0]] (.func (.func 27) #[] #[pt pa 0]) rfl
  have H10 : Hp w [] [.blk p3 [.int .u32 (v : Int), .slice A ins.length ca, .slice B outs.length cb, .int .u32 (lt : Int)] 26, .blk p7 [.func (.func 27) #[] #[pt pa 0]] 77] w8 := H10
  refine GL.sem (j := 2) (r9) [2, 3] [(2, pt p3 0), (3, pt p7 0)] (by kernel_rfl) (by kernel_rfl) rfl ?_
  refine GL.run (j := 4) 2 [2, 3] [(2, pt p3 0), (3, pt p7 0)] (by kernel_rfl) rfl ?_
  refine GL.k rfl hK2 (fun _ _ h => h) ?_
  refine G.seqK fun K11 hK12 => ?_
  refine G.region ?_
  refine GL.run (j := 1) 1 [6] [(6, .func (.func 55) #[] #[pt p3 0, pt p7 0])] (by kernel_rfl) rfl ?_
  refine GL.call (j := 2) (Total_calls (payL (toA a) outs) (payL_lt hO) 55 #[pt p3 0, pt p7 0] (fun W => W.cell? ⟨p3, 2, none⟩ = some (.slice B outs.length cb) ∧ W.cell? ⟨p7, 0, none⟩ = some (.func (.func 27) #[] #[pt pa 0]) ∧ RdS W B (outsC outs) ∧ (∀ x ∈ outs, x.Ok W []) ∧ Blk W pa (by8 a) 28) (enters_of Try.func55 (by kernel_rfl) rfl) (by have h_ := paysA_iter outs B cb hsh hno a ha pa p3 p7; rw [← payL_length] at h_; exact h_) w8 (fun W hb_ => ⟨(hb_.cell (H10.blkAt 0 rfl).lt).trans ((H10.blkAt 0 rfl).cell 2), (hb_.cell (H10.blkAt 1 rfl).lt).trans ((H10.blkAt 1 rfl).cell 0), hOuts.hp (H10.step hb_), oksO_mid hO (H10.step hb_), hpb.old (H10.step hb_)⟩)) (by kernel_rfl) rfl (fun e_ w15 hR => ?_)
  obtain ⟨rfl, H14⟩ := hR
  have H13 : Hp w [] [.blk p3 [.int .u32 (v : Int), .slice A ins.length ca, .slice B outs.length cb, .int .u32 (lt : Int)] 26, .blk p7 [.func (.func 27) #[] #[pt pa 0]] 77] w15 := H10.callNil H14
  refine ⟨_, rfl, [7], [(7, .tuple #[.int .u64 (((tot (payL (toA a) outs) 0).2 : Nat) : Int), .int .i64 (((tot (payL (toA a) outs) 0).1 : Nat) : Int)])], by kernel_rfl, ?_⟩
  refine GL.run (j := 6) 4 [4, 5] [(4, .int .u64 (((tot (payL (toA a) outs) 0).2 : Nat) : Int)), (5, .int .i64 (((tot (payL (toA a) outs) 0).1 : Nat) : Int))] (by kernel_rfl) rfl ?_
  refine GL.k rfl hK12 (fun _ _ h => h) ?_
  refine G.ret ?_
  intro F_ hF_ hM_
  refine hRet _ _ (bodyPost_2 rfl (RV.tmp rfl) (RV.tmp rfl) ?_ F_ hF_ hM_)
  exact ⟨rfl, H13.sub (List.nil_sublist _)⟩
theorem PaysT_calls (v : Nat) (ins : List TIn) (A : Option Addr) (ca : Nat) (outs : List TOut) (B : Option Addr) (cb : Nat) (lt : Nat) (w : World) (hv : v < 4294967296) (hlt : lt < 4294967296) (hIns : RdS w A (insC ins)) (hI : ∀ x ∈ ins, x.Ok w []) (hOuts : RdS w B (outsC outs)) (hO : ∀ x ∈ outs, x.Ok w []) (hni : ins.length ≤ maxLen) (hno : outs.length ≤ maxLen) (hsh : ∀ x ∈ outs, x.lb.length ≤ 600) : Calls Try.prog 26 #[.agg #[.int .u32 (v : Int), .slice A ins.length ca, .slice B outs.length cb, .int .u32 (lt : Int)], .func (.func 28) #[] #[]] w fun e w' => e = .returned (.tuple #[.int .u64 (((tot (payL (fun _ => true) outs) 0).2 : Nat) : Int), .int .i64 (((tot (payL (fun _ => true) outs) 0).1 : Nat) : Int)]) ∧ Hp w [] [] w' := by
  refine calls_G (args := [.agg #[.int .u32 (v : Int), .slice A ins.length ca, .slice B outs.length cb, .int .u32 (lt : Int)], .func (.func 28) #[] #[]]) Try.func26 rfl Try.ntmps26 rfl ?_
  intro Q0 hRet hNor hPan
  have H := Hp.start w
  have H : Hp w [] [] w := H
  refine G.seqK fun K1 hK2 => ?_
  refine G.region ?_
  obtain ⟨p3, w4, r5, H6⟩ := H.box (P := Try.prog) 26 [.int .u32 (v : Int), .slice A ins.length ca, .slice B outs.length cb, .int .u32 (lt : Int)] (.agg #[.int .u32 (v : Int), .slice A ins.length ca, .slice B outs.length cb, .int .u32 (lt : Int)]) rfl
  have H6 : Hp w [] [.blk p3 [.int .u32 (v : Int), .slice A ins.length ca, .slice B outs.length cb, .int .u32 (lt : Int)] 26] w4 := H6
  refine GL.sem (j := 1) (r5) [1, 2] [(1, .func (.func 28) #[] #[]), (2, pt p3 0)] (by kernel_rfl) (by kernel_rfl) rfl ?_
  obtain ⟨p7, w8, r9, H10⟩ := H6.box (P := Try.prog) 77 [.func (.func 28) #[] #[]] (.func (.func 28) #[] #[]) rfl
  have H10 : Hp w [] [.blk p3 [.int .u32 (v : Int), .slice A ins.length ca, .slice B outs.length cb, .int .u32 (lt : Int)] 26, .blk p7 [.func (.func 28) #[] #[]] 77] w8 := H10
  refine GL.sem (j := 2) (r9) [2, 3] [(2, pt p3 0), (3, pt p7 0)] (by kernel_rfl) (by kernel_rfl) rfl ?_
  refine GL.run (j := 4) 2 [2, 3] [(2, pt p3 0), (3, pt p7 0)] (by kernel_rfl) rfl ?_
  refine GL.k rfl hK2 (fun _ _ h => h) ?_
  refine G.seqK fun K11 hK12 => ?_
  refine G.region ?_
  refine GL.run (j := 1) 1 [6] [(6, .func (.func 55) #[] #[pt p3 0, pt p7 0])] (by kernel_rfl) rfl ?_
  refine GL.call (j := 2) (Total_calls (payL (fun _ => true) outs) (payL_lt hO) 55 #[pt p3 0, pt p7 0] (fun W => W.cell? ⟨p3, 2, none⟩ = some (.slice B outs.length cb) ∧ W.cell? ⟨p7, 0, none⟩ = some (.func (.func 28) #[] #[]) ∧ RdS W B (outsC outs) ∧ (∀ x ∈ outs, x.Ok W [])) (enters_of Try.func55 (by kernel_rfl) rfl) (by have h_ := paysT_iter outs B cb hsh hno p3 p7; rw [← payL_length] at h_; exact h_) w8 (fun W hb_ => ⟨(hb_.cell (H10.blkAt 0 rfl).lt).trans ((H10.blkAt 0 rfl).cell 2), (hb_.cell (H10.blkAt 1 rfl).lt).trans ((H10.blkAt 1 rfl).cell 0), hOuts.hp (H10.step hb_), oksO_mid hO (H10.step hb_)⟩)) (by kernel_rfl) rfl (fun e_ w15 hR => ?_)
  obtain ⟨rfl, H14⟩ := hR
  have H13 : Hp w [] [.blk p3 [.int .u32 (v : Int), .slice A ins.length ca, .slice B outs.length cb, .int .u32 (lt : Int)] 26, .blk p7 [.func (.func 28) #[] #[]] 77] w15 := H10.callNil H14
  refine ⟨_, rfl, [7], [(7, .tuple #[.int .u64 (((tot (payL (fun _ => true) outs) 0).2 : Nat) : Int), .int .i64 (((tot (payL (fun _ => true) outs) 0).1 : Nat) : Int)])], by kernel_rfl, ?_⟩
  refine GL.run (j := 6) 4 [4, 5] [(4, .int .u64 (((tot (payL (fun _ => true) outs) 0).2 : Nat) : Int)), (5, .int .i64 (((tot (payL (fun _ => true) outs) 0).1 : Nat) : Int))] (by kernel_rfl) rfl ?_
  refine GL.k rfl hK12 (fun _ _ h => h) ?_
  refine G.ret ?_
  intro F_ hF_ hM_
  refine hRet _ _ (bodyPost_2 rfl (RV.tmp rfl) (RV.tmp rfl) ?_ F_ hF_ hM_)
  exact ⟨rfl, H13.sub (List.nil_sublist _)⟩
theorem Paid_calls (v : Nat) (ins : List TIn) (A : Option Addr) (ca : Nat) (outs : List TOut) (B : Option Addr) (cb : Nat) (lt : Nat) (a : List UInt8) (w : World) (hv : v < 4294967296) (hlt : lt < 4294967296) (hIns : RdS w A (insC ins)) (hI : ∀ x ∈ ins, x.Ok w []) (hOuts : RdS w B (outsC outs)) (hO : ∀ x ∈ outs, x.Ok w []) (hni : ins.length ≤ maxLen) (hno : outs.length ≤ maxLen) (hsh : ∀ x ∈ outs, x.lb.length ≤ 600) (ha : a.length = 20) : Calls Try.prog 9 #[.agg #[.int .u32 (v : Int), .slice A ins.length ca, .slice B outs.length cb, .int .u32 (lt : Int)], .agg (by8 a).toArray] w fun e w' => e = .returned (.tuple #[.int .u64 (((tot (payL (toA a) outs) 0).2 : Nat) : Int), .int .i64 (((tot (payL (toA a) outs) 0).1 : Nat) : Int)]) ∧ Hp w [] [] w' := by
  refine calls_G (args := [.agg #[.int .u32 (v : Int), .slice A ins.length ca, .slice B outs.length cb, .int .u32 (lt : Int)], .agg (by8 a).toArray]) Try.func9 rfl Try.ntmps9 rfl ?_
  intro Q0 hRet hNor hPan
  have H := Hp.start w
  have H : Hp w [] [] w := H
  refine G.seqK fun K1 hK2 => ?_
  refine G.region ?_
  obtain ⟨p3, w4, r5, H6⟩ := H.box (P := Try.prog) 26 [.int .u32 (v : Int), .slice A ins.length ca, .slice B outs.length cb, .int .u32 (lt : Int)] (.agg #[.int .u32 (v : Int), .slice A ins.length ca, .slice B outs.length cb, .int .u32 (lt : Int)]) rfl
  have H6 : Hp w [] [.blk p3 [.int .u32 (v : Int), .slice A ins.length ca, .slice B outs.length cb, .int .u32 (lt : Int)] 26] w4 := H6
  refine GL.sem (j := 1) (r5) [1, 2] [(1, .agg (by8 a).toArray), (2, pt p3 0)] (by kernel_rfl) (by kernel_rfl) rfl ?_
  obtain ⟨p7, w8, r9, H10⟩ := H6.box (P := Try.prog) 28 (by8 a) (.agg (by8 a).toArray) rfl
  have H10 : Hp w [] [.blk p3 [.int .u32 (v : Int), .slice A ins.length ca, .slice B outs.length cb, .int .u32 (lt : Int)] 26, .blk p7 (by8 a) 28] w8 := H10
  refine GL.sem (j := 2) (r9) [2, 3] [(2, pt p3 0), (3, pt p7 0)] (by kernel_rfl) (by kernel_rfl) rfl ?_
  refine GL.run (j := 4) 2 [2, 3] [(2, pt p3 0), (3, pt p7 0)] (by kernel_rfl) rfl ?_
  refine GL.k rfl hK2 (fun _ _ h => h) ?_
  refine G.seqK fun K11 hK12 => ?_
  refine G.region ?_
  refine GL.sem (j := 1) (H10.ldA (o := 0) (ty := 26) (m := 4) (sub := [.int .u32 (v : Int), .slice A ins.length ca, .slice B outs.length cb, .int .u32 (lt : Int)]) 0 rfl (by kernel_rfl) rfl rfl) [3, 6] [(3, pt p7 0), (6, .agg #[.int .u32 (v : Int), .slice A ins.length ca, .slice B outs.length cb, .int .u32 (lt : Int)])] (by kernel_rfl) (by kernel_rfl) rfl ?_
  refine GL.run (j := 2) 1 [6, 7] [(6, .agg #[.int .u32 (v : Int), .slice A ins.length ca, .slice B outs.length cb, .int .u32 (lt : Int)]), (7, .func (.func 27) #[] #[pt p7 0])] (by kernel_rfl) rfl ?_
  refine GL.call (j := 3) (PaysA_calls v ins A ca outs B cb lt a p7 w8 hv hlt (hIns.hp H10) (oks_mid hI H10) (hOuts.hp H10) (oksO_mid hO H10) hni hno hsh ha (H10.blkAt 1 rfl)) (by kernel_rfl) rfl (fun e_ w13 hR => ?_)
  obtain ⟨rfl, H15⟩ := hR
  have H14 : Hp w [] [.blk p3 [.int .u32 (v : Int), .slice A ins.length ca, .slice B outs.length cb, .int .u32 (lt : Int)] 26, .blk p7 (by8 a) 28] w13 := H10.callNil H15
  refine ⟨_, rfl, [8], [(8, .tuple #[.int .u64 (((tot (payL (toA a) outs) 0).2 : Nat) : Int), .int .i64 (((tot (payL (toA a) outs) 0).1 : Nat) : Int)])], by kernel_rfl, ?_⟩
  refine GL.run (j := 7) 4 [4, 5] [(4, .int .u64 (((tot (payL (toA a) outs) 0).2 : Nat) : Int)), (5, .int .i64 (((tot (payL (toA a) outs) 0).1 : Nat) : Int))] (by kernel_rfl) rfl ?_
  refine GL.k rfl hK12 (fun _ _ h => h) ?_
  refine G.ret ?_
  intro F_ hF_ hM_
  refine hRet _ _ (bodyPost_2 rfl (RV.tmp rfl) (RV.tmp rfl) ?_ F_ hF_ hM_)
  exact ⟨rfl, H14.sub (List.nil_sublist _)⟩
theorem Whole_calls (v : Nat) (ins : List TIn) (A : Option Addr) (ca : Nat) (outs : List TOut) (B : Option Addr) (cb : Nat) (lt : Nat) (w : World) (hv : v < 4294967296) (hlt : lt < 4294967296) (hIns : RdS w A (insC ins)) (hI : ∀ x ∈ ins, x.Ok w []) (hOuts : RdS w B (outsC outs)) (hO : ∀ x ∈ outs, x.Ok w []) (hni : ins.length ≤ maxLen) (hno : outs.length ≤ maxLen) (hsh : ∀ x ∈ outs, x.lb.length ≤ 600) : Calls Try.prog 10 #[.agg #[.int .u32 (v : Int), .slice A ins.length ca, .slice B outs.length cb, .int .u32 (lt : Int)]] w fun e w' => e = .returned (.tuple #[.int .u64 (((tot (payL (fun _ => true) outs) 0).2 : Nat) : Int), .int .i64 (((tot (payL (fun _ => true) outs) 0).1 : Nat) : Int)]) ∧ Hp w [] [] w' := by
  refine calls_G (args := [.agg #[.int .u32 (v : Int), .slice A ins.length ca, .slice B outs.length cb, .int .u32 (lt : Int)]]) Try.func10 rfl Try.ntmps10 rfl ?_
  intro Q0 hRet hNor hPan
  have H := Hp.start w
  have H : Hp w [] [] w := H
  refine G.seqK fun K1 hK2 => ?_
  refine G.region ?_
  obtain ⟨p3, w4, r5, H6⟩ := H.box (P := Try.prog) 26 [.int .u32 (v : Int), .slice A ins.length ca, .slice B outs.length cb, .int .u32 (lt : Int)] (.agg #[.int .u32 (v : Int), .slice A ins.length ca, .slice B outs.length cb, .int .u32 (lt : Int)]) rfl
  have H6 : Hp w [] [.blk p3 [.int .u32 (v : Int), .slice A ins.length ca, .slice B outs.length cb, .int .u32 (lt : Int)] 26] w4 := H6
  refine GL.sem (j := 1) (r5) [1] [(1, pt p3 0)] (by kernel_rfl) (by kernel_rfl) rfl ?_
  refine GL.run (j := 3) 2 [1] [(1, pt p3 0)] (by kernel_rfl) rfl ?_
  refine GL.k rfl hK2 (fun _ _ h => h) ?_
  refine G.seqK fun K7 hK8 => ?_
  refine G.region ?_
  refine GL.sem (j := 1) (H6.ldA (o := 0) (ty := 26) (m := 4) (sub := [.int .u32 (v : Int), .slice A ins.length ca, .slice B outs.length cb, .int .u32 (lt : Int)]) 0 rfl (by kernel_rfl) rfl rfl) [4] [(4, .agg #[.int .u32 (v : Int), .slice A ins.length ca, .slice B outs.length cb, .int .u32 (lt : Int)])] (by kernel_rfl) (by kernel_rfl) rfl ?_
  refine GL.call (j := 2) (PaysT_calls v ins A ca outs B cb lt w4 hv hlt (hIns.hp H6) (oks_mid hI H6) (hOuts.hp H6) (oksO_mid hO H6) hni hno hsh) (by kernel_rfl) rfl (fun e_ w9 hR => ?_)
  obtain ⟨rfl, H11⟩ := hR
  have H10 : Hp w [] [.blk p3 [.int .u32 (v : Int), .slice A ins.length ca, .slice B outs.length cb, .int .u32 (lt : Int)] 26] w9 := H6.callNil H11
  refine ⟨_, rfl, [5], [(5, .tuple #[.int .u64 (((tot (payL (fun _ => true) outs) 0).2 : Nat) : Int), .int .i64 (((tot (payL (fun _ => true) outs) 0).1 : Nat) : Int)])], by kernel_rfl, ?_⟩
  refine GL.run (j := 6) 4 [2, 3] [(2, .int .u64 (((tot (payL (fun _ => true) outs) 0).2 : Nat) : Int)), (3, .int .i64 (((tot (payL (fun _ => true) outs) 0).1 : Nat) : Int))] (by kernel_rfl) rfl ?_
  refine GL.k rfl hK8 (fun _ _ h => h) ?_
  refine G.ret ?_
  intro F_ hF_ hM_
  refine hRet _ _ (bodyPost_2 rfl (RV.tmp rfl) (RV.tmp rfl) ?_ F_ hF_ hM_)
  exact ⟨rfl, H10.sub (List.nil_sublist _)⟩
end Go.Proofs.Ytcedmbdahbdmaaa
set_option maxRecDepth 100000
namespace Go.Proofs.Ytcedmbdahbdmaaa
open Go.RowKit
theorem IndexI_calls (ins : List TIn) (A : Option Addr) (ca : Nat) (a : List UInt8) (pa : Nat) (w : World) (hIns : RdS w A (insC ins)) (hI : ∀ x ∈ ins, x.Ok w []) (hni : ins.length ≤ maxLen) (ha : a.length = 20) (hb : Blk w pa (by8 a) 28) : Calls Try.prog 56 #[.slice A ins.length ca, .func (.func 34) #[] #[pt pa 0]] w fun e w' => ∃ r : Int, e = .returned (.int .i64 r) ∧ (0 ≤ r ↔ ∃ x ∈ ins, byA a x = true) ∧ Hp w [] [] w' := by
  have hni_ : ins.length ≤ 9223372036854775807 := hni
  refine calls_G (args := [.slice A ins.length ca, .func (.func 34) #[] #[pt pa 0]]) Try.func56 rfl Try.ntmps56 rfl ?_
  intro Q0 hRet hNor hPan
  have H := Hp.start w
  have H : Hp w [] [] w := H
  refine G.seqK fun K1 hK2 => ?_
  refine G.region ?_
  refine GL.run (j := 1) 1 [0, 1] [(0, .slice A ins.length ca), (1, .func (.func 34) #[] #[pt pa 0])] (by kernel_rfl) rfl ?_
  refine GL.k rfl hK2 (fun _ _ h => h) ?_
  refine G.seqK fun K3 hK4 => ?_
  refine G.seqK fun K5 hK6 => ?_
  refine G.region ?_
  refine GL.run (j := 3) 3 [0, 1, 7, 8] [(0, .slice A ins.length ca), (1, .func (.func 34) #[] #[pt pa 0]), (7, .int .i64 (ins.length : Int)), (8, .int .i64 0)] (by kernel_rfl) rfl ?_
  refine GL.k rfl hK6 (fun _ _ h => h) ?_
  refine G.block ?_
  refine G.fit [0, 1, 7, 8] (M' := [(0, .slice A ins.length ca), (1, .func (.func 34) #[] #[pt pa 0]), (7, .int .i64 (ins.length : Int)), (8, .int .i64 0)]) (by kernel_rfl) ?_
  refine G.loop (X := Nat) (fun i => [(0, .slice A ins.length ca), (1, .func (.func 34) #[] #[pt pa 0]), (7, .int .i64 (ins.length : Int)), (8, .int .i64 (i : Int))]) (fun i w_ => (i ≤ ins.length ∧ (∀ y ∈ ins.take i, ¬ byA a y = true)) ∧ Hp w [] [] w_) (fun i => ins.length - i) 0 [0, 1, 7, 8] (by kernel_rfl) ⟨⟨Nat.zero_le _, fun y hy => by simp at hy⟩, H⟩ ?_
  rintro i w7 ⟨hi8, H9⟩
  refine G.eq (M' := [(0, .slice A ins.length ca), (1, .func (.func 34) #[] #[pt pa 0]), (7, .int .i64 (ins.length : Int)), (8, .int .i64 (i : Int))]) rfl ?_
  have H9 : Hp w [] [] w7 := H9
  obtain ⟨hil, hia⟩ := hi8
  refine G.seqK fun K10 hK11 => ?_
  refine G.region ?_
  refine GL.run (j := 1) 1 [0, 1, 7, 8, 9] [(0, .slice A ins.length ca), (1, .func (.func 34) #[] #[pt pa 0]), (7, .int .i64 (ins.length : Int)), (8, .int .i64 (i : Int)), (9, .bool (decide ((i : Int) < (ins.length : Int))))] (by kernel_rfl) rfl ?_
  refine GL.k rfl hK11 (fun _ _ h => h) ?_
  refine G.seqK fun K12 hK13 => ?_
  cases hb14 : (decide ((i : Int) < (ins.length : Int)))
  · skip
    have hb14f := of_decide_eq_false hb14
    refine G.no rfl ?_
    refine G.exitK hK4 (fun _ _ h => h) ?_
    refine G.seqK fun K15 hK16 => ?_
    refine G.region ?_
    refine GL.run (j := 1) 1 [4] [(4, .int .i64 (-1))] (by kernel_rfl) rfl ?_
    refine GL.k rfl hK16 (fun _ _ h => h) ?_
    refine G.ret ?_
    intro F_ hF_ hM_
    refine hRet _ _ (bodyPost_1 rfl (RV.tmp rfl) ?_ F_ hF_ hM_)
    exact ⟨_, rfl, ⟨fun h => by omega, fun ⟨y, hy, h⟩ => absurd h (take_done hia (by omega) y hy)⟩, H9.sub (List.nil_sublist _)⟩
  · skip
    have hb14f := of_decide_eq_true hb14
    refine G.yes rfl ?_
    refine G.skipK hK13 (fun _ _ h => h) ?_
    refine G.seqK fun K17 hK18 => ?_
    refine G.block ?_
    refine G.seqK fun K19 hK20 => ?_
    refine G.region ?_
    refine GL.run (j := 2) 2 [0, 1, 5, 7, 8] [(0, .slice A ins.length ca), (1, .func (.func 34) #[] #[pt pa 0]), (5, .int .i64 (i : Int)), (7, .int .i64 (ins.length : Int)), (8, .int .i64 (i : Int))] (by kernel_rfl) rfl ?_
    refine GL.k rfl hK20 (fun _ _ h => h) ?_
    refine G.seqK fun K21 hK22 => ?_
    refine G.region ?_
    refine GL.run (j := 3) 3 [0, 1, 5, 7, 8, 11, 12, 13] [(0, .slice A ins.length ca), (1, .func (.func 34) #[] #[pt pa 0]), (5, .int .i64 (i : Int)), (7, .int .i64 (ins.length : Int)), (8, .int .i64 (i : Int)), (11, .func (.func 34) #[] #[pt pa 0]), (12, .slice A ins.length ca), (13, .int .i64 (i : Int))] (by kernel_rfl) rfl ?_
    obtain ⟨x23, hx24⟩ : ∃ x, ins[i]? = some x := ⟨_, List.getElem?_eq_getElem (by omega)⟩
    have hok25 := hI x23 (List.mem_of_getElem? hx24)
    refine GL.sem (j := 4) (run_idxRdN (P := Try.prog) (k := .i64) (t := 23) (sz := 35) (A := A) (len := ins.length) (cap := ca) (j := i) (by kernel_rfl) rfl (hIns.hp H9) (insC_length (fun x_ h_ => (hI x_ h_).1)) (by decide) (by omega)) [0, 1, 5, 7, 8, 11, 14] [(0, .slice A ins.length ca), (1, .func (.func 34) #[] #[pt pa 0]), (5, .int .i64 (i : Int)), (7, .int .i64 (ins.length : Int)), (8, .int .i64 (i : Int)), (11, .func (.func 34) #[] #[pt pa 0]), (14, .pointer (Option.map (fun x => Addr.add x (i * 35)) A))] (by kernel_rfl) (by kernel_rfl) rfl ?_
    refine GL.sem (j := 5) (run_ldRdA (P := Try.prog) (ty := 53) (A := A) (o := (i * 35)) (m := 35) (sub := x23.cells) (by kernel_rfl) (hIns.hp H9) (insC_cut (fun x_ h_ => (hI x_ h_).1) hx24) (TIn.cells_length hok25.1) (by decide)) [0, 1, 5, 7, 8, 11, 15] [(0, .slice A ins.length ca), (1, .func (.func 34) #[] #[pt pa 0]), (5, .int .i64 (i : Int)), (7, .int .i64 (ins.length : Int)), (8, .int .i64 (i : Int)), (11, .func (.func 34) #[] #[pt pa 0]), (15, .agg (x23.cells).toArray)] (by kernel_rfl) (by kernel_rfl) rfl ?_
    refine GL.call (j := 6) (Spends1_calls x23 a pa w7 ha (hok25.mid (A' := []) H9) (hb.old H9)) (by kernel_rfl) rfl (fun e_ w26 hR => ?_)
    obtain ⟨rfl, H28⟩ := hR
    have H27 : Hp w [] [] w26 := H9.callNil H28
    refine ⟨_, rfl, [0, 1, 5, 7, 8, 16], [(0, .slice A ins.length ca), (1, .func (.func 34) #[] #[pt pa 0]), (5, .int .i64 (i : Int)), (7, .int .i64 (ins.length : Int)), (8, .int .i64 (i : Int)), (16, .bool (byA a x23))], by kernel_rfl, ?_⟩
    refine GL.k rfl hK22 (fun _ _ h => h) ?_
    cases hb29 : (byA a x23)
    · skip
      refine G.no rfl ?_
      refine G.skipK hK18 (fun _ _ h => h) ?_
      refine G.region ?_
      refine GL.run (j := 2) 2 [0, 1, 7, 8] [(0, .slice A ins.length ca), (1, .func (.func 34) #[] #[pt pa 0]), (7, .int .i64 (ins.length : Int)), (8, .int .i64 (IntKind.i64.wrap ((i : Int) + 1)))] (by kernel_rfl) rfl ?_
      have e30 : (IntKind.i64.wrap ((i : Int) + 1)) = ((i + 1 : Nat) : Int) := by rw [in_i64 (by omega)]; omega
      refine GL.eq (M' := [(0, .slice A ins.length ca), (1, .func (.func 34) #[] #[pt pa 0]), (7, .int .i64 (ins.length : Int)), (8, .int .i64 ((i + 1 : Nat) : Int))]) (by rw [e30]) ?_
      clear e30
      refine GL.fit (ts := [0, 1, 7, 8]) (M' := [(0, .slice A ins.length ca), (1, .func (.func 34) #[] #[pt pa 0]), (7, .int .i64 (ins.length : Int)), (8, .int .i64 ((i + 1 : Nat) : Int))]) (by kernel_rfl) ?_
      refine GL.eq (M' := [(0, .slice A ins.length ca), (1, .func (.func 34) #[] #[pt pa 0]), (7, .int .i64 (ins.length : Int)), (8, .int .i64 (((i + 1) : Nat) : Int))]) (by rfl) ?_
      exact GL.again (i + 1) [0, 1, 7, 8] rfl (by kernel_rfl) (by show ins.length - (i + 1) < ins.length - i; omega) ⟨⟨by omega, take_all hia hx24 (by rw [hb29]; decide)⟩, H27⟩
    · skip
      refine G.yes rfl ?_
      refine G.seqK fun K31 hK32 => ?_
      refine G.region ?_
      refine GL.run (j := 2) 2 [4] [(4, .int .i64 (i : Int))] (by kernel_rfl) rfl ?_
      refine GL.k rfl hK32 (fun _ _ h => h) ?_
      refine G.ret ?_
      intro F_ hF_ hM_
      refine hRet _ _ (bodyPost_1 rfl (RV.tmp rfl) ?_ F_ hF_ hM_)
      exact ⟨_, rfl, ⟨fun _ => ⟨x23, List.mem_of_getElem? hx24, hb29⟩, fun _ => by omega⟩, H27.sub (List.nil_sublist _)⟩
theorem ContainsI_calls (ins : List TIn) (A : Option Addr) (ca : Nat) (a : List UInt8) (pa : Nat) (w : World) (hIns : RdS w A (insC ins)) (hI : ∀ x ∈ ins, x.Ok w []) (hni : ins.length ≤ maxLen) (ha : a.length = 20) (hb : Blk w pa (by8 a) 28) : Calls Try.prog 33 #[.slice A ins.length ca, .func (.func 34) #[] #[pt pa 0]] w fun e w' => e = .returned (.bool (decide (∃ x ∈ ins, byA a x = true))) ∧ Hp w [] [] w' := by
  refine calls_G (args := [.slice A ins.length ca, .func (.func 34) #[] #[pt pa 0]]) Try.func33 rfl Try.ntmps33 rfl ?_
  intro Q0 hRet hNor hPan
  have H := Hp.start w
  have H : Hp w [] [] w := H
  refine G.seqK fun K1 hK2 => ?_
  refine G.region ?_
  refine GL.run (j := 1) 1 [0, 1] [(0, .slice A ins.length ca), (1, .func (.func 34) #[] #[pt pa 0])] (by kernel_rfl) rfl ?_
  refine GL.k rfl hK2 (fun _ _ h => h) ?_
  refine G.seqK fun K3 hK4 => ?_
  refine G.region ?_
  refine GL.run (j := 2) 2 [5, 6] [(5, .slice A ins.length ca), (6, .func (.func 34) #[] #[pt pa 0])] (by kernel_rfl) rfl ?_
  refine GL.call (j := 3) (IndexI_calls ins A ca a pa w (hIns.hp H) (oks_mid hI H) hni ha (hb.old H)) (by kernel_rfl) rfl (fun e_ w9 hR => ?_)
  obtain ⟨r5, rfl, hr6, H8⟩ := hR
  have H7 : Hp w [] [] w9 := H.callNil H8
  refine ⟨_, rfl, [7], [(7, .int .i64 r5)], by kernel_rfl, ?_⟩
  refine GL.run (j := 5) 2 [4] [(4, .bool (decide (0 ≤ r5)))] (by kernel_rfl) rfl ?_
  refine GL.k rfl hK4 (fun _ _ h => h) ?_
  refine G.ret ?_
  intro F_ hF_ hM_
  refine hRet _ _ (bodyPost_1 rfl (RV.tmp rfl) ?_ F_ hF_ hM_)
  have e0 : ((decide (0 ≤ r5)) : Bool) = (decide (∃ x ∈ ins, byA a x = true)) := by
    rw [Bool.eq_iff_iff]; simp only [decide_eq_true_eq]; exact hr6
  rw [e0]
  exact ⟨rfl, H7.sub (List.nil_sublist _)⟩
theorem Spends_calls (v : Nat) (ins : List TIn) (A : Option Addr) (ca : Nat) (outs : List TOut) (B : Option Addr) (cb : Nat) (lt : Nat) (a : List UInt8) (w : World) (hv : v < 4294967296) (hlt : lt < 4294967296) (hIns : RdS w A (insC ins)) (hI : ∀ x ∈ ins, x.Ok w []) (hOuts : RdS w B (outsC outs)) (hO : ∀ x ∈ outs, x.Ok w []) (hni : ins.length ≤ maxLen) (hno : outs.length ≤ maxLen) (ha : a.length = 20) : Calls Try.prog 16 #[.agg #[.int .u32 (v : Int), .slice A ins.length ca, .slice B outs.length cb, .int .u32 (lt : Int)], .agg (by8 a).toArray] w fun e w' => e = .returned (.bool (decide (∃ x ∈ ins, byA a x = true))) ∧ Hp w [] [] w' := by
  refine calls_G (args := [.agg #[.int .u32 (v : Int), .slice A ins.length ca, .slice B outs.length cb, .int .u32 (lt : Int)], .agg (by8 a).toArray]) Try.func16 rfl Try.ntmps16 rfl ?_
  intro Q0 hRet hNor hPan
  have H := Hp.start w
  have H : Hp w [] [] w := H
  refine G.seqK fun K1 hK2 => ?_
  refine G.region ?_
  obtain ⟨p3, w4, r5, H6⟩ := H.box (P := Try.prog) 26 [.int .u32 (v : Int), .slice A ins.length ca, .slice B outs.length cb, .int .u32 (lt : Int)] (.agg #[.int .u32 (v : Int), .slice A ins.length ca, .slice B outs.length cb, .int .u32 (lt : Int)]) rfl
  have H6 : Hp w [] [.blk p3 [.int .u32 (v : Int), .slice A ins.length ca, .slice B outs.length cb, .int .u32 (lt : Int)] 26] w4 := H6
  refine GL.sem (j := 1) (r5) [1, 2] [(1, .agg (by8 a).toArray), (2, pt p3 0)] (by kernel_rfl) (by kernel_rfl) rfl ?_
  obtain ⟨p7, w8, r9, H10⟩ := H6.box (P := Try.prog) 28 (by8 a) (.agg (by8 a).toArray) rfl
  have H10 : Hp w [] [.blk p3 [.int .u32 (v : Int), .slice A ins.length ca, .slice B outs.length cb, .int .u32 (lt : Int)] 26, .blk p7 (by8 a) 28] w8 := H10
  refine GL.sem (j := 2) (r9) [2, 3] [(2, pt p3 0), (3, pt p7 0)] (by kernel_rfl) (by kernel_rfl) rfl ?_
  refine GL.run (j := 3) 1 [2, 3] [(2, pt p3 0), (3, pt p7 0)] (by kernel_rfl) rfl ?_
  refine GL.k rfl hK2 (fun _ _ h => h) ?_
  refine G.seqK fun K11 hK12 => ?_
  refine G.region ?_
  refine GL.run (j := 1) 1 [3, 5] [(3, pt p7 0), (5, pt p3 1)] (by kernel_rfl) rfl ?_
  refine GL.sem (j := 2) (H10.ld (o := 1) (ty := 23) (v := .slice A ins.length ca) 0 rfl (by kernel_rfl) rfl) [3, 6] [(3, pt p7 0), (6, .slice A ins.length ca)] (by kernel_rfl) (by kernel_rfl) rfl ?_
  refine GL.run (j := 3) 1 [6, 7] [(6, .slice A ins.length ca), (7, .func (.func 34) #[] #[pt p7 0])] (by kernel_rfl) rfl ?_
  refine GL.call (j := 4) (ContainsI_calls ins A ca a p7 w8 (hIns.hp H10) (oks_mid hI H10) hni ha (H10.blkAt 1 rfl)) (by kernel_rfl) rfl (fun e_ w13 hR => ?_)
  obtain ⟨rfl, H15⟩ := hR
  have H14 : Hp w [] [.blk p3 [.int .u32 (v : Int), .slice A ins.length ca, .slice B outs.length cb, .int .u32 (lt : Int)] 26, .blk p7 (by8 a) 28] w13 := H10.callNil H15
  refine ⟨_, rfl, [8], [(8, .bool (decide (∃ x ∈ ins, byA a x = true)))], by kernel_rfl, ?_⟩
  refine GL.run (j := 5) 1 [4] [(4, .bool (decide (∃ x ∈ ins, byA a x = true)))] (by kernel_rfl) rfl ?_
  refine GL.k rfl hK12 (fun _ _ h => h) ?_
  refine G.ret ?_
  intro F_ hF_ hM_
  refine hRet _ _ (bodyPost_1 rfl (RV.tmp rfl) ?_ F_ hF_ hM_)
  exact ⟨rfl, H14.sub (List.nil_sublist _)⟩
theorem Tags_calls (v : Nat) (ins : List TIn) (A : Option Addr) (ca : Nat) (outs : List TOut) (B : Option Addr) (cb : Nat) (lt : Nat) (w : World) : Calls Try.prog 14 #[.agg #[.int .u32 (v : Int), .slice A ins.length ca, .slice B outs.length cb, .int .u32 (lt : Int)]] w fun e w' => ∃ b1, e = .returned (.func (.func 32) #[] #[pt b1 0]) ∧ Hp w [] [.blk b1 [.int .u32 (v : Int), .slice A ins.length ca, .slice B outs.length cb, .int .u32 (lt : Int)] 26] w' := by
  refine calls_G (args := [.agg #[.int .u32 (v : Int), .slice A ins.length ca, .slice B outs.length cb, .int .u32 (lt : Int)]]) Try.func14 rfl Try.ntmps14 rfl ?_
  intro Q0 hRet hNor hPan
  have H := Hp.start w
  have H : Hp w [] [] w := H
  refine G.seqK fun K1 hK2 => ?_
  refine G.region ?_
  obtain ⟨p3, w4, r5, H6⟩ := H.box (P := Try.prog) 26 [.int .u32 (v : Int), .slice A ins.length ca, .slice B outs.length cb, .int .u32 (lt : Int)] (.agg #[.int .u32 (v : Int), .slice A ins.length ca, .slice B outs.length cb, .int .u32 (lt : Int)]) rfl
  have H6 : Hp w [] [.blk p3 [.int .u32 (v : Int), .slice A ins.length ca, .slice B outs.length cb, .int .u32 (lt : Int)] 26] w4 := H6
  refine GL.sem (j := 1) (r5) [1] [(1, pt p3 0)] (by kernel_rfl) (by kernel_rfl) rfl ?_
  refine GL.run (j := 2) 1 [1] [(1, pt p3 0)] (by kernel_rfl) rfl ?_
  refine GL.k rfl hK2 (fun _ _ h => h) ?_
  refine G.seqK fun K7 hK8 => ?_
  refine G.region ?_
  refine GL.run (j := 2) 2 [2] [(2, .func (.func 32) #[] #[pt p3 0])] (by kernel_rfl) rfl ?_
  refine GL.k rfl hK8 (fun _ _ h => h) ?_
  refine G.ret ?_
  intro F_ hF_ hM_
  refine hRet _ _ (bodyPost_1 rfl (RV.tmp rfl) ?_ F_ hF_ hM_)
  exact ⟨_, rfl, H6⟩
def txF (ins : List TIn) (outs : List TOut) : Bool := decide (ins.length ≤ 70 ∧ outs.length ≤ 70 ∧ (∀ x ∈ ins, x.kb.length ≤ 600) ∧ ∀ x ∈ outs, x.lb.length ≤ 600)
theorem Few_calls (v : Nat) (ins : List TIn) (A : Option Addr) (ca : Nat) (outs : List TOut) (B : Option Addr) (cb : Nat) (lt : Nat) (w : World) (hv : v < 4294967296) (hlt : lt < 4294967296) (hIns : RdS w A (insC ins)) (hI : ∀ x ∈ ins, x.Ok w []) (hOuts : RdS w B (outsC outs)) (hO : ∀ x ∈ outs, x.Ok w []) (hni : ins.length ≤ maxLen) (hno : outs.length ≤ maxLen) : Calls Try.prog 8 #[.agg #[.int .u32 (v : Int), .slice A ins.length ca, .slice B outs.length cb, .int .u32 (lt : Int)]] w fun e w' => e = .returned (.bool (txF ins outs)) ∧ Hp w [] [] w' := by
  have hni_ : ins.length ≤ 9223372036854775807 := hni
  have hno_ : outs.length ≤ 9223372036854775807 := hno
  refine calls_G (args := [.agg #[.int .u32 (v : Int), .slice A ins.length ca, .slice B outs.length cb, .int .u32 (lt : Int)]]) Try.func8 rfl Try.ntmps8 rfl ?_
  intro Q0 hRet hNor hPan
  have H := Hp.start w
  have H : Hp w [] [] w := H
  refine G.seqK fun K1 hK2 => ?_
  refine G.region ?_
  obtain ⟨p3, w4, r5, H6⟩ := H.box (P := Try.prog) 26 [.int .u32 (v : Int), .slice A ins.length ca, .slice B outs.length cb, .int .u32 (lt : Int)] (.agg #[.int .u32 (v : Int), .slice A ins.length ca, .slice B outs.length cb, .int .u32 (lt : Int)]) rfl
  have H6 : Hp w [] [.blk p3 [.int .u32 (v : Int), .slice A ins.length ca, .slice B outs.length cb, .int .u32 (lt : Int)] 26] w4 := H6
  refine GL.sem (j := 1) (r5) [1] [(1, pt p3 0)] (by kernel_rfl) (by kernel_rfl) rfl ?_
  refine GL.run (j := 2) 1 [1] [(1, pt p3 0)] (by kernel_rfl) rfl ?_
  refine GL.k rfl hK2 (fun _ _ h => h) ?_
  refine G.seqK fun K7 hK8 => ?_
  refine G.seqK fun K9 hK10 => ?_
  refine G.region ?_
  refine GL.run (j := 1) 1 [1, 7] [(1, pt p3 0), (7, pt p3 1)] (by kernel_rfl) rfl ?_
  refine GL.sem (j := 2) (H6.ld (o := 1) (ty := 23) (v := .slice A ins.length ca) 0 rfl (by kernel_rfl) rfl) [1, 8] [(1, pt p3 0), (8, .slice A ins.length ca)] (by kernel_rfl) (by kernel_rfl) rfl ?_
  refine GL.run (j := 5) 3 [1, 11] [(1, pt p3 0), (11, .bool (decide (70 < (ins.length : Int))))] (by kernel_rfl) rfl ?_
  cases hb11 : (decide (70 < (ins.length : Int)))
  · skip
    have hb11f := of_decide_eq_false hb11
    refine GL.run (j := 6) 1 [1, 11, 12] [(1, pt p3 0), (11, .bool false), (12, pt p3 2)] (by kernel_rfl) rfl ?_
    refine GL.sem (j := 7) (H6.ld (o := 2) (ty := 24) (v := .slice B outs.length cb) 0 rfl (by kernel_rfl) rfl) [1, 11, 13] [(1, pt p3 0), (11, .bool false), (13, .slice B outs.length cb)] (by kernel_rfl) (by kernel_rfl) rfl ?_
    refine GL.run (j := 10) 3 [1, 16] [(1, pt p3 0), (16, .bool (decide (70 < (outs.length : Int))))] (by kernel_rfl) rfl ?_
    refine GL.k rfl hK10 (fun _ _ h => h) ?_
    cases hb12 : (decide (70 < (outs.length : Int)))
    · skip
      have hb12f := of_decide_eq_false hb12
      refine G.no rfl ?_
      refine G.skipK hK8 (fun _ _ h => h) ?_
      refine G.seqK fun K13 hK14 => ?_
      refine G.seqK fun K15 hK16 => ?_
      refine G.region ?_
      refine GL.run (j := 1) 1 [1, 17] [(1, pt p3 0), (17, pt p3 1)] (by kernel_rfl) rfl ?_
      refine GL.sem (j := 2) (H6.ld (o := 1) (ty := 23) (v := .slice A ins.length ca) 0 rfl (by kernel_rfl) rfl) [1, 18] [(1, pt p3 0), (18, .slice A ins.length ca)] (by kernel_rfl) (by kernel_rfl) rfl ?_
      refine GL.run (j := 4) 2 [1, 18, 19, 20] [(1, pt p3 0), (18, .slice A ins.length ca), (19, .int .i64 (ins.length : Int)), (20, .int .i64 0)] (by kernel_rfl) rfl ?_
      refine GL.k rfl hK16 (fun _ _ h => h) ?_
      refine G.block ?_
      refine G.fit [1, 18, 19, 20] (M' := [(1, pt p3 0), (18, .slice A ins.length ca), (19, .int .i64 (ins.length : Int)), (20, .int .i64 0)]) (by kernel_rfl) ?_
      refine G.loop (X := Nat) (fun i => [(1, pt p3 0), (18, .slice A ins.length ca), (19, .int .i64 (ins.length : Int)), (20, .int .i64 (i : Int))]) (fun i w_ => (i ≤ ins.length ∧ (∀ y ∈ ins.take i, y.kb.length ≤ 600)) ∧ Hp w [] [.blk p3 [.int .u32 (v : Int), .slice A ins.length ca, .slice B outs.length cb, .int .u32 (lt : Int)] 26] w_) (fun i => ins.length - i) 0 [1, 18, 19, 20] (by kernel_rfl) ⟨⟨Nat.zero_le _, fun y hy => by simp at hy⟩, H6⟩ ?_
      rintro i w17 ⟨hi18, H19⟩
      refine G.eq (M' := [(1, pt p3 0), (18, .slice A ins.length ca), (19, .int .i64 (ins.length : Int)), (20, .int .i64 (i : Int))]) rfl ?_
      have H19 : Hp w [] [.blk p3 [.int .u32 (v : Int), .slice A ins.length ca, .slice B outs.length cb, .int .u32 (lt : Int)] 26] w17 := H19
      obtain ⟨hil, hia⟩ := hi18
      refine G.seqK fun K20 hK21 => ?_
      refine G.region ?_
      refine GL.run (j := 1) 1 [1, 18, 19, 20, 21] [(1, pt p3 0), (18, .slice A ins.length ca), (19, .int .i64 (ins.length : Int)), (20, .int .i64 (i : Int)), (21, .bool (decide ((i : Int) < (ins.length : Int))))] (by kernel_rfl) rfl ?_
      refine GL.k rfl hK21 (fun _ _ h => h) ?_
      refine G.seqK fun K22 hK23 => ?_
      cases hb24 : (decide ((i : Int) < (ins.length : Int)))
      · skip
        have hb24f := of_decide_eq_false hb24
        refine G.no rfl ?_
        refine G.exitK hK14 (fun _ _ h => h) ?_
        refine G.seqK fun K25 hK26 => ?_
        refine G.seqK fun K27 hK28 => ?_
        refine G.region ?_
        refine GL.run (j := 1) 1 [29] [(29, pt p3 2)] (by kernel_rfl) rfl ?_
        refine GL.sem (j := 2) (H19.ld (o := 2) (ty := 24) (v := .slice B outs.length cb) 0 rfl (by kernel_rfl) rfl) [30] [(30, .slice B outs.length cb)] (by kernel_rfl) (by kernel_rfl) rfl ?_
        refine GL.run (j := 4) 2 [30, 31, 32] [(30, .slice B outs.length cb), (31, .int .i64 (outs.length : Int)), (32, .int .i64 0)] (by kernel_rfl) rfl ?_
        refine GL.k rfl hK28 (fun _ _ h => h) ?_
        refine G.block ?_
        have hall1 := take_done hia (by omega)
        refine G.fit [30, 31, 32] (M' := [(30, .slice B outs.length cb), (31, .int .i64 (outs.length : Int)), (32, .int .i64 0)]) (by kernel_rfl) ?_
        refine G.loop (X := Nat) (fun j => [(30, .slice B outs.length cb), (31, .int .i64 (outs.length : Int)), (32, .int .i64 (j : Int))]) (fun j w_ => (j ≤ outs.length ∧ (∀ y ∈ outs.take j, y.lb.length ≤ 600)) ∧ Hp w [] [.blk p3 [.int .u32 (v : Int), .slice A ins.length ca, .slice B outs.length cb, .int .u32 (lt : Int)] 26] w_) (fun j => outs.length - j) 0 [30, 31, 32] (by kernel_rfl) ⟨⟨Nat.zero_le _, fun y hy => by simp at hy⟩, H19⟩ ?_
        rintro j w29 ⟨hi30, H31⟩
        refine G.eq (M' := [(30, .slice B outs.length cb), (31, .int .i64 (outs.length : Int)), (32, .int .i64 (j : Int))]) rfl ?_
        have H31 : Hp w [] [.blk p3 [.int .u32 (v : Int), .slice A ins.length ca, .slice B outs.length cb, .int .u32 (lt : Int)] 26] w29 := H31
        obtain ⟨hjl, hja⟩ := hi30
        refine G.seqK fun K32 hK33 => ?_
        refine G.region ?_
        refine GL.run (j := 1) 1 [30, 31, 32, 33] [(30, .slice B outs.length cb), (31, .int .i64 (outs.length : Int)), (32, .int .i64 (j : Int)), (33, .bool (decide ((j : Int) < (outs.length : Int))))] (by kernel_rfl) rfl ?_
        refine GL.k rfl hK33 (fun _ _ h => h) ?_
        refine G.seqK fun K34 hK35 => ?_
        cases hb36 : (decide ((j : Int) < (outs.length : Int)))
        · skip
          have hb36f := of_decide_eq_false hb36
          refine G.no rfl ?_
          refine G.exitK hK26 (fun _ _ h => h) ?_
          refine G.seqK fun K37 hK38 => ?_
          refine G.region ?_
          refine GL.run (j := 1) 1 [2] [(2, .bool true)] (by kernel_rfl) rfl ?_
          refine GL.k rfl hK38 (fun _ _ h => h) ?_
          refine G.ret ?_
          intro F_ hF_ hM_
          refine hRet _ _ (bodyPost_1 rfl (RV.tmp rfl) ?_ F_ hF_ hM_)
          have e0 : txF ins outs = true := decide_eq_true ⟨by omega, by omega, hall1, take_done hja (by omega)⟩
          rw [e0]
          exact ⟨rfl, H31.sub (List.nil_sublist _)⟩
        · skip
          have hb36f := of_decide_eq_true hb36
          refine G.yes rfl ?_
          refine G.skipK hK35 (fun _ _ h => h) ?_
          refine G.seqK fun K39 hK40 => ?_
          refine G.block ?_
          refine G.seqK fun K41 hK42 => ?_
          refine G.region ?_
          obtain ⟨x43, hx44⟩ : ∃ x, outs[j]? = some x := ⟨_, List.getElem?_eq_getElem (by omega)⟩
          have hok45 := hO x43 (List.mem_of_getElem? hx44)
          refine GL.sem (j := 1) (run_idxRdN (P := Try.prog) (k := .i64) (t := 24) (sz := 2) (A := B) (len := outs.length) (cap := cb) (j := j) (by kernel_rfl) rfl (hOuts.hp H31) (outsC_length _) (by decide) (by omega)) [30, 31, 32, 34] [(30, .slice B outs.length cb), (31, .int .i64 (outs.length : Int)), (32, .int .i64 (j : Int)), (34, .pointer (Option.map (fun x => Addr.add x (j * 2)) B))] (by kernel_rfl) (by kernel_rfl) rfl ?_
          refine GL.sem (j := 2) (run_ldRdA (P := Try.prog) (ty := 40) (A := B) (o := (j * 2)) (m := 2) (sub := [.int .u64 (x43.pv : Int), .slice x43.B x43.lb.length x43.lc]) (by kernel_rfl) (hOuts.hp H31) (outsC_cut hx44) (rfl) (by decide)) [30, 31, 32, 35] [(30, .slice B outs.length cb), (31, .int .i64 (outs.length : Int)), (32, .int .i64 (j : Int)), (35, .agg #[.int .u64 (x43.pv : Int), .slice x43.B x43.lb.length x43.lc])] (by kernel_rfl) (by kernel_rfl) rfl ?_
          obtain ⟨p46, w47, r48, H49⟩ := H31.alloc (P := Try.prog) 40 [.int .u64 0, .slice none 0 0] (by kernel_rfl)
          have H49 : Hp w [] [.blk p3 [.int .u32 (v : Int), .slice A ins.length ca, .slice B outs.length cb, .int .u32 (lt : Int)] 26, .blk p46 [.int .u64 0, .slice none 0 0] 40] w47 := H49
          refine GL.sem (j := 3) (r48) [6, 30, 31, 32, 35] [(6, pt p46 0), (30, .slice B outs.length cb), (31, .int .i64 (outs.length : Int)), (32, .int .i64 (j : Int)), (35, .agg #[.int .u64 (x43.pv : Int), .slice x43.B x43.lb.length x43.lc])] (by kernel_rfl) (by kernel_rfl) rfl ?_
          obtain ⟨w50, r51, H52⟩ := H49.stA (P := Try.prog) (o := 0) (vs := [.int .u64 (x43.pv : Int), .slice x43.B x43.lb.length x43.lc]) (ty := 40) (m := 2) 1 rfl (by kernel_rfl) rfl (by simp) (by simp [Value.oneCell'])
          have H52 : Hp w [] [.blk p3 [.int .u32 (v : Int), .slice A ins.length ca, .slice B outs.length cb, .int .u32 (lt : Int)] 26, .blk p46 [.int .u64 (x43.pv : Int), .slice x43.B x43.lb.length x43.lc] 40] w50 := H52
          refine GL.semU (j := 4) r51 [6, 30, 31, 32] [(6, pt p46 0), (30, .slice B outs.length cb), (31, .int .i64 (outs.length : Int)), (32, .int .i64 (j : Int))] (by kernel_rfl) rfl rfl rfl ?_
          refine GL.k rfl hK42 (fun _ _ h => h) ?_
          refine G.seqK fun K53 hK54 => ?_
          refine G.region ?_
          refine GL.run (j := 1) 1 [30, 31, 32, 36] [(30, .slice B outs.length cb), (31, .int .i64 (outs.length : Int)), (32, .int .i64 (j : Int)), (36, pt p46 1)] (by kernel_rfl) rfl ?_
          refine GL.sem (j := 2) (H52.ld (o := 1) (ty := 38) (v := .slice x43.B x43.lb.length x43.lc) 1 rfl (by kernel_rfl) rfl) [30, 31, 32, 37] [(30, .slice B outs.length cb), (31, .int .i64 (outs.length : Int)), (32, .int .i64 (j : Int)), (37, .slice x43.B x43.lb.length x43.lc)] (by kernel_rfl) (by kernel_rfl) rfl ?_
          refine GL.run (j := 4) 2 [30, 31, 32, 39] [(30, .slice B outs.length cb), (31, .int .i64 (outs.length : Int)), (32, .int .i64 (j : Int)), (39, .bool (decide (600 < (x43.lb.length : Int))))] (by kernel_rfl) rfl ?_
          refine GL.k rfl hK54 (fun _ _ h => h) ?_
          cases hb55 : (decide (600 < (x43.lb.length : Int)))
          · skip
            have hb55f := of_decide_eq_false hb55
            refine G.no rfl ?_
            refine G.skipK hK40 (fun _ _ h => h) ?_
            refine G.region ?_
            refine GL.run (j := 2) 2 [30, 31, 32] [(30, .slice B outs.length cb), (31, .int .i64 (outs.length : Int)), (32, .int .i64 (IntKind.i64.wrap ((j : Int) + 1)))] (by kernel_rfl) rfl ?_
            have e56 : (IntKind.i64.wrap ((j : Int) + 1)) = ((j + 1 : Nat) : Int) := by rw [in_i64 (by omega)]; omega
            refine GL.eq (M' := [(30, .slice B outs.length cb), (31, .int .i64 (outs.length : Int)), (32, .int .i64 ((j + 1 : Nat) : Int))]) (by rw [e56]) ?_
            clear e56
            have H57 : Hp w [] [.blk p3 [.int .u32 (v : Int), .slice A ins.length ca, .slice B outs.length cb, .int .u32 (lt : Int)] 26] w50 := H52.sub (List.Sublist.cons_cons _ (List.Sublist.cons _ (List.Sublist.slnil)))
            refine GL.fit (ts := [30, 31, 32]) (M' := [(30, .slice B outs.length cb), (31, .int .i64 (outs.length : Int)), (32, .int .i64 ((j + 1 : Nat) : Int))]) (by kernel_rfl) ?_
            refine GL.eq (M' := [(30, .slice B outs.length cb), (31, .int .i64 (outs.length : Int)), (32, .int .i64 (((j + 1) : Nat) : Int))]) (by rfl) ?_
            exact GL.again (j + 1) [30, 31, 32] rfl (by kernel_rfl) (by show outs.length - (j + 1) < outs.length - j; omega) ⟨⟨by omega, take_all hja hx44 (by omega)⟩, H57⟩
          · skip
            have hb55f := of_decide_eq_true hb55
            refine G.yes rfl ?_
            refine G.seqK fun K58 hK59 => ?_
            refine G.region ?_
            refine GL.run (j := 1) 1 [2] [(2, .bool false)] (by kernel_rfl) rfl ?_
            refine GL.k rfl hK59 (fun _ _ h => h) ?_
            refine G.ret ?_
            intro F_ hF_ hM_
            refine hRet _ _ (bodyPost_1 rfl (RV.tmp rfl) ?_ F_ hF_ hM_)
            have e0 : txF ins outs = false := decide_eq_false fun h => by have := h.2.2.2 x43 (List.mem_of_getElem? hx44); omega
            rw [e0]
            exact ⟨rfl, H52.sub (List.nil_sublist _)⟩
      · skip
        have hb24f := of_decide_eq_true hb24
        refine G.yes rfl ?_
        refine G.skipK hK23 (fun _ _ h => h) ?_
        refine G.seqK fun K60 hK61 => ?_
        refine G.block ?_
        refine G.seqK fun K62 hK63 => ?_
        refine G.region ?_
        obtain ⟨x64, hx65⟩ : ∃ x, ins[i]? = some x := ⟨_, List.getElem?_eq_getElem (by omega)⟩
        have hok66 := hI x64 (List.mem_of_getElem? hx65)
        refine GL.sem (j := 1) (run_idxRdN (P := Try.prog) (k := .i64) (t := 23) (sz := 35) (A := A) (len := ins.length) (cap := ca) (j := i) (by kernel_rfl) rfl (hIns.hp H19) (insC_length (fun x_ h_ => (hI x_ h_).1)) (by decide) (by omega)) [1, 18, 19, 20, 22] [(1, pt p3 0), (18, .slice A ins.length ca), (19, .int .i64 (ins.length : Int)), (20, .int .i64 (i : Int)), (22, .pointer (Option.map (fun x => Addr.add x (i * 35)) A))] (by kernel_rfl) (by kernel_rfl) rfl ?_
        refine GL.sem (j := 2) (run_ldRdA (P := Try.prog) (ty := 53) (A := A) (o := (i * 35)) (m := 35) (sub := x64.cells) (by kernel_rfl) (hIns.hp H19) (insC_cut (fun x_ h_ => (hI x_ h_).1) hx65) (TIn.cells_length hok66.1) (by decide)) [1, 18, 19, 20, 23] [(1, pt p3 0), (18, .slice A ins.length ca), (19, .int .i64 (ins.length : Int)), (20, .int .i64 (i : Int)), (23, .agg (x64.cells).toArray)] (by kernel_rfl) (by kernel_rfl) rfl ?_
        obtain ⟨p67, w68, r69, H70⟩ := H19.alloc (P := Try.prog) 53 (TIn.nil.cells) (by kernel_rfl)
        have H70 : Hp w [] [.blk p3 [.int .u32 (v : Int), .slice A ins.length ca, .slice B outs.length cb, .int .u32 (lt : Int)] 26, .blk p67 (TIn.nil.cells) 53] w68 := H70
        refine GL.sem (j := 3) (r69) [1, 4, 18, 19, 20, 23] [(1, pt p3 0), (4, pt p67 0), (18, .slice A ins.length ca), (19, .int .i64 (ins.length : Int)), (20, .int .i64 (i : Int)), (23, .agg (x64.cells).toArray)] (by kernel_rfl) (by kernel_rfl) rfl ?_
        obtain ⟨w71, r72, H73⟩ := H70.stA (P := Try.prog) (o := 0) (vs := x64.cells) (ty := 53) (m := 35) 1 rfl (by kernel_rfl) (TIn.cells_length hok66.1) (by rw [Nat.zero_add, TIn.cells_length rfl]; exact Nat.le_refl _) TIn.cells_one
        rw [tx_whole (TIn.cells_length rfl)] at H73
        have H73 : Hp w [] [.blk p3 [.int .u32 (v : Int), .slice A ins.length ca, .slice B outs.length cb, .int .u32 (lt : Int)] 26, .blk p67 (x64.cells) 53] w71 := H73
        refine GL.semU (j := 4) r72 [1, 4, 18, 19, 20] [(1, pt p3 0), (4, pt p67 0), (18, .slice A ins.length ca), (19, .int .i64 (ins.length : Int)), (20, .int .i64 (i : Int))] (by kernel_rfl) rfl rfl rfl ?_
        refine GL.k rfl hK63 (fun _ _ h => h) ?_
        refine G.seqK fun K74 hK75 => ?_
        refine G.region ?_
        refine GL.run (j := 1) 1 [1, 18, 19, 20, 24] [(1, pt p3 0), (18, .slice A ins.length ca), (19, .int .i64 (ins.length : Int)), (20, .int .i64 (i : Int)), (24, pt p67 33)] (by kernel_rfl) rfl ?_
        refine GL.sem (j := 2) (H73.ld (o := 33) (ty := 38) (v := .slice x64.B x64.kb.length x64.kc) 1 rfl (by kernel_rfl) (TIn.cells_key hok66.1)) [1, 18, 19, 20, 25] [(1, pt p3 0), (18, .slice A ins.length ca), (19, .int .i64 (ins.length : Int)), (20, .int .i64 (i : Int)), (25, .slice x64.B x64.kb.length x64.kc)] (by kernel_rfl) (by kernel_rfl) rfl ?_
        refine GL.run (j := 4) 2 [1, 18, 19, 20, 27] [(1, pt p3 0), (18, .slice A ins.length ca), (19, .int .i64 (ins.length : Int)), (20, .int .i64 (i : Int)), (27, .bool (decide (600 < (x64.kb.length : Int))))] (by kernel_rfl) rfl ?_
        refine GL.k rfl hK75 (fun _ _ h => h) ?_
        cases hb76 : (decide (600 < (x64.kb.length : Int)))
        · skip
          have hb76f := of_decide_eq_false hb76
          refine G.no rfl ?_
          refine G.skipK hK61 (fun _ _ h => h) ?_
          refine G.region ?_
          refine GL.run (j := 2) 2 [1, 18, 19, 20] [(1, pt p3 0), (18, .slice A ins.length ca), (19, .int .i64 (ins.length : Int)), (20, .int .i64 (IntKind.i64.wrap ((i : Int) + 1)))] (by kernel_rfl) rfl ?_
          have e77 : (IntKind.i64.wrap ((i : Int) + 1)) = ((i + 1 : Nat) : Int) := by rw [in_i64 (by omega)]; omega
          refine GL.eq (M' := [(1, pt p3 0), (18, .slice A ins.length ca), (19, .int .i64 (ins.length : Int)), (20, .int .i64 ((i + 1 : Nat) : Int))]) (by rw [e77]) ?_
          clear e77
          have H78 : Hp w [] [.blk p3 [.int .u32 (v : Int), .slice A ins.length ca, .slice B outs.length cb, .int .u32 (lt : Int)] 26] w71 := H73.sub (List.Sublist.cons_cons _ (List.Sublist.cons _ (List.Sublist.slnil)))
          refine GL.fit (ts := [1, 18, 19, 20]) (M' := [(1, pt p3 0), (18, .slice A ins.length ca), (19, .int .i64 (ins.length : Int)), (20, .int .i64 ((i + 1 : Nat) : Int))]) (by kernel_rfl) ?_
          refine GL.eq (M' := [(1, pt p3 0), (18, .slice A ins.length ca), (19, .int .i64 (ins.length : Int)), (20, .int .i64 (((i + 1) : Nat) : Int))]) (by rfl) ?_
          exact GL.again (i + 1) [1, 18, 19, 20] rfl (by kernel_rfl) (by show ins.length - (i + 1) < ins.length - i; omega) ⟨⟨by omega, take_all hia hx65 (by omega)⟩, H78⟩
        · skip
          have hb76f := of_decide_eq_true hb76
          refine G.yes rfl ?_
          refine G.seqK fun K79 hK80 => ?_
          refine G.region ?_
          refine GL.run (j := 1) 1 [2] [(2, .bool false)] (by kernel_rfl) rfl ?_
          refine GL.k rfl hK80 (fun _ _ h => h) ?_
          refine G.ret ?_
          intro F_ hF_ hM_
          refine hRet _ _ (bodyPost_1 rfl (RV.tmp rfl) ?_ F_ hF_ hM_)
          have e0 : txF ins outs = false := decide_eq_false fun h => by have := h.2.2.1 x64 (List.mem_of_getElem? hx65); omega
          rw [e0]
          exact ⟨rfl, H73.sub (List.nil_sublist _)⟩
    · skip
      have hb12f := of_decide_eq_true hb12
      refine G.yes rfl ?_
      refine G.seqK fun K81 hK82 => ?_
      refine G.region ?_
      refine GL.run (j := 1) 1 [2] [(2, .bool false)] (by kernel_rfl) rfl ?_
      refine GL.k rfl hK82 (fun _ _ h => h) ?_
      refine G.ret ?_
      intro F_ hF_ hM_
      refine hRet _ _ (bodyPost_1 rfl (RV.tmp rfl) ?_ F_ hF_ hM_)
      have e0 : txF ins outs = false := decide_eq_false fun h => by omega
      rw [e0]
      exact ⟨rfl, H6.sub (List.nil_sublist _)⟩
  · skip
    have hb11f := of_decide_eq_true hb11
    refine GL.run (j := 10) 5 [1, 16] [(1, pt p3 0), (16, .bool true)] (by kernel_rfl) rfl ?_
    refine GL.k rfl hK10 (fun _ _ h => h) ?_
    refine G.yes rfl ?_
    refine G.seqK fun K83 hK84 => ?_
    refine G.region ?_
    refine GL.run (j := 1) 1 [2] [(2, .bool false)] (by kernel_rfl) rfl ?_
    refine GL.k rfl hK84 (fun _ _ h => h) ?_
    refine G.ret ?_
    intro F_ hF_ hM_
    refine hRet _ _ (bodyPost_1 rfl (RV.tmp rfl) ?_ F_ hF_ hM_)
    have e0 : txF ins outs = false := decide_eq_false fun h => by omega
    rw [e0]
    exact ⟨rfl, H6.sub (List.nil_sublist _)⟩
end Go.Proofs.Ytcedmbdahbdmaaa
set_option maxRecDepth 100000
namespace Go.Proofs.Ytcedmbdahbdmaaa
open Go.RowKit
theorem lives_calls (w : World) : Calls Try.prog 7 #[] w fun e w' => e = .returned (.bool true) ∧ Hp w [] [] w' := by
  refine calls_G (args := []) Try.func7 rfl Try.ntmps7 rfl ?_
  intro Q0 hRet hNor hPan
  have H := Hp.start w
  have H : Hp w [] [] w := H
  refine G.seqK fun K1 hK2 => ?_
  refine G.region ?_
  refine GL.run (j := 1) 1 [] [] (by kernel_rfl) rfl ?_
  refine GL.k rfl hK2 (fun _ _ h => h) ?_
  refine G.seqK fun K3 hK4 => ?_
  refine G.region ?_
  refine GL.run (j := 1) 1 [9] [(9, .agg #[.int .i64 1, .int .u8 0, .int .u8 0, .int .u8 0, .int .u8 0, .int .u8 0, .int .u8 0, .int .u8 0, .int .u8 0, .int .u8 0, .int .u8 0, .int .u8 0, .int .u8 0, .int .u8 0, .int .u8 0, .int .u8 0, .int .u8 0, .int .u8 0, .int .u8 0, .int .u8 0, .int .u8 0, .slice none 0 0])] (by kernel_rfl) rfl ?_
  refine GL.call (j := 2) (Bytes_addr (0 : UInt8) (0 : UInt8) (0 : UInt8) (0 : UInt8) (0 : UInt8) (0 : UInt8) (0 : UInt8) (0 : UInt8) (0 : UInt8) (0 : UInt8) (0 : UInt8) (0 : UInt8) (0 : UInt8) (0 : UInt8) (0 : UInt8) (0 : UInt8) (0 : UInt8) (0 : UInt8) (0 : UInt8) (0 : UInt8) none 0 0 w) (by kernel_rfl) rfl (fun e_ w9 hR => ?_)
  obtain ⟨A5, c6, rfl, H8⟩ := hR
  have H7 : Hp w [] [.row A5 (([118, 169, 20, 0, 0, 0, 0, 0, 0, 0, 0, 0, 0, 0, 0, 0, 0, 0, 0, 0, 0, 0, 0, 136, 172] : List UInt8).length) c6 5 1 (by8 ([118, 169, 20, 0, 0, 0, 0, 0, 0, 0, 0, 0, 0, 0, 0, 0, 0, 0, 0, 0, 0, 0, 0, 136, 172] : List UInt8))] w9 := H.callNew H8
  refine ⟨_, rfl, [10], [(10, .tuple #[.slice A5 (([118, 169, 20, 0, 0, 0, 0, 0, 0, 0, 0, 0, 0, 0, 0, 0, 0, 0, 0, 0, 0, 0, 0, 136, 172] : List UInt8).length) c6, .int .i64 0])], by kernel_rfl, ?_⟩
  refine GL.run (j := 7) 5 [1, 2] [(1, .slice A5 (([118, 169, 20, 0, 0, 0, 0, 0, 0, 0, 0, 0, 0, 0, 0, 0, 0, 0, 0, 0, 0, 0, 0, 136, 172] : List UInt8).length) c6), (2, .int .i64 0)] (by kernel_rfl) rfl ?_
  refine GL.k rfl hK4 (fun _ _ h => h) ?_
  refine G.seqK fun K10 hK11 => ?_
  refine G.region ?_
  refine GL.run (j := 1) 1 [1, 2, 13] [(1, .slice A5 (([118, 169, 20, 0, 0, 0, 0, 0, 0, 0, 0, 0, 0, 0, 0, 0, 0, 0, 0, 0, 0, 0, 0, 136, 172] : List UInt8).length) c6), (2, .int .i64 0), (13, .agg #[.int .u8 0, .int .u8 0, .int .u8 0, .int .u8 0, .int .u8 0, .int .u8 0, .int .u8 0, .int .u8 0, .int .u8 0, .int .u8 0, .int .u8 0, .int .u8 0, .int .u8 0, .int .u8 0, .int .u8 0, .int .u8 0, .int .u8 0, .int .u8 0, .int .u8 0, .int .u8 0, .int .u8 0, .int .u8 0, .int .u8 0, .int .u8 0, .int .u8 0, .int .u8 0, .int .u8 0, .int .u8 0, .int .u8 0, .int .u8 0, .int .u8 0, .int .u8 0, .int .u32 0, .slice none 0 0, .int .u32 0])] (by kernel_rfl) rfl ?_
  obtain ⟨p12, w13, r14, H15⟩ := H7.made (P := Try.prog) (Instr.buildSlice 23 1 #[(0, .agg #[.int .u8 0, .int .u8 0, .int .u8 0, .int .u8 0, .int .u8 0, .int .u8 0, .int .u8 0, .int .u8 0, .int .u8 0, .int .u8 0, .int .u8 0, .int .u8 0, .int .u8 0, .int .u8 0, .int .u8 0, .int .u8 0, .int .u8 0, .int .u8 0, .int .u8 0, .int .u8 0, .int .u8 0, .int .u8 0, .int .u8 0, .int .u8 0, .int .u8 0, .int .u8 0, .int .u8 0, .int .u8 0, .int .u8 0, .int .u8 0, .int .u8 0, .int .u8 0, .int .u32 0, .slice none 0 0, .int .u32 0])]) (fun b_ => .slice (some ⟨b_, 0, none⟩) 1 1) [.int .u8 0, .int .u8 0, .int .u8 0, .int .u8 0, .int .u8 0, .int .u8 0, .int .u8 0, .int .u8 0, .int .u8 0, .int .u8 0, .int .u8 0, .int .u8 0, .int .u8 0, .int .u8 0, .int .u8 0, .int .u8 0, .int .u8 0, .int .u8 0, .int .u8 0, .int .u8 0, .int .u8 0, .int .u8 0, .int .u8 0, .int .u8 0, .int .u8 0, .int .u8 0, .int .u8 0, .int .u8 0, .int .u8 0, .int .u8 0, .int .u8 0, .int .u8 0, .int .u32 0, .slice none 0 0, .int .u32 0] 53 (by kernel_rfl)
  have H15 : Hp w [] [.row A5 (([118, 169, 20, 0, 0, 0, 0, 0, 0, 0, 0, 0, 0, 0, 0, 0, 0, 0, 0, 0, 0, 0, 0, 136, 172] : List UInt8).length) c6 5 1 (by8 ([118, 169, 20, 0, 0, 0, 0, 0, 0, 0, 0, 0, 0, 0, 0, 0, 0, 0, 0, 0, 0, 0, 0, 136, 172] : List UInt8)), .blk p12 [.int .u8 0, .int .u8 0, .int .u8 0, .int .u8 0, .int .u8 0, .int .u8 0, .int .u8 0, .int .u8 0, .int .u8 0, .int .u8 0, .int .u8 0, .int .u8 0, .int .u8 0, .int .u8 0, .int .u8 0, .int .u8 0, .int .u8 0, .int .u8 0, .int .u8 0, .int .u8 0, .int .u8 0, .int .u8 0, .int .u8 0, .int .u8 0, .int .u8 0, .int .u8 0, .int .u8 0, .int .u8 0, .int .u8 0, .int .u8 0, .int .u8 0, .int .u8 0, .int .u32 0, .slice none 0 0, .int .u32 0] 53] w13 := H15
  refine GL.sem (j := 2) (r14) [1, 2, 14] [(1, .slice A5 (([118, 169, 20, 0, 0, 0, 0, 0, 0, 0, 0, 0, 0, 0, 0, 0, 0, 0, 0, 0, 0, 0, 0, 136, 172] : List UInt8).length) c6), (2, .int .i64 0), (14, .slice (some ⟨p12, 0, none⟩) 1 1)] (by kernel_rfl) (by kernel_rfl) rfl ?_
  refine GL.run (j := 4) 2 [2, 14, 16] [(2, .int .i64 0), (14, .slice (some ⟨p12, 0, none⟩) 1 1), (16, .agg #[.int .u64 5, .slice A5 (([118, 169, 20, 0, 0, 0, 0, 0, 0, 0, 0, 0, 0, 0, 0, 0, 0, 0, 0, 0, 0, 0, 0, 136, 172] : List UInt8).length) c6])] (by kernel_rfl) rfl ?_
  obtain ⟨p16, w17, r18, H19⟩ := H15.made (P := Try.prog) (Instr.buildSlice 24 1 #[(0, .agg #[.int .u64 5, .slice A5 (([118, 169, 20, 0, 0, 0, 0, 0, 0, 0, 0, 0, 0, 0, 0, 0, 0, 0, 0, 0, 0, 0, 0, 136, 172] : List UInt8).length) c6])]) (fun b_ => .slice (some ⟨b_, 0, none⟩) 1 1) [.int .u64 5, .slice A5 (([118, 169, 20, 0, 0, 0, 0, 0, 0, 0, 0, 0, 0, 0, 0, 0, 0, 0, 0, 0, 0, 0, 0, 136, 172] : List UInt8).length) c6] 40 (by kernel_rfl)
  have H19 : Hp w [] [.row A5 (([118, 169, 20, 0, 0, 0, 0, 0, 0, 0, 0, 0, 0, 0, 0, 0, 0, 0, 0, 0, 0, 0, 0, 136, 172] : List UInt8).length) c6 5 1 (by8 ([118, 169, 20, 0, 0, 0, 0, 0, 0, 0, 0, 0, 0, 0, 0, 0, 0, 0, 0, 0, 0, 0, 0, 136, 172] : List UInt8)), .blk p12 [.int .u8 0, .int .u8 0, .int .u8 0, .int .u8 0, .int .u8 0, .int .u8 0, .int .u8 0, .int .u8 0, .int .u8 0, .int .u8 0, .int .u8 0, .int .u8 0, .int .u8 0, .int .u8 0, .int .u8 0, .int .u8 0, .int .u8 0, .int .u8 0, .int .u8 0, .int .u8 0, .int .u8 0, .int .u8 0, .int .u8 0, .int .u8 0, .int .u8 0, .int .u8 0, .int .u8 0, .int .u8 0, .int .u8 0, .int .u8 0, .int .u8 0, .int .u8 0, .int .u32 0, .slice none 0 0, .int .u32 0] 53, .blk p16 [.int .u64 5, .slice A5 (([118, 169, 20, 0, 0, 0, 0, 0, 0, 0, 0, 0, 0, 0, 0, 0, 0, 0, 0, 0, 0, 0, 0, 136, 172] : List UInt8).length) c6] 40] w17 := H19
  refine GL.sem (j := 5) (r18) [2, 14, 17] [(2, .int .i64 0), (14, .slice (some ⟨p12, 0, none⟩) 1 1), (17, .slice (some ⟨p16, 0, none⟩) 1 1)] (by kernel_rfl) (by kernel_rfl) rfl ?_
  refine GL.run (j := 6) 1 [2, 18] [(2, .int .i64 0), (18, .agg #[.int .u32 0, .slice (some ⟨p12, 0, none⟩) 1 1, .slice (some ⟨p16, 0, none⟩) 1 1, .int .u32 0])] (by kernel_rfl) rfl ?_
  obtain ⟨p20, w21, r22, H23⟩ := H19.alloc (P := Try.prog) 26 [.int .u32 0, .slice none 0 0, .slice none 0 0, .int .u32 0] (by kernel_rfl)
  have H23 : Hp w [] [.row A5 (([118, 169, 20, 0, 0, 0, 0, 0, 0, 0, 0, 0, 0, 0, 0, 0, 0, 0, 0, 0, 0, 0, 0, 136, 172] : List UInt8).length) c6 5 1 (by8 ([118, 169, 20, 0, 0, 0, 0, 0, 0, 0, 0, 0, 0, 0, 0, 0, 0, 0, 0, 0, 0, 0, 0, 136, 172] : List UInt8)), .blk p12 [.int .u8 0, .int .u8 0, .int .u8 0, .int .u8 0, .int .u8 0, .int .u8 0, .int .u8 0, .int .u8 0, .int .u8 0, .int .u8 0, .int .u8 0, .int .u8 0, .int .u8 0, .int .u8 0, .int .u8 0, .int .u8 0, .int .u8 0, .int .u8 0, .int .u8 0, .int .u8 0, .int .u8 0, .int .u8 0, .int .u8 0, .int .u8 0, .int .u8 0, .int .u8 0, .int .u8 0, .int .u8 0, .int .u8 0, .int .u8 0, .int .u8 0, .int .u8 0, .int .u32 0, .slice none 0 0, .int .u32 0] 53, .blk p16 [.int .u64 5, .slice A5 (([118, 169, 20, 0, 0, 0, 0, 0, 0, 0, 0, 0, 0, 0, 0, 0, 0, 0, 0, 0, 0, 0, 0, 136, 172] : List UInt8).length) c6] 40, .blk p20 [.int .u32 0, .slice none 0 0, .slice none 0 0, .int .u32 0] 26] w21 := H23
  refine GL.sem (j := 7) (r22) [2, 3, 18] [(2, .int .i64 0), (3, pt p20 0), (18, .agg #[.int .u32 0, .slice (some ⟨p12, 0, none⟩) 1 1, .slice (some ⟨p16, 0, none⟩) 1 1, .int .u32 0])] (by kernel_rfl) (by kernel_rfl) rfl ?_
  obtain ⟨w24, r25, H26⟩ := H23.stA (P := Try.prog) (o := 0) (vs := [.int .u32 0, .slice (some ⟨p12, 0, none⟩) 1 1, .slice (some ⟨p16, 0, none⟩) 1 1, .int .u32 0]) (ty := 26) (m := 4) 3 rfl (by kernel_rfl) rfl (by simp) (by simp [Value.oneCell'])
  have H26 : Hp w [] [.row A5 (([118, 169, 20, 0, 0, 0, 0, 0, 0, 0, 0, 0, 0, 0, 0, 0, 0, 0, 0, 0, 0, 0, 0, 136, 172] : List UInt8).length) c6 5 1 (by8 ([118, 169, 20, 0, 0, 0, 0, 0, 0, 0, 0, 0, 0, 0, 0, 0, 0, 0, 0, 0, 0, 0, 0, 136, 172] : List UInt8)), .blk p12 [.int .u8 0, .int .u8 0, .int .u8 0, .int .u8 0, .int .u8 0, .int .u8 0, .int .u8 0, .int .u8 0, .int .u8 0, .int .u8 0, .int .u8 0, .int .u8 0, .int .u8 0, .int .u8 0, .int .u8 0, .int .u8 0, .int .u8 0, .int .u8 0, .int .u8 0, .int .u8 0, .int .u8 0, .int .u8 0, .int .u8 0, .int .u8 0, .int .u8 0, .int .u8 0, .int .u8 0, .int .u8 0, .int .u8 0, .int .u8 0, .int .u8 0, .int .u8 0, .int .u32 0, .slice none 0 0, .int .u32 0] 53, .blk p16 [.int .u64 5, .slice A5 (([118, 169, 20, 0, 0, 0, 0, 0, 0, 0, 0, 0, 0, 0, 0, 0, 0, 0, 0, 0, 0, 0, 0, 136, 172] : List UInt8).length) c6] 40, .blk p20 [.int .u32 0, .slice (some ⟨p12, 0, none⟩) 1 1, .slice (some ⟨p16, 0, none⟩) 1 1, .int .u32 0] 26] w24 := H26
  refine GL.semU (j := 8) r25 [2, 3] [(2, .int .i64 0), (3, pt p20 0)] (by kernel_rfl) rfl rfl rfl ?_
  refine GL.k rfl hK11 (fun _ _ h => h) ?_
  refine G.seqK fun K27 hK28 => ?_
  refine G.region ?_
  refine GL.sem (j := 1) (H26.ldA (o := 0) (ty := 26) (m := 4) (sub := [.int .u32 0, .slice (some ⟨p12, 0, none⟩) 1 1, .slice (some ⟨p16, 0, none⟩) 1 1, .int .u32 0]) 3 rfl (by kernel_rfl) rfl rfl) [2, 3, 20] [(2, .int .i64 0), (3, pt p20 0), (20, .agg #[.int .u32 0, .slice (some ⟨p12, 0, none⟩) 1 1, .slice (some ⟨p16, 0, none⟩) 1 1, .int .u32 0])] (by kernel_rfl) (by kernel_rfl) rfl ?_
  have eE : txE 0 [TIn.nil] [⟨5, A5, ([118, 169, 20, 0, 0, 0, 0, 0, 0, 0, 0, 0, 0, 0, 0, 0, 0, 0, 0, 0, 0, 0, 0, 136, 172] : List UInt8), c6⟩] 0 = 0 := by kernel_rfl
  have eL : (txO 0 [TIn.nil] [⟨5, A5, ([118, 169, 20, 0, 0, 0, 0, 0, 0, 0, 0, 0, 0, 0, 0, 0, 0, 0, 0, 0, 0, 0, 0, 136, 172] : List UInt8), c6⟩] 0).length = 85 := by kernel_rfl
  refine GL.call (j := 2) (by have h_ := TBytes_calls 0 [TIn.nil] (some ⟨p12, 0, none⟩) 1 [⟨5, A5, ([118, 169, 20, 0, 0, 0, 0, 0, 0, 0, 0, 0, 0, 0, 0, 0, 0, 0, 0, 0, 0, 0, 0, 136, 172] : List UInt8), c6⟩] (some ⟨p16, 0, none⟩) 1 0 w24 (by decide) (by decide) (H26.rdBlk (o := 0) (xs := insC [TIn.nil]) 1 35 rfl (by kernel_rfl)) (fun x hx => by simp only [List.mem_singleton] at hx; subst hx; exact ⟨rfl, by decide, by decide, fun _ _ _ => .inl rfl, by decide, by decide⟩) (H26.rdBlk (o := 0) (xs := outsC [⟨5, A5, ([118, 169, 20, 0, 0, 0, 0, 0, 0, 0, 0, 0, 0, 0, 0, 0, 0, 0, 0, 0, 0, 0, 0, 136, 172] : List UInt8), c6⟩]) 2 2 rfl rfl) (fun x hx => by simp only [List.mem_singleton] at hx; subst hx; exact ⟨(show 5 < 18446744073709551616 by decide), RdO.row (A' := []) (B' := [.row A5 (([118, 169, 20, 0, 0, 0, 0, 0, 0, 0, 0, 0, 0, 0, 0, 0, 0, 0, 0, 0, 0, 0, 0, 136, 172] : List UInt8).length) c6 5 1 (by8 ([118, 169, 20, 0, 0, 0, 0, 0, 0, 0, 0, 0, 0, 0, 0, 0, 0, 0, 0, 0, 0, 0, 0, 136, 172] : List UInt8)), .blk p12 [.int .u8 0, .int .u8 0, .int .u8 0, .int .u8 0, .int .u8 0, .int .u8 0, .int .u8 0, .int .u8 0, .int .u8 0, .int .u8 0, .int .u8 0, .int .u8 0, .int .u8 0, .int .u8 0, .int .u8 0, .int .u8 0, .int .u8 0, .int .u8 0, .int .u8 0, .int .u8 0, .int .u8 0, .int .u8 0, .int .u8 0, .int .u8 0, .int .u8 0, .int .u8 0, .int .u8 0, .int .u8 0, .int .u8 0, .int .u8 0, .int .u8 0, .int .u8 0, .int .u32 0, .slice none 0 0, .int .u32 0] 53, .blk p16 [.int .u64 5, .slice A5 (([118, 169, 20, 0, 0, 0, 0, 0, 0, 0, 0, 0, 0, 0, 0, 0, 0, 0, 0, 0, 0, 0, 0, 136, 172] : List UInt8).length) c6] 40, .blk p20 [.int .u32 0, .slice (some ⟨p12, 0, none⟩) 1 1, .slice (some ⟨p16, 0, none⟩) 1 1, .int .u32 0] 26]) H26 0 rfl, (H26.rowLe 0 rfl).1, (H26.rowLe 0 rfl).2.2⟩) (by decide) (show 1 ≤ maxLen by decide); rw [eE] at h_; exact h_) (by kernel_rfl) rfl (fun e_ w32 hR => ?_)
  obtain ⟨A29, n30, c31, rfl, H34⟩ := hR
  have H33 : Hp w [] [.row A5 (([118, 169, 20, 0, 0, 0, 0, 0, 0, 0, 0, 0, 0, 0, 0, 0, 0, 0, 0, 0, 0, 0, 0, 136, 172] : List UInt8).length) c6 5 1 (by8 ([118, 169, 20, 0, 0, 0, 0, 0, 0, 0, 0, 0, 0, 0, 0, 0, 0, 0, 0, 0, 0, 0, 0, 136, 172] : List UInt8)), .blk p12 [.int .u8 0, .int .u8 0, .int .u8 0, .int .u8 0, .int .u8 0, .int .u8 0, .int .u8 0, .int .u8 0, .int .u8 0, .int .u8 0, .int .u8 0, .int .u8 0, .int .u8 0, .int .u8 0, .int .u8 0, .int .u8 0, .int .u8 0, .int .u8 0, .int .u8 0, .int .u8 0, .int .u8 0, .int .u8 0, .int .u8 0, .int .u8 0, .int .u8 0, .int .u8 0, .int .u8 0, .int .u8 0, .int .u8 0, .int .u8 0, .int .u8 0, .int .u8 0, .int .u32 0, .slice none 0 0, .int .u32 0] 53, .blk p16 [.int .u64 5, .slice A5 (([118, 169, 20, 0, 0, 0, 0, 0, 0, 0, 0, 0, 0, 0, 0, 0, 0, 0, 0, 0, 0, 0, 0, 136, 172] : List UInt8).length) c6] 40, .blk p20 [.int .u32 0, .slice (some ⟨p12, 0, none⟩) 1 1, .slice (some ⟨p16, 0, none⟩) 1 1, .int .u32 0] 26, .row A29 n30 c31 5 1 (by8 (txO 0 [TIn.nil] [⟨5, A5, ([118, 169, 20, 0, 0, 0, 0, 0, 0, 0, 0, 0, 0, 0, 0, 0, 0, 0, 0, 0, 0, 0, 0, 136, 172] : List UInt8), c6⟩] 0))] w32 := H26.callNew H34
  have hl85 := (H33.rowLe 4 rfl).2.1
  rw [by8_length, Nat.mul_one, eL] at hl85
  refine ⟨_, rfl, [2, 3, 21], [(2, .int .i64 0), (3, pt p20 0), (21, .tuple #[.slice A29 n30 c31, .int .i64 0])], by kernel_rfl, ?_⟩
  refine GL.run (j := 7) 5 [2, 3, 4, 5] [(2, .int .i64 0), (3, pt p20 0), (4, .slice A29 n30 c31), (5, .int .i64 0)] (by kernel_rfl) rfl ?_
  refine GL.k rfl hK28 (fun _ _ h => h) ?_
  refine G.seqK fun K35 hK36 => ?_
  refine G.region ?_
  refine GL.sem (j := 1) (H33.ldA (o := 0) (ty := 26) (m := 4) (sub := [.int .u32 0, .slice (some ⟨p12, 0, none⟩) 1 1, .slice (some ⟨p16, 0, none⟩) 1 1, .int .u32 0]) 3 rfl (by kernel_rfl) rfl rfl) [2, 4, 5, 25] [(2, .int .i64 0), (4, .slice A29 n30 c31), (5, .int .i64 0), (25, .agg #[.int .u32 0, .slice (some ⟨p12, 0, none⟩) 1 1, .slice (some ⟨p16, 0, none⟩) 1 1, .int .u32 0])] (by kernel_rfl) (by kernel_rfl) rfl ?_
  refine GL.run (j := 2) 1 [2, 4, 5, 25, 26] [(2, .int .i64 0), (4, .slice A29 n30 c31), (5, .int .i64 0), (25, .agg #[.int .u32 0, .slice (some ⟨p12, 0, none⟩) 1 1, .slice (some ⟨p16, 0, none⟩) 1 1, .int .u32 0]), (26, .agg #[.int .u8 0, .int .u8 0, .int .u8 0, .int .u8 0, .int .u8 0, .int .u8 0, .int .u8 0, .int .u8 0, .int .u8 0, .int .u8 0, .int .u8 0, .int .u8 0, .int .u8 0, .int .u8 0, .int .u8 0, .int .u8 0, .int .u8 0, .int .u8 0, .int .u8 0, .int .u8 0])] (by kernel_rfl) rfl ?_
  have eP : tot (payL (toA (List.replicate 20 0)) [⟨5, A5, ([118, 169, 20, 0, 0, 0, 0, 0, 0, 0, 0, 0, 0, 0, 0, 0, 0, 0, 0, 0, 0, 0, 0, 136, 172] : List UInt8), c6⟩]) 0 = (0, 5) := by kernel_rfl
  refine GL.call (j := 3) ((by have h_ := Paid_calls 0 [TIn.nil] (some ⟨p12, 0, none⟩) 1 [⟨5, A5, ([118, 169, 20, 0, 0, 0, 0, 0, 0, 0, 0, 0, 0, 0, 0, 0, 0, 0, 0, 0, 0, 0, 0, 136, 172] : List UInt8), c6⟩] (some ⟨p16, 0, none⟩) 1 0 (List.replicate 20 0) w32 (by decide) (by decide) (H33.rdBlk (o := 0) (xs := insC [TIn.nil]) 1 35 rfl (by kernel_rfl)) (fun x hx => by simp only [List.mem_singleton] at hx; subst hx; exact ⟨rfl, by decide, by decide, fun _ _ _ => .inl rfl, by decide, by decide⟩) (H33.rdBlk (o := 0) (xs := outsC [⟨5, A5, ([118, 169, 20, 0, 0, 0, 0, 0, 0, 0, 0, 0, 0, 0, 0, 0, 0, 0, 0, 0, 0, 0, 0, 136, 172] : List UInt8), c6⟩]) 2 2 rfl rfl) (fun x hx => by simp only [List.mem_singleton] at hx; subst hx; exact ⟨(show 5 < 18446744073709551616 by decide), RdO.row (A' := []) (B' := [.row A5 (([118, 169, 20, 0, 0, 0, 0, 0, 0, 0, 0, 0, 0, 0, 0, 0, 0, 0, 0, 0, 0, 0, 0, 136, 172] : List UInt8).length) c6 5 1 (by8 ([118, 169, 20, 0, 0, 0, 0, 0, 0, 0, 0, 0, 0, 0, 0, 0, 0, 0, 0, 0, 0, 0, 0, 136, 172] : List UInt8)), .blk p12 [.int .u8 0, .int .u8 0, .int .u8 0, .int .u8 0, .int .u8 0, .int .u8 0, .int .u8 0, .int .u8 0, .int .u8 0, .int .u8 0, .int .u8 0, .int .u8 0, .int .u8 0, .int .u8 0, .int .u8 0, .int .u8 0, .int .u8 0, .int .u8 0, .int .u8 0, .int .u8 0, .int .u8 0, .int .u8 0, .int .u8 0, .int .u8 0, .int .u8 0, .int .u8 0, .int .u8 0, .int .u8 0, .int .u8 0, .int .u8 0, .int .u8 0, .int .u8 0, .int .u32 0, .slice none 0 0, .int .u32 0] 53, .blk p16 [.int .u64 5, .slice A5 (([118, 169, 20, 0, 0, 0, 0, 0, 0, 0, 0, 0, 0, 0, 0, 0, 0, 0, 0, 0, 0, 0, 0, 136, 172] : List UInt8).length) c6] 40, .blk p20 [.int .u32 0, .slice (some ⟨p12, 0, none⟩) 1 1, .slice (some ⟨p16, 0, none⟩) 1 1, .int .u32 0] 26, .row A29 n30 c31 5 1 (by8 (txO 0 [TIn.nil] [⟨5, A5, ([118, 169, 20, 0, 0, 0, 0, 0, 0, 0, 0, 0, 0, 0, 0, 0, 0, 0, 0, 0, 0, 0, 0, 136, 172] : List UInt8), c6⟩] 0))]) H33 0 rfl, (H33.rowLe 0 rfl).1, (H33.rowLe 0 rfl).2.2⟩) (by decide) (show 1 ≤ maxLen by decide) (fun x hx => by simp only [List.mem_singleton] at hx; subst hx; exact (show 25 ≤ 600 by decide)) rfl; rw [eP] at h_; exact h_)) (by kernel_rfl) rfl (fun e_ w37 hR => ?_)
  obtain ⟨rfl, H39⟩ := hR
  have H38 : Hp w [] [.row A5 (([118, 169, 20, 0, 0, 0, 0, 0, 0, 0, 0, 0, 0, 0, 0, 0, 0, 0, 0, 0, 0, 0, 0, 136, 172] : List UInt8).length) c6 5 1 (by8 ([118, 169, 20, 0, 0, 0, 0, 0, 0, 0, 0, 0, 0, 0, 0, 0, 0, 0, 0, 0, 0, 0, 0, 136, 172] : List UInt8)), .blk p12 [.int .u8 0, .int .u8 0, .int .u8 0, .int .u8 0, .int .u8 0, .int .u8 0, .int .u8 0, .int .u8 0, .int .u8 0, .int .u8 0, .int .u8 0, .int .u8 0, .int .u8 0, .int .u8 0, .int .u8 0, .int .u8 0, .int .u8 0, .int .u8 0, .int .u8 0, .int .u8 0, .int .u8 0, .int .u8 0, .int .u8 0, .int .u8 0, .int .u8 0, .int .u8 0, .int .u8 0, .int .u8 0, .int .u8 0, .int .u8 0, .int .u8 0, .int .u8 0, .int .u32 0, .slice none 0 0, .int .u32 0] 53, .blk p16 [.int .u64 5, .slice A5 (([118, 169, 20, 0, 0, 0, 0, 0, 0, 0, 0, 0, 0, 0, 0, 0, 0, 0, 0, 0, 0, 0, 0, 136, 172] : List UInt8).length) c6] 40, .blk p20 [.int .u32 0, .slice (some ⟨p12, 0, none⟩) 1 1, .slice (some ⟨p16, 0, none⟩) 1 1, .int .u32 0] 26, .row A29 n30 c31 5 1 (by8 (txO 0 [TIn.nil] [⟨5, A5, ([118, 169, 20, 0, 0, 0, 0, 0, 0, 0, 0, 0, 0, 0, 0, 0, 0, 0, 0, 0, 0, 0, 0, 136, 172] : List UInt8), c6⟩] 0))] w37 := H33.callNil H39
  refine ⟨_, rfl, [2, 4, 5, 27], [(2, .int .i64 0), (4, .slice A29 n30 c31), (5, .int .i64 0), (27, .tuple #[.int .u64 5, .int .i64 0])], by kernel_rfl, ?_⟩
  refine GL.run (j := 8) 5 [2, 4, 5, 6, 7] [(2, .int .i64 0), (4, .slice A29 n30 c31), (5, .int .i64 0), (6, .int .u64 5), (7, .int .i64 0)] (by kernel_rfl) rfl ?_
  refine GL.k rfl hK36 (fun _ _ h => h) ?_
  refine G.seqK fun K40 hK41 => ?_
  refine G.region ?_
  refine GL.run (j := 16) 16 [6, 45] [(6, .int .u64 5), (45, .bool ((n30 : Int) == 85))] (by kernel_rfl) rfl ?_
  have hb42 : ((n30 : Int) == 85) = true := by rw [← hl85]; rfl
  rw [hb42]
  refine GL.run (j := 20) 4 [0] [(0, .bool true)] (by kernel_rfl) rfl ?_
  refine GL.k rfl hK41 (fun _ _ h => h) ?_
  refine G.ret ?_
  intro F_ hF_ hM_
  refine hRet _ _ (bodyPost_1 rfl (RV.tmp rfl) ?_ F_ hF_ hM_)
  exact ⟨rfl, H38.sub (List.nil_sublist _)⟩
end Go.Proofs.Ytcedmbdahbdmaaa
