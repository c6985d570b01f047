/- The document's texts of hashes. -/
import Derived.Test.YtfflicgmgadcmaaDigT
namespace Go.Proofs.Ytfflicgmgadcmaa
open Go.RowKit
theorem sg_cut {d : Nat} (h : d < 16) : (signs.drop d).take (d + 1 - d) = [sg d] := by
  have e : ∀ d : Fin 16, (signs.drop d.val).take (d.val + 1 - d.val) = [sg d.val] := by decide
  exact e ⟨d, h⟩
theorem RefText_calls (X : List UInt8) (hX : X.length = 32) (w : World) : Calls Try.prog 13 #[.agg (by8 X).toArray] w fun e w' => e = .returned (.string (strOf (hexT X))) ∧ Hp w [] [] w' := by
  refine calls_G (args := [.agg (by8 X).toArray]) Try.func13 rfl Try.ntmps13 rfl ?_
  intro Q0 hRet hNor hPan
  have H := Hp.start w
  have H : Hp w [] [] w := H
  refine G.seqK fun K1 hK2 => ?_
  refine G.region ?_
  obtain ⟨p3, w4, r5, H6⟩ := H.box (P := Try.prog) 24 (by8 X) (.agg (by8 X).toArray) rfl
  have H6 : Hp w [] [.blk p3 (by8 X) 24] w4 := H6
  refine GL.sem (j := 1) (r5) [1] [(1, pt p3 0)] (by kernel_rfl) (by kernel_rfl) rfl ?_
  refine GL.run (j := 2) 1 [1] [(1, pt p3 0)] (by kernel_rfl) rfl ?_
  refine GL.k rfl hK2 (fun _ _ h => h) ?_
  refine G.seqK fun K7 hK8 => ?_
  refine G.region ?_
  refine GL.run (j := 1) 1 [1, 3] [(1, pt p3 0), (3, .string ⟨#[]⟩)] (by kernel_rfl) rfl ?_
  refine GL.k rfl hK8 (fun _ _ h => h) ?_
  refine G.seqK fun K9 hK10 => ?_
  refine G.seqK fun K11 hK12 => ?_
  refine G.region ?_
  refine GL.run (j := 1) 1 [1, 3, 4] [(1, pt p3 0), (3, .string ⟨#[]⟩), (4, .int .i64 31)] (by kernel_rfl) rfl ?_
  refine GL.k rfl hK12 (fun _ _ h => h) ?_
  refine G.block ?_
  refine G.fit [1, 3, 4] (M' := [(1, pt p3 0), (3, .string ⟨#[]⟩), (4, .int .i64 31)]) (by kernel_rfl) ?_
  refine G.eq (M' := [(1, pt p3 0), (3, .string (strOf (hexP X 0))), (4, .int .i64 (31 - ((0 : Nat) : Int)))]) (by rfl) ?_
  refine G.loop (X := Nat) (fun k => [(1, pt p3 0), (3, .string (strOf (hexP X k))), (4, .int .i64 (31 - (k : Int)))]) (fun k w_ => (k ≤ 32) ∧ Hp w [] [.blk p3 (by8 X) 24] w_) (fun k => 32 - k) 0 [1, 3, 4] (by kernel_rfl) ⟨by omega, H6⟩ ?_
  rintro k w13 ⟨hi14, H15⟩
  refine G.eq (M' := [(1, pt p3 0), (3, .string (strOf (hexP X k))), (4, .int .i64 (31 - (k : Int)))]) rfl ?_
  have H15 : Hp w [] [.blk p3 (by8 X) 24] w13 := H15
  have hk32 := hi14
  refine G.seqK fun K16 hK17 => ?_
  refine G.seqK fun K18 hK19 => ?_
  refine G.region ?_
  refine GL.run (j := 2) 2 [1, 3, 4, 6] [(1, pt p3 0), (3, .string (strOf (hexP X k))), (4, .int .i64 (31 - (k : Int))), (6, .bool (decide (0 ≤ (31 - (k : Int)))))] (by kernel_rfl) rfl ?_
  refine GL.k rfl hK19 (fun _ _ h => h) ?_
  cases hb20 : (decide (0 ≤ (31 - (k : Int))))
  · skip
    have hb20f := of_decide_eq_false hb20
    refine G.no rfl ?_
    refine G.exitK hK10 (fun _ _ h => h) ?_
    refine G.seqK fun K21 hK22 => ?_
    refine G.region ?_
    refine GL.run (j := 2) 2 [2] [(2, .string (strOf (hexP X k)))] (by kernel_rfl) rfl ?_
    refine GL.k rfl hK22 (fun _ _ h => h) ?_
    refine G.ret ?_
    intro F_ hF_ hM_
    refine hRet _ _ (bodyPost_1 rfl (RV.tmp rfl) ?_ F_ hF_ hM_)
    rw [show k = 32 by omega]
    exact ⟨rfl, H15.sub (List.nil_sublist _)⟩
  · skip
    have hb20f := of_decide_eq_true hb20
    have ei : (31 - (k : Int)) = ((31 - k : Nat) : Int) := by omega
    refine G.eq (M' := [(1, pt p3 0), (3, .string (strOf (hexP X k))), (4, .int .i64 (((31 - k) : Nat) : Int)), (6, .bool true)]) (by rw [ei]) ?_
    have hxb := UInt8.toNat_lt (X.getD (31 - k) 0)
    have hlp := hexP_length X k
    refine G.yes rfl ?_
    refine G.skipK hK17 (fun _ _ h => h) ?_
    refine G.seqK fun K23 hK24 => ?_
    refine G.block ?_
    refine G.draw H15 (by kernel_rfl) (by kernel_rfl) ?_
    refine GQ.run (j := 2) 2 [1, 4, 9, 10] [(1, pt p3 0), (4, .int .i64 (((31 - k) : Nat) : Int)), (9, .string (strOf (hexP X k))), (10, .int .i64 (((31 - k) : Nat) : Int))] (by kernel_rfl) rfl ?_
    refine GQ.sem (j := 3) (fun w_ H_ => run_idxArr (P := Try.prog) (k := .i64) (t := 24) (len := 32) (sz := 1) (b := p3) (o := 0) (j := (31 - k)) (by kernel_rfl) rfl (by omega)) [1, 4, 9, 11] [(1, pt p3 0), (4, .int .i64 (((31 - k) : Nat) : Int)), (9, .string (strOf (hexP X k))), (11, pt p3 (0 + (31 - k) * 1))] (by kernel_rfl) (by kernel_rfl) rfl ?_
    refine GQ.sem (j := 4) (fun w_ H_ => H_.ld (o := (0 + (31 - k) * 1)) (ty := 5) (v := .int .u8 (((X.getD (31 - k) 0)).toNat : Int)) 0 rfl (by kernel_rfl) (by rw [show (0 + (31 - k) * 1) = (31 - k) by omega]; exact by8_at (getD8 (by rw [hX]; omega)))) [1, 4, 9, 12] [(1, pt p3 0), (4, .int .i64 (((31 - k) : Nat) : Int)), (9, .string (strOf (hexP X k))), (12, .int .u8 (((X.getD (31 - k) 0)).toNat : Int))] (by kernel_rfl) (by kernel_rfl) rfl ?_
    refine GQ.run (j := 6) 2 [1, 4, 9, 13, 14] [(1, pt p3 0), (4, .int .i64 (((31 - k) : Nat) : Int)), (9, .string (strOf (hexP X k))), (13, .int .u8 (IntKind.u8.wrap (Int.tdiv (((X.getD (31 - k) 0)).toNat : Int) 16))), (14, .int .i64 (((31 - k) : Nat) : Int))] (by kernel_rfl) rfl ?_
    have e25 : (IntKind.u8.wrap (Int.tdiv (((X.getD (31 - k) 0)).toNat : Int) 16)) = (((((X.getD (31 - k) 0)).toNat / 16) : Nat) : Int) := u8_quo16 _
    refine GQ.eq (M' := [(1, pt p3 0), (4, .int .i64 (((31 - k) : Nat) : Int)), (9, .string (strOf (hexP X k))), (13, .int .u8 (((((X.getD (31 - k) 0)).toNat / 16) : Nat) : Int)), (14, .int .i64 (((31 - k) : Nat) : Int))]) (by rw [e25]) ?_
    clear e25
    refine GQ.sem (j := 7) (fun w_ H_ => run_idxArr (P := Try.prog) (k := .i64) (t := 24) (len := 32) (sz := 1) (b := p3) (o := 0) (j := (31 - k)) (by kernel_rfl) rfl (by omega)) [1, 4, 9, 13, 15] [(1, pt p3 0), (4, .int .i64 (((31 - k) : Nat) : Int)), (9, .string (strOf (hexP X k))), (13, .int .u8 (((((X.getD (31 - k) 0)).toNat / 16) : Nat) : Int)), (15, pt p3 (0 + (31 - k) * 1))] (by kernel_rfl) (by kernel_rfl) rfl ?_
    refine GQ.sem (j := 8) (fun w_ H_ => H_.ld (o := (0 + (31 - k) * 1)) (ty := 5) (v := .int .u8 (((X.getD (31 - k) 0)).toNat : Int)) 0 rfl (by kernel_rfl) (by rw [show (0 + (31 - k) * 1) = (31 - k) by omega]; exact by8_at (getD8 (by rw [hX]; omega)))) [1, 4, 9, 13, 16] [(1, pt p3 0), (4, .int .i64 (((31 - k) : Nat) : Int)), (9, .string (strOf (hexP X k))), (13, .int .u8 (((((X.getD (31 - k) 0)).toNat / 16) : Nat) : Int)), (16, .int .u8 (((X.getD (31 - k) 0)).toNat : Int))] (by kernel_rfl) (by kernel_rfl) rfl ?_
    refine GQ.run (j := 10) 2 [1, 4, 9, 13, 18] [(1, pt p3 0), (4, .int .i64 (((31 - k) : Nat) : Int)), (9, .string (strOf (hexP X k))), (13, .int .u8 (((((X.getD (31 - k) 0)).toNat / 16) : Nat) : Int)), (18, .int .u8 (IntKind.u8.wrap ((IntKind.u8.wrap (Int.tdiv (((X.getD (31 - k) 0)).toNat : Int) 16)) + 1)))] (by kernel_rfl) rfl ?_
    have e26 : (IntKind.u8.wrap (Int.tdiv (((X.getD (31 - k) 0)).toNat : Int) 16)) = (((((X.getD (31 - k) 0)).toNat / 16) : Nat) : Int) := u8_quo16 _
    have e27 : (IntKind.u8.wrap ((((((X.getD (31 - k) 0)).toNat / 16) : Nat) : Int) + 1)) = ((((((X.getD (31 - k) 0)).toNat / 16) + 1) : Nat) : Int) := in_u8 (by omega)
    refine GQ.eq (M' := [(1, pt p3 0), (4, .int .i64 (((31 - k) : Nat) : Int)), (9, .string (strOf (hexP X k))), (13, .int .u8 (((((X.getD (31 - k) 0)).toNat / 16) : Nat) : Int)), (18, .int .u8 ((((((X.getD (31 - k) 0)).toNat / 16) + 1) : Nat) : Int))]) (by rw [e26, e27]) ?_
    clear e26 e27
    refine GQ.sem (j := 11) (fun w_ H_ => run_strCut (P := Try.prog) (t := 9) (k1 := .u8) (k2 := .u8) (s := signs) (l := (((X.getD (31 - k) 0)).toNat / 16)) (h := ((((X.getD (31 - k) 0)).toNat / 16) + 1)) (r := [sg (((X.getD (31 - k) 0)).toNat / 16)]) (by kernel_rfl) (by omega) (by show _ ≤ 16; omega) (sg_cut (by omega)) _) [1, 4, 9, 19] [(1, pt p3 0), (4, .int .i64 (((31 - k) : Nat) : Int)), (9, .string (strOf (hexP X k))), (19, .string (strOf ([(sg (((X.getD (31 - k) 0)).toNat / 16))] : List UInt8)))] (by kernel_rfl) (by kernel_rfl) rfl ?_
    refine GQ.sem (j := 12) (fun w_ H_ => run_str_add (P := Try.prog) (t := 9) (hexP X k) ([(sg (((X.getD (31 - k) 0)).toNat / 16))] : List UInt8) (by first | omega | (simp only [List.length_append, List.length_cons, List.length_nil] <;> omega)) _) [1, 4, 20] [(1, pt p3 0), (4, .int .i64 (((31 - k) : Nat) : Int)), (20, .string (strOf ((hexP X k) ++ ([(sg (((X.getD (31 - k) 0)).toNat / 16))] : List UInt8))))] (by kernel_rfl) (by kernel_rfl) rfl ?_
    refine GQ.run (j := 13) 1 [1, 4, 20, 21] [(1, pt p3 0), (4, .int .i64 (((31 - k) : Nat) : Int)), (20, .string (strOf ((hexP X k) ++ ([(sg (((X.getD (31 - k) 0)).toNat / 16))] : List UInt8)))), (21, .int .i64 (((31 - k) : Nat) : Int))] (by kernel_rfl) rfl ?_
    refine GQ.sem (j := 14) (fun w_ H_ => run_idxArr (P := Try.prog) (k := .i64) (t := 24) (len := 32) (sz := 1) (b := p3) (o := 0) (j := (31 - k)) (by kernel_rfl) rfl (by omega)) [1, 4, 20, 22] [(1, pt p3 0), (4, .int .i64 (((31 - k) : Nat) : Int)), (20, .string (strOf ((hexP X k) ++ ([(sg (((X.getD (31 - k) 0)).toNat / 16))] : List UInt8)))), (22, pt p3 (0 + (31 - k) * 1))] (by kernel_rfl) (by kernel_rfl) rfl ?_
    refine GQ.sem (j := 15) (fun w_ H_ => H_.ld (o := (0 + (31 - k) * 1)) (ty := 5) (v := .int .u8 (((X.getD (31 - k) 0)).toNat : Int)) 0 rfl (by kernel_rfl) (by rw [show (0 + (31 - k) * 1) = (31 - k) by omega]; exact by8_at (getD8 (by rw [hX]; omega)))) [1, 4, 20, 23] [(1, pt p3 0), (4, .int .i64 (((31 - k) : Nat) : Int)), (20, .string (strOf ((hexP X k) ++ ([(sg (((X.getD (31 - k) 0)).toNat / 16))] : List UInt8)))), (23, .int .u8 (((X.getD (31 - k) 0)).toNat : Int))] (by kernel_rfl) (by kernel_rfl) rfl ?_
    refine GQ.run (j := 17) 2 [1, 4, 20, 24, 25] [(1, pt p3 0), (4, .int .i64 (((31 - k) : Nat) : Int)), (20, .string (strOf ((hexP X k) ++ ([(sg (((X.getD (31 - k) 0)).toNat / 16))] : List UInt8)))), (24, .int .u8 (Int.tmod (((X.getD (31 - k) 0)).toNat : Int) 16)), (25, .int .i64 (((31 - k) : Nat) : Int))] (by kernel_rfl) rfl ?_
    have e28 : (Int.tmod (((X.getD (31 - k) 0)).toNat : Int) 16) = (((((X.getD (31 - k) 0)).toNat % 16) : Nat) : Int) := n_rem _ 16
    refine GQ.eq (M' := [(1, pt p3 0), (4, .int .i64 (((31 - k) : Nat) : Int)), (20, .string (strOf ((hexP X k) ++ ([(sg (((X.getD (31 - k) 0)).toNat / 16))] : List UInt8)))), (24, .int .u8 (((((X.getD (31 - k) 0)).toNat % 16) : Nat) : Int)), (25, .int .i64 (((31 - k) : Nat) : Int))]) (by rw [e28]) ?_
    clear e28
    refine GQ.sem (j := 18) (fun w_ H_ => run_idxArr (P := Try.prog) (k := .i64) (t := 24) (len := 32) (sz := 1) (b := p3) (o := 0) (j := (31 - k)) (by kernel_rfl) rfl (by omega)) [1, 4, 20, 24, 26] [(1, pt p3 0), (4, .int .i64 (((31 - k) : Nat) : Int)), (20, .string (strOf ((hexP X k) ++ ([(sg (((X.getD (31 - k) 0)).toNat / 16))] : List UInt8)))), (24, .int .u8 (((((X.getD (31 - k) 0)).toNat % 16) : Nat) : Int)), (26, pt p3 (0 + (31 - k) * 1))] (by kernel_rfl) (by kernel_rfl) rfl ?_
    refine GQ.sem (j := 19) (fun w_ H_ => H_.ld (o := (0 + (31 - k) * 1)) (ty := 5) (v := .int .u8 (((X.getD (31 - k) 0)).toNat : Int)) 0 rfl (by kernel_rfl) (by rw [show (0 + (31 - k) * 1) = (31 - k) by omega]; exact by8_at (getD8 (by rw [hX]; omega)))) [1, 4, 20, 24, 27] [(1, pt p3 0), (4, .int .i64 (((31 - k) : Nat) : Int)), (20, .string (strOf ((hexP X k) ++ ([(sg (((X.getD (31 - k) 0)).toNat / 16))] : List UInt8)))), (24, .int .u8 (((((X.getD (31 - k) 0)).toNat % 16) : Nat) : Int)), (27, .int .u8 (((X.getD (31 - k) 0)).toNat : Int))] (by kernel_rfl) (by kernel_rfl) rfl ?_
    refine GQ.run (j := 21) 2 [1, 4, 20, 24, 29] [(1, pt p3 0), (4, .int .i64 (((31 - k) : Nat) : Int)), (20, .string (strOf ((hexP X k) ++ ([(sg (((X.getD (31 - k) 0)).toNat / 16))] : List UInt8)))), (24, .int .u8 (((((X.getD (31 - k) 0)).toNat % 16) : Nat) : Int)), (29, .int .u8 (IntKind.u8.wrap ((Int.tmod (((X.getD (31 - k) 0)).toNat : Int) 16) + 1)))] (by kernel_rfl) rfl ?_
    have e29 : (Int.tmod (((X.getD (31 - k) 0)).toNat : Int) 16) = (((((X.getD (31 - k) 0)).toNat % 16) : Nat) : Int) := n_rem _ 16
    have e30 : (IntKind.u8.wrap ((((((X.getD (31 - k) 0)).toNat % 16) : Nat) : Int) + 1)) = ((((((X.getD (31 - k) 0)).toNat % 16) + 1) : Nat) : Int) := in_u8 (by omega)
    refine GQ.eq (M' := [(1, pt p3 0), (4, .int .i64 (((31 - k) : Nat) : Int)), (20, .string (strOf ((hexP X k) ++ ([(sg (((X.getD (31 - k) 0)).toNat / 16))] : List UInt8)))), (24, .int .u8 (((((X.getD (31 - k) 0)).toNat % 16) : Nat) : Int)), (29, .int .u8 ((((((X.getD (31 - k) 0)).toNat % 16) + 1) : Nat) : Int))]) (by rw [e29, e30]) ?_
    clear e29 e30
    refine GQ.sem (j := 22) (fun w_ H_ => run_strCut (P := Try.prog) (t := 9) (k1 := .u8) (k2 := .u8) (s := signs) (l := (((X.getD (31 - k) 0)).toNat % 16)) (h := ((((X.getD (31 - k) 0)).toNat % 16) + 1)) (r := [sg (((X.getD (31 - k) 0)).toNat % 16)]) (by kernel_rfl) (by omega) (by show _ ≤ 16; omega) (sg_cut (by omega)) _) [1, 4, 20, 30] [(1, pt p3 0), (4, .int .i64 (((31 - k) : Nat) : Int)), (20, .string (strOf ((hexP X k) ++ ([(sg (((X.getD (31 - k) 0)).toNat / 16))] : List UInt8)))), (30, .string (strOf ([(sg (((X.getD (31 - k) 0)).toNat % 16))] : List UInt8)))] (by kernel_rfl) (by kernel_rfl) rfl ?_
    refine GQ.sem (j := 23) (fun w_ H_ => run_str_add (P := Try.prog) (t := 9) ((hexP X k) ++ ([(sg (((X.getD (31 - k) 0)).toNat / 16))] : List UInt8)) ([(sg (((X.getD (31 - k) 0)).toNat % 16))] : List UInt8) (by first | omega | (simp only [List.length_append, List.length_cons, List.length_nil] <;> omega)) _) [1, 4, 31] [(1, pt p3 0), (4, .int .i64 (((31 - k) : Nat) : Int)), (31, .string (strOf (((hexP X k) ++ ([(sg (((X.getD (31 - k) 0)).toNat / 16))] : List UInt8)) ++ ([(sg (((X.getD (31 - k) 0)).toNat % 16))] : List UInt8))))] (by kernel_rfl) (by kernel_rfl) rfl ?_
    refine GQ.run (j := 24) 1 [1, 3, 4] [(1, pt p3 0), (3, .string (strOf (((hexP X k) ++ ([(sg (((X.getD (31 - k) 0)).toNat / 16))] : List UInt8)) ++ ([(sg (((X.getD (31 - k) 0)).toNat % 16))] : List UInt8)))), (4, .int .i64 (((31 - k) : Nat) : Int))] (by kernel_rfl) rfl ?_
    refine GQ.k rfl hK24 (fun _ _ h => h) (fun w31 H32 => ?_)
    refine G.region ?_
    refine GL.run (j := 3) 3 [1, 3, 4] [(1, pt p3 0), (3, .string (strOf (((hexP X k) ++ ([(sg (((X.getD (31 - k) 0)).toNat / 16))] : List UInt8)) ++ ([(sg (((X.getD (31 - k) 0)).toNat % 16))] : List UInt8)))), (4, .int .i64 (IntKind.i64.wrap ((((31 - k) : Nat) : Int) - 1)))] (by kernel_rfl) rfl ?_
    have e33 : (IntKind.i64.wrap ((((31 - k) : Nat) : Int) - 1)) = (30 - (k : Int)) := by rw [in_i64 (by omega)]; omega
    refine GL.eq (M' := [(1, pt p3 0), (3, .string (strOf (((hexP X k) ++ ([(sg (((X.getD (31 - k) 0)).toNat / 16))] : List UInt8)) ++ ([(sg (((X.getD (31 - k) 0)).toNat % 16))] : List UInt8)))), (4, .int .i64 (30 - (k : Int)))]) (by rw [e33]) ?_
    clear e33
    refine GL.fit (ts := [1, 3, 4]) (M' := [(1, pt p3 0), (3, .string (strOf (((hexP X k) ++ ([(sg (((X.getD (31 - k) 0)).toNat / 16))] : List UInt8)) ++ ([(sg (((X.getD (31 - k) 0)).toNat % 16))] : List UInt8)))), (4, .int .i64 (30 - (k : Int)))]) (by kernel_rfl) ?_
    refine GL.eq (M' := [(1, pt p3 0), (3, .string (strOf (hexP X (k + 1)))), (4, .int .i64 (31 - (((k + 1) : Nat) : Int)))]) (by rw [show (30 - (k : Int)) = 31 - ((k + 1 : Nat) : Int) by omega, hexP]; simp only [List.append_assoc, List.cons_append, List.nil_append]) ?_
    exact GL.again (k + 1) [1, 3, 4] rfl (by kernel_rfl) (by show 32 - (k + 1) < 32 - k; omega) ⟨by omega, H32⟩
theorem RefParse_calls (s : List UInt8) (w : World) (hs : s.length ≤ maxLen) : Calls Try.prog 12 #[.string (strOf s)] w fun e w' => e = .returned (.tuple #[.agg (by8 (parT s)).toArray, .bool (okT s)]) ∧ Hp w [] [] w' := by
  have hsm : s.length ≤ 9223372036854775807 := Nat.le_trans hs (by decide)
  have hsz := strOf_size s
  refine calls_G (args := [.string (strOf s)]) Try.func12 rfl Try.ntmps12 rfl ?_
  intro Q0 hRet hNor hPan
  have H := Hp.start w
  have H : Hp w [] [] w := H
  refine G.seqK fun K1 hK2 => ?_
  refine G.region ?_
  obtain ⟨p3, w4, r5, H6⟩ := H.alloc (P := Try.prog) 24 (by8 (List.replicate 32 0)) (by kernel_rfl)
  have H6 : Hp w [] [.blk p3 (by8 (List.replicate 32 0)) 24] w4 := H6
  refine GL.sem (j := 1) (r5) [0, 2] [(0, .string (strOf s)), (2, pt p3 0)] (by kernel_rfl) (by kernel_rfl) rfl ?_
  refine GL.run (j := 2) 1 [0, 2] [(0, .string (strOf s)), (2, pt p3 0)] (by kernel_rfl) rfl ?_
  refine GL.k rfl hK2 (fun _ _ h => h) ?_
  refine G.seqK fun K7 hK8 => ?_
  refine G.region ?_
  refine GL.run (j := 1) 1 [0, 2, 7] [(0, .string (strOf s)), (2, pt p3 0), (7, .agg (by8 (List.replicate 32 0)).toArray)] (by kernel_rfl) rfl ?_
  obtain ⟨p9, w10, r11, H12⟩ := H6.alloc (P := Try.prog) 24 (by8 (List.replicate 32 0)) (by kernel_rfl)
  have H12 : Hp w [] [.blk p3 (by8 (List.replicate 32 0)) 24, .blk p9 (by8 (List.replicate 32 0)) 24] w10 := H12
  refine GL.sem (j := 2) (r11) [0, 2, 4, 7] [(0, .string (strOf s)), (2, pt p3 0), (4, pt p9 0), (7, .agg (by8 (List.replicate 32 0)).toArray)] (by kernel_rfl) (by kernel_rfl) rfl ?_
  obtain ⟨w13, r14, H15⟩ := H12.stA (P := Try.prog) (o := 0) (vs := by8 (List.replicate 32 0)) (ty := 24) (m := 32) 1 rfl (by kernel_rfl) (by rw [by8_length, List.length_replicate]) (Nat.le_of_eq (by rw [Nat.zero_add]; exact ((show (by8 (List.replicate 32 0)).length = 32 from by rw [by8_length]; rfl)).symm)) (by8_one _)
  rw [st_whole (by rw [by8_length]; rfl)] at H15
  have H15 : Hp w [] [.blk p3 (by8 (List.replicate 32 0)) 24, .blk p9 (by8 (List.replicate 32 0)) 24] w13 := H15
  refine GL.semU (j := 3) r14 [0, 2, 4] [(0, .string (strOf s)), (2, pt p3 0), (4, pt p9 0)] (by kernel_rfl) rfl rfl rfl ?_
  refine GL.k rfl hK8 (fun _ _ h => h) ?_
  refine G.seqK fun K16 hK17 => ?_
  refine G.seqK fun K18 hK19 => ?_
  refine G.region ?_
  refine GL.run (j := 3) 3 [0, 2, 4, 10] [(0, .string (strOf s)), (2, pt p3 0), (4, pt p9 0), (10, .bool (((strOf s).size : Int) != 64))] (by kernel_rfl) rfl ?_
  refine GL.k rfl hK19 (fun _ _ h => h) ?_
  cases hb20 : (((strOf s).size : Int) != 64)
  · skip
    have hb20f : ((strOf s).size : Int) = 64 := bne_eq_false_iff_eq.1 hb20
    refine G.no rfl ?_
    refine G.skipK hK17 (fun _ _ h => h) ?_
    refine G.seqK fun K21 hK22 => ?_
    refine G.seqK fun K23 hK24 => ?_
    refine G.region ?_
    refine GL.run (j := 1) 1 [0, 2, 4, 5] [(0, .string (strOf s)), (2, pt p3 0), (4, pt p9 0), (5, .int .i64 0)] (by kernel_rfl) rfl ?_
    refine GL.k rfl hK24 (fun _ _ h => h) ?_
    refine G.block ?_
    have hs64 : s.length = 64 := by omega
    refine G.fit [0, 2, 4, 5] (M' := [(0, .string (strOf s)), (2, pt p3 0), (4, pt p9 0), (5, .int .i64 0)]) (by kernel_rfl) ?_
    refine G.loop (X := Nat) (fun k => [(0, .string (strOf s)), (2, pt p3 0), (4, pt p9 0), (5, .int .i64 (k : Int))]) (fun k w_ => (k ≤ 64 ∧ (s.take k).all hexOK = true) ∧ Hp w [] [.blk p3 (by8 (List.replicate 32 0)) 24, .blk p9 (by8 (rX s k)) 24] w_) (fun k => 64 - k) 0 [0, 2, 4, 5] (by kernel_rfl) ⟨⟨by omega, by rw [List.take_zero]; rfl⟩, H15⟩ ?_
    rintro k w25 ⟨hi26, H27⟩
    refine G.eq (M' := [(0, .string (strOf s)), (2, pt p3 0), (4, pt p9 0), (5, .int .i64 (k : Int))]) rfl ?_
    have H27 : Hp w [] [.blk p3 (by8 (List.replicate 32 0)) 24, .blk p9 (by8 (rX s k)) 24] w25 := H27
    obtain ⟨hk64, hal⟩ := hi26
    refine G.seqK fun K28 hK29 => ?_
    refine G.seqK fun K30 hK31 => ?_
    refine G.region ?_
    refine GL.run (j := 2) 2 [0, 2, 4, 5, 13] [(0, .string (strOf s)), (2, pt p3 0), (4, pt p9 0), (5, .int .i64 (k : Int)), (13, .bool (decide ((k : Int) < 64)))] (by kernel_rfl) rfl ?_
    refine GL.k rfl hK31 (fun _ _ h => h) ?_
    cases hb32 : (decide ((k : Int) < 64))
    · skip
      have hb32f := of_decide_eq_false hb32
      refine G.no rfl ?_
      refine G.exitK hK22 (fun _ _ h => h) ?_
      refine G.seqK fun K33 hK34 => ?_
      refine G.region ?_
      refine GL.sem (j := 1) (H27.ldA (o := 0) (ty := 24) (m := 32) (sub := by8 (rX s k)) 1 rfl (by kernel_rfl) (sub_whole (by rw [by8_length, rX_length])) (by rw [by8_length, rX_length])) [2, 57] [(2, pt p3 0), (57, .agg (by8 (rX s k)).toArray)] (by kernel_rfl) (by kernel_rfl) rfl ?_
      obtain ⟨w35, r36, H37⟩ := H27.stA (P := Try.prog) (o := 0) (vs := by8 (rX s k)) (ty := 24) (m := 32) 0 rfl (by kernel_rfl) (by rw [by8_length, rX_length]) (Nat.le_of_eq (by rw [Nat.zero_add]; exact ((show (by8 (List.replicate 32 0)).length = 32 from by rw [by8_length]; rfl)).symm)) (by8_one _)
      rw [st_whole (by rw [by8_length]; rfl)] at H37
      have H37 : Hp w [] [.blk p3 (by8 (rX s k)) 24, .blk p9 (by8 (rX s k)) 24] w35 := H37
      refine GL.semU (j := 2) r36 [2] [(2, pt p3 0)] (by kernel_rfl) rfl rfl rfl ?_
      refine GL.run (j := 3) 1 [2, 3] [(2, pt p3 0), (3, .bool true)] (by kernel_rfl) rfl ?_
      refine GL.k rfl hK34 (fun _ _ h => h) ?_
      refine G.ret ?_
      intro F_ hF_ hM_
      refine hRet _ _ (bodyPost_2 rfl (RV.cell rfl (H37.ldA (o := 0) (ty := 24) (m := 32) (sub := by8 (rX s k)) 0 rfl (by kernel_rfl) (sub_whole (by rw [by8_length, rX_length])) (by rw [by8_length, rX_length]))) (RV.tmp rfl) ?_ F_ hF_ hM_)
      rw [show k = 64 by omega] at hal
      obtain ⟨e0, e1, e2⟩ := par_yes hs64 (by rw [List.take_of_length_le (by omega)] at hal; exact hal)
      rw [e0, e1, ← rX_all, show 64 = k by omega]
      exact ⟨rfl, H37.sub (List.nil_sublist _)⟩
    · skip
      have hb32f := of_decide_eq_true hb32
      refine G.yes rfl ?_
      refine G.skipK hK29 (fun _ _ h => h) ?_
      refine G.seqK fun K38 hK39 => ?_
      refine G.block ?_
      refine G.seqK fun K40 hK41 => ?_
      refine G.region ?_
      refine GL.run (j := 1) 1 [0, 2, 4, 5] [(0, .string (strOf s)), (2, pt p3 0), (4, pt p9 0), (5, .int .i64 (k : Int))] (by kernel_rfl) rfl ?_
      refine GL.k rfl hK41 (fun _ _ h => h) ?_
      refine G.seqK fun K42 hK43 => ?_
      refine G.seqK fun K44 hK45 => ?_
      refine G.region ?_
      refine GL.run (j := 2) 2 [0, 2, 4, 5, 16, 17] [(0, .string (strOf s)), (2, pt p3 0), (4, pt p9 0), (5, .int .i64 (k : Int)), (16, .string (strOf s)), (17, .int .i64 (k : Int))] (by kernel_rfl) rfl ?_
      refine GL.sem (j := 3) (run_strIdx (P := Try.prog) (k := .i64) (t := 9) (s := s) (i := k) (by kernel_rfl) (getD8 (by omega)) _) [0, 2, 4, 5, 18] [(0, .string (strOf s)), (2, pt p3 0), (4, pt p9 0), (5, .int .i64 (k : Int)), (18, .int .u8 (((s.getD k 0)).toNat : Int))] (by kernel_rfl) (by kernel_rfl) rfl ?_
      refine GL.run (j := 5) 2 [0, 2, 4, 5, 20] [(0, .string (strOf s)), (2, pt p3 0), (4, pt p9 0), (5, .int .i64 (k : Int)), (20, .bool (decide (48 ≤ (((s.getD k 0)).toNat : Int))))] (by kernel_rfl) rfl ?_
      cases hb46 : (decide (48 ≤ (((s.getD k 0)).toNat : Int)))
      · skip
        have hb46f := of_decide_eq_false hb46
        refine GL.run (j := 10) 5 [0, 2, 4, 5, 25] [(0, .string (strOf s)), (2, pt p3 0), (4, pt p9 0), (5, .int .i64 (k : Int)), (25, .bool false)] (by kernel_rfl) rfl ?_
        refine GL.k rfl hK45 (fun _ _ h => h) ?_
        refine G.no rfl ?_
        refine G.seqK fun K47 hK48 => ?_
        refine G.region ?_
        refine GL.run (j := 2) 2 [0, 2, 4, 5, 30, 31] [(0, .string (strOf s)), (2, pt p3 0), (4, pt p9 0), (5, .int .i64 (k : Int)), (30, .string (strOf s)), (31, .int .i64 (k : Int))] (by kernel_rfl) rfl ?_
        refine GL.sem (j := 3) (run_strIdx (P := Try.prog) (k := .i64) (t := 9) (s := s) (i := k) (by kernel_rfl) (getD8 (by omega)) _) [0, 2, 4, 5, 32] [(0, .string (strOf s)), (2, pt p3 0), (4, pt p9 0), (5, .int .i64 (k : Int)), (32, .int .u8 (((s.getD k 0)).toNat : Int))] (by kernel_rfl) (by kernel_rfl) rfl ?_
        refine GL.run (j := 5) 2 [0, 2, 4, 5, 34] [(0, .string (strOf s)), (2, pt p3 0), (4, pt p9 0), (5, .int .i64 (k : Int)), (34, .bool (decide (97 ≤ (((s.getD k 0)).toNat : Int))))] (by kernel_rfl) rfl ?_
        cases hb49 : (decide (97 ≤ (((s.getD k 0)).toNat : Int)))
        · skip
          have hb49f := of_decide_eq_false hb49
          have hno := okT_no (s := s) (.inr ⟨k, by omega, Bool.eq_false_iff.2 (by unfold hexOK; simp only [ne_eq, Bool.or_eq_true, Bool.and_eq_true, decide_eq_true_eq]; omega)⟩)
          refine GL.run (j := 10) 5 [0, 2, 4, 5, 39] [(0, .string (strOf s)), (2, pt p3 0), (4, pt p9 0), (5, .int .i64 (k : Int)), (39, .bool false)] (by kernel_rfl) rfl ?_
          refine GL.k rfl hK48 (fun _ _ h => h) ?_
          refine G.no rfl ?_
          refine G.seqK fun K50 hK51 => ?_
          refine G.region ?_
          refine GL.run (j := 1) 1 [2, 44] [(2, pt p3 0), (44, .agg (by8 (List.replicate 32 0)).toArray)] (by kernel_rfl) rfl ?_
          obtain ⟨w52, r53, H54⟩ := H27.stA (P := Try.prog) (o := 0) (vs := by8 (List.replicate 32 0)) (ty := 24) (m := 32) 0 rfl (by kernel_rfl) (by rw [by8_length, List.length_replicate]) (Nat.le_of_eq (by rw [Nat.zero_add]; exact ((show (by8 (List.replicate 32 0)).length = 32 from by rw [by8_length]; rfl)).symm)) (by8_one _)
          rw [st_whole (by rw [by8_length]; rfl)] at H54
          have H54 : Hp w [] [.blk p3 (by8 (List.replicate 32 0)) 24, .blk p9 (by8 (rX s k)) 24] w52 := H54
          refine GL.semU (j := 2) r53 [2] [(2, pt p3 0)] (by kernel_rfl) rfl rfl rfl ?_
          refine GL.run (j := 3) 1 [2, 3] [(2, pt p3 0), (3, .bool false)] (by kernel_rfl) rfl ?_
          refine GL.k rfl hK51 (fun _ _ h => h) ?_
          refine G.ret ?_
          intro F_ hF_ hM_
          refine hRet _ _ (bodyPost_2 rfl (RV.cell rfl (H54.ldA (o := 0) (ty := 24) (m := 32) (sub := by8 (List.replicate 32 0)) 0 rfl (by kernel_rfl) (sub_whole (by rw [by8_length, List.length_replicate])) (by rw [by8_length, List.length_replicate]))) (RV.tmp rfl) ?_ F_ hF_ hM_)
          obtain ⟨e1, e2⟩ := par_no hno
          rw [e1, hno]
          exact ⟨rfl, H54.sub (List.nil_sublist _)⟩
        · skip
          have hb49f := of_decide_eq_true hb49
          refine GL.run (j := 7) 2 [0, 2, 4, 5, 34, 35, 36] [(0, .string (strOf s)), (2, pt p3 0), (4, pt p9 0), (5, .int .i64 (k : Int)), (34, .bool true), (35, .string (strOf s)), (36, .int .i64 (k : Int))] (by kernel_rfl) rfl ?_
          refine GL.sem (j := 8) (run_strIdx (P := Try.prog) (k := .i64) (t := 9) (s := s) (i := k) (by kernel_rfl) (getD8 (by omega)) _) [0, 2, 4, 5, 34, 37] [(0, .string (strOf s)), (2, pt p3 0), (4, pt p9 0), (5, .int .i64 (k : Int)), (34, .bool true), (37, .int .u8 (((s.getD k 0)).toNat : Int))] (by kernel_rfl) (by kernel_rfl) rfl ?_
          refine GL.run (j := 10) 2 [0, 2, 4, 5, 39] [(0, .string (strOf s)), (2, pt p3 0), (4, pt p9 0), (5, .int .i64 (k : Int)), (39, .bool (decide ((((s.getD k 0)).toNat : Int) ≤ 102)))] (by kernel_rfl) rfl ?_
          refine GL.k rfl hK48 (fun _ _ h => h) ?_
          cases hb55 : (decide ((((s.getD k 0)).toNat : Int) ≤ 102))
          · skip
            have hb55f := of_decide_eq_false hb55
            have hno := okT_no (s := s) (.inr ⟨k, by omega, Bool.eq_false_iff.2 (by unfold hexOK; simp only [ne_eq, Bool.or_eq_true, Bool.and_eq_true, decide_eq_true_eq]; omega)⟩)
            refine G.no rfl ?_
            refine G.seqK fun K56 hK57 => ?_
            refine G.region ?_
            refine GL.run (j := 1) 1 [2, 44] [(2, pt p3 0), (44, .agg (by8 (List.replicate 32 0)).toArray)] (by kernel_rfl) rfl ?_
            obtain ⟨w58, r59, H60⟩ := H27.stA (P := Try.prog) (o := 0) (vs := by8 (List.replicate 32 0)) (ty := 24) (m := 32) 0 rfl (by kernel_rfl) (by rw [by8_length, List.length_replicate]) (Nat.le_of_eq (by rw [Nat.zero_add]; exact ((show (by8 (List.replicate 32 0)).length = 32 from by rw [by8_length]; rfl)).symm)) (by8_one _)
            rw [st_whole (by rw [by8_length]; rfl)] at H60
            have H60 : Hp w [] [.blk p3 (by8 (List.replicate 32 0)) 24, .blk p9 (by8 (rX s k)) 24] w58 := H60
            refine GL.semU (j := 2) r59 [2] [(2, pt p3 0)] (by kernel_rfl) rfl rfl rfl ?_
            refine GL.run (j := 3) 1 [2, 3] [(2, pt p3 0), (3, .bool false)] (by kernel_rfl) rfl ?_
            refine GL.k rfl hK57 (fun _ _ h => h) ?_
            refine G.ret ?_
            intro F_ hF_ hM_
            refine hRet _ _ (bodyPost_2 rfl (RV.cell rfl (H60.ldA (o := 0) (ty := 24) (m := 32) (sub := by8 (List.replicate 32 0)) 0 rfl (by kernel_rfl) (sub_whole (by rw [by8_length, List.length_replicate])) (by rw [by8_length, List.length_replicate]))) (RV.tmp rfl) ?_ F_ hF_ hM_)
            obtain ⟨e1, e2⟩ := par_no hno
            rw [e1, hno]
            exact ⟨rfl, H60.sub (List.nil_sublist _)⟩
          · skip
            have hb55f := of_decide_eq_true hb55
            have hok : hexOK (s.getD k 0) = true := by unfold hexOK; simp only [Bool.or_eq_true, Bool.and_eq_true, decide_eq_true_eq]; omega
            have hdg : hexD (s.getD k 0) = (s.getD k 0).toNat - 87 := by unfold hexD; split <;> omega
            have hdl := hexD_lt hok
            rw [hdg] at hdl
            refine G.yes rfl ?_
            refine G.region ?_
            refine GL.run (j := 2) 2 [0, 2, 4, 5, 40, 41] [(0, .string (strOf s)), (2, pt p3 0), (4, pt p9 0), (5, .int .i64 (k : Int)), (40, .string (strOf s)), (41, .int .i64 (k : Int))] (by kernel_rfl) rfl ?_
            refine GL.sem (j := 3) (run_strIdx (P := Try.prog) (k := .i64) (t := 9) (s := s) (i := k) (by kernel_rfl) (getD8 (by omega)) _) [0, 2, 4, 5, 42] [(0, .string (strOf s)), (2, pt p3 0), (4, pt p9 0), (5, .int .i64 (k : Int)), (42, .int .u8 (((s.getD k 0)).toNat : Int))] (by kernel_rfl) (by kernel_rfl) rfl ?_
            refine GL.run (j := 5) 2 [0, 2, 4, 5, 6] [(0, .string (strOf s)), (2, pt p3 0), (4, pt p9 0), (5, .int .i64 (k : Int)), (6, .int .u8 (IntKind.u8.wrap ((((s.getD k 0)).toNat : Int) - 87)))] (by kernel_rfl) rfl ?_
            have e61 : (IntKind.u8.wrap ((((s.getD k 0)).toNat : Int) - 87)) = (((((s.getD k 0)).toNat - 87) : Nat) : Int) := by rw [in_u8 (by omega)]; omega
            refine GL.eq (M' := [(0, .string (strOf s)), (2, pt p3 0), (4, pt p9 0), (5, .int .i64 (k : Int)), (6, .int .u8 (((((s.getD k 0)).toNat - 87) : Nat) : Int))]) (by rw [e61]) ?_
            clear e61
            refine GL.k rfl hK43 (fun _ _ h => h) ?_
            refine G.region ?_
            refine GL.run (j := 6) 6 [0, 2, 4, 5, 6, 47, 50] [(0, .string (strOf s)), (2, pt p3 0), (4, pt p9 0), (5, .int .i64 (k : Int)), (6, .int .u8 (((((s.getD k 0)).toNat - 87) : Nat) : Int)), (47, .int .i64 (IntKind.i64.wrap (31 - (IntKind.i64.wrap (Int.tdiv (k : Int) 2))))), (50, .int .i64 (IntKind.i64.wrap (31 - (IntKind.i64.wrap (Int.tdiv (k : Int) 2)))))] (by kernel_rfl) rfl ?_
            have e62 : (IntKind.i64.wrap (Int.tdiv (k : Int) 2)) = (((k / 2) : Nat) : Int) := i_quo 2 (by omega)
            have e63 : (IntKind.i64.wrap (31 - (((k / 2) : Nat) : Int))) = (((31 - k / 2) : Nat) : Int) := by rw [in_i64 (by omega)]; omega
            refine GL.eq (M' := [(0, .string (strOf s)), (2, pt p3 0), (4, pt p9 0), (5, .int .i64 (k : Int)), (6, .int .u8 (((((s.getD k 0)).toNat - 87) : Nat) : Int)), (47, .int .i64 (((31 - k / 2) : Nat) : Int)), (50, .int .i64 (((31 - k / 2) : Nat) : Int))]) (by rw [e62, e63]) ?_
            clear e62 e63
            refine GL.sem (j := 7) (run_idxArr (P := Try.prog) (k := .i64) (t := 24) (len := 32) (sz := 1) (b := p9) (o := 0) (j := (31 - k / 2)) (by kernel_rfl) rfl (by omega)) [0, 2, 4, 5, 6, 47, 51] [(0, .string (strOf s)), (2, pt p3 0), (4, pt p9 0), (5, .int .i64 (k : Int)), (6, .int .u8 (((((s.getD k 0)).toNat - 87) : Nat) : Int)), (47, .int .i64 (((31 - k / 2) : Nat) : Int)), (51, pt p9 (0 + (31 - k / 2) * 1))] (by kernel_rfl) (by kernel_rfl) rfl ?_
            refine GL.sem (j := 8) (H27.ld (o := (0 + (31 - k / 2) * 1)) (ty := 5) (v := .int .u8 ((((rX s k).getD (31 - k / 2) 0)).toNat : Int)) 1 rfl (by kernel_rfl) (by rw [show (0 + (31 - k / 2) * 1) = (31 - k / 2) by omega]; exact by8_at (getD8 (by rw [rX_length]; omega)))) [0, 2, 4, 5, 6, 47, 52] [(0, .string (strOf s)), (2, pt p3 0), (4, pt p9 0), (5, .int .i64 (k : Int)), (6, .int .u8 (((((s.getD k 0)).toNat - 87) : Nat) : Int)), (47, .int .i64 (((31 - k / 2) : Nat) : Int)), (52, .int .u8 ((((rX s k).getD (31 - k / 2) 0)).toNat : Int))] (by kernel_rfl) (by kernel_rfl) rfl ?_
            refine GL.run (j := 11) 3 [0, 2, 4, 5, 47, 55] [(0, .string (strOf s)), (2, pt p3 0), (4, pt p9 0), (5, .int .i64 (k : Int)), (47, .int .i64 (((31 - k / 2) : Nat) : Int)), (55, .int .u8 (IntKind.u8.wrap ((IntKind.u8.wrap (((((rX s k).getD (31 - k / 2) 0)).toNat : Int) * 16)) + (((((s.getD k 0)).toNat - 87) : Nat) : Int))))] (by kernel_rfl) rfl ?_
            have e64 : (IntKind.u8.wrap (((((rX s k).getD (31 - k / 2) 0)).toNat : Int) * 16)) = ((((((rX s k).getD (31 - k / 2) 0)).toNat * 16 % 256) : Nat) : Int) := u8_mul16 _
            have e65 : (IntKind.u8.wrap (((((((rX s k).getD (31 - k / 2) 0)).toNat * 16 % 256) : Nat) : Int) + (((((s.getD k 0)).toNat - 87) : Nat) : Int))) = (((nib (((rX s k).getD (31 - k / 2) 0)) (((s.getD k 0)).toNat - 87)).toNat : Nat) : Int) := u8_add16 hdl
            refine GL.eq (M' := [(0, .string (strOf s)), (2, pt p3 0), (4, pt p9 0), (5, .int .i64 (k : Int)), (47, .int .i64 (((31 - k / 2) : Nat) : Int)), (55, .int .u8 (((nib (((rX s k).getD (31 - k / 2) 0)) (((s.getD k 0)).toNat - 87)).toNat : Nat) : Int))]) (by rw [e64, e65]) ?_
            clear e64 e65
            refine GL.sem (j := 12) (run_idxArr (P := Try.prog) (k := .i64) (t := 24) (len := 32) (sz := 1) (b := p9) (o := 0) (j := (31 - k / 2)) (by kernel_rfl) rfl (by omega)) [0, 2, 4, 5, 55, 56] [(0, .string (strOf s)), (2, pt p3 0), (4, pt p9 0), (5, .int .i64 (k : Int)), (55, .int .u8 (((nib (((rX s k).getD (31 - k / 2) 0)) (((s.getD k 0)).toNat - 87)).toNat : Nat) : Int)), (56, pt p9 (0 + (31 - k / 2) * 1))] (by kernel_rfl) (by kernel_rfl) rfl ?_
            obtain ⟨w66, r67, H68⟩ := H27.st (P := Try.prog) (o := (0 + (31 - k / 2) * 1)) (ty := 5) (v := .int .u8 (((nib (((rX s k).getD (31 - k / 2) 0)) (((s.getD k 0)).toNat - 87)).toNat : Nat) : Int)) 1 rfl (by kernel_rfl) (by rw [by8_length, rX_length]; omega) rfl
            rw [show (0 + (31 - k / 2) * 1) = (31 - k / 2) by omega, by8_set] at H68
            have H68 : Hp w [] [.blk p3 (by8 (List.replicate 32 0)) 24, .blk p9 (by8 (List.set (rX s k) (31 - k / 2) (nib (((rX s k).getD (31 - k / 2) 0)) (((s.getD k 0)).toNat - 87)))) 24] w66 := H68
            refine GL.semU (j := 13) r67 [0, 2, 4, 5] [(0, .string (strOf s)), (2, pt p3 0), (4, pt p9 0), (5, .int .i64 (k : Int))] (by kernel_rfl) rfl rfl rfl ?_
            refine GL.k rfl hK39 (fun _ _ h => h) ?_
            refine G.region ?_
            refine GL.run (j := 3) 3 [0, 2, 4, 5] [(0, .string (strOf s)), (2, pt p3 0), (4, pt p9 0), (5, .int .i64 (IntKind.i64.wrap ((k : Int) + 1)))] (by kernel_rfl) rfl ?_
            have e69 : (IntKind.i64.wrap ((k : Int) + 1)) = ((k + 1 : Nat) : Int) := by rw [in_i64 (by omega)]; omega
            refine GL.eq (M' := [(0, .string (strOf s)), (2, pt p3 0), (4, pt p9 0), (5, .int .i64 ((k + 1 : Nat) : Int))]) (by rw [e69]) ?_
            clear e69
            have H70 : Hp w [] [.blk p3 (by8 (List.replicate 32 0)) 24, .blk p9 (by8 (rX s (k + 1))) 24] w66 := by rw [rX, hdg]; exact H68
            refine GL.fit (ts := [0, 2, 4, 5]) (M' := [(0, .string (strOf s)), (2, pt p3 0), (4, pt p9 0), (5, .int .i64 ((k + 1 : Nat) : Int))]) (by kernel_rfl) ?_
            refine GL.eq (M' := [(0, .string (strOf s)), (2, pt p3 0), (4, pt p9 0), (5, .int .i64 (((k + 1) : Nat) : Int))]) (by rfl) ?_
            exact GL.again (k + 1) [0, 2, 4, 5] rfl (by kernel_rfl) (by show 64 - (k + 1) < 64 - k; omega) ⟨⟨by omega, all_step (by omega) hal hok⟩, H70⟩
      · skip
        have hb46f := of_decide_eq_true hb46
        refine GL.run (j := 7) 2 [0, 2, 4, 5, 20, 21, 22] [(0, .string (strOf s)), (2, pt p3 0), (4, pt p9 0), (5, .int .i64 (k : Int)), (20, .bool true), (21, .string (strOf s)), (22, .int .i64 (k : Int))] (by kernel_rfl) rfl ?_
        refine GL.sem (j := 8) (run_strIdx (P := Try.prog) (k := .i64) (t := 9) (s := s) (i := k) (by kernel_rfl) (getD8 (by omega)) _) [0, 2, 4, 5, 20, 23] [(0, .string (strOf s)), (2, pt p3 0), (4, pt p9 0), (5, .int .i64 (k : Int)), (20, .bool true), (23, .int .u8 (((s.getD k 0)).toNat : Int))] (by kernel_rfl) (by kernel_rfl) rfl ?_
        refine GL.run (j := 10) 2 [0, 2, 4, 5, 25] [(0, .string (strOf s)), (2, pt p3 0), (4, pt p9 0), (5, .int .i64 (k : Int)), (25, .bool (decide ((((s.getD k 0)).toNat : Int) ≤ 57)))] (by kernel_rfl) rfl ?_
        refine GL.k rfl hK45 (fun _ _ h => h) ?_
        cases hb71 : (decide ((((s.getD k 0)).toNat : Int) ≤ 57))
        · skip
          have hb71f := of_decide_eq_false hb71
          refine G.no rfl ?_
          refine G.seqK fun K72 hK73 => ?_
          refine G.region ?_
          refine GL.run (j := 2) 2 [0, 2, 4, 5, 30, 31] [(0, .string (strOf s)), (2, pt p3 0), (4, pt p9 0), (5, .int .i64 (k : Int)), (30, .string (strOf s)), (31, .int .i64 (k : Int))] (by kernel_rfl) rfl ?_
          refine GL.sem (j := 3) (run_strIdx (P := Try.prog) (k := .i64) (t := 9) (s := s) (i := k) (by kernel_rfl) (getD8 (by omega)) _) [0, 2, 4, 5, 32] [(0, .string (strOf s)), (2, pt p3 0), (4, pt p9 0), (5, .int .i64 (k : Int)), (32, .int .u8 (((s.getD k 0)).toNat : Int))] (by kernel_rfl) (by kernel_rfl) rfl ?_
          refine GL.run (j := 5) 2 [0, 2, 4, 5, 34] [(0, .string (strOf s)), (2, pt p3 0), (4, pt p9 0), (5, .int .i64 (k : Int)), (34, .bool (decide (97 ≤ (((s.getD k 0)).toNat : Int))))] (by kernel_rfl) rfl ?_
          cases hb74 : (decide (97 ≤ (((s.getD k 0)).toNat : Int)))
          · skip
            have hb74f := of_decide_eq_false hb74
            have hno := okT_no (s := s) (.inr ⟨k, by omega, Bool.eq_false_iff.2 (by unfold hexOK; simp only [ne_eq, Bool.or_eq_true, Bool.and_eq_true, decide_eq_true_eq]; omega)⟩)
            refine GL.run (j := 10) 5 [0, 2, 4, 5, 39] [(0, .string (strOf s)), (2, pt p3 0), (4, pt p9 0), (5, .int .i64 (k : Int)), (39, .bool false)] (by kernel_rfl) rfl ?_
            refine GL.k rfl hK73 (fun _ _ h => h) ?_
            refine G.no rfl ?_
            refine G.seqK fun K75 hK76 => ?_
            refine G.region ?_
            refine GL.run (j := 1) 1 [2, 44] [(2, pt p3 0), (44, .agg (by8 (List.replicate 32 0)).toArray)] (by kernel_rfl) rfl ?_
            obtain ⟨w77, r78, H79⟩ := H27.stA (P := Try.prog) (o := 0) (vs := by8 (List.replicate 32 0)) (ty := 24) (m := 32) 0 rfl (by kernel_rfl) (by rw [by8_length, List.length_replicate]) (Nat.le_of_eq (by rw [Nat.zero_add]; exact ((show (by8 (List.replicate 32 0)).length = 32 from by rw [by8_length]; rfl)).symm)) (by8_one _)
            rw [st_whole (by rw [by8_length]; rfl)] at H79
            have H79 : Hp w [] [.blk p3 (by8 (List.replicate 32 0)) 24, .blk p9 (by8 (rX s k)) 24] w77 := H79
            refine GL.semU (j := 2) r78 [2] [(2, pt p3 0)] (by kernel_rfl) rfl rfl rfl ?_
            refine GL.run (j := 3) 1 [2, 3] [(2, pt p3 0), (3, .bool false)] (by kernel_rfl) rfl ?_
            refine GL.k rfl hK76 (fun _ _ h => h) ?_
            refine G.ret ?_
            intro F_ hF_ hM_
            refine hRet _ _ (bodyPost_2 rfl (RV.cell rfl (H79.ldA (o := 0) (ty := 24) (m := 32) (sub := by8 (List.replicate 32 0)) 0 rfl (by kernel_rfl) (sub_whole (by rw [by8_length, List.length_replicate])) (by rw [by8_length, List.length_replicate]))) (RV.tmp rfl) ?_ F_ hF_ hM_)
            obtain ⟨e1, e2⟩ := par_no hno
            rw [e1, hno]
            exact ⟨rfl, H79.sub (List.nil_sublist _)⟩
          · skip
            have hb74f := of_decide_eq_true hb74
            refine GL.run (j := 7) 2 [0, 2, 4, 5, 34, 35, 36] [(0, .string (strOf s)), (2, pt p3 0), (4, pt p9 0), (5, .int .i64 (k : Int)), (34, .bool true), (35, .string (strOf s)), (36, .int .i64 (k : Int))] (by kernel_rfl) rfl ?_
            refine GL.sem (j := 8) (run_strIdx (P := Try.prog) (k := .i64) (t := 9) (s := s) (i := k) (by kernel_rfl) (getD8 (by omega)) _) [0, 2, 4, 5, 34, 37] [(0, .string (strOf s)), (2, pt p3 0), (4, pt p9 0), (5, .int .i64 (k : Int)), (34, .bool true), (37, .int .u8 (((s.getD k 0)).toNat : Int))] (by kernel_rfl) (by kernel_rfl) rfl ?_
            refine GL.run (j := 10) 2 [0, 2, 4, 5, 39] [(0, .string (strOf s)), (2, pt p3 0), (4, pt p9 0), (5, .int .i64 (k : Int)), (39, .bool (decide ((((s.getD k 0)).toNat : Int) ≤ 102)))] (by kernel_rfl) rfl ?_
            refine GL.k rfl hK73 (fun _ _ h => h) ?_
            cases hb80 : (decide ((((s.getD k 0)).toNat : Int) ≤ 102))
            · skip
              have hb80f := of_decide_eq_false hb80
              have hno := okT_no (s := s) (.inr ⟨k, by omega, Bool.eq_false_iff.2 (by unfold hexOK; simp only [ne_eq, Bool.or_eq_true, Bool.and_eq_true, decide_eq_true_eq]; omega)⟩)
              refine G.no rfl ?_
              refine G.seqK fun K81 hK82 => ?_
              refine G.region ?_
              refine GL.run (j := 1) 1 [2, 44] [(2, pt p3 0), (44, .agg (by8 (List.replicate 32 0)).toArray)] (by kernel_rfl) rfl ?_
              obtain ⟨w83, r84, H85⟩ := H27.stA (P := Try.prog) (o := 0) (vs := by8 (List.replicate 32 0)) (ty := 24) (m := 32) 0 rfl (by kernel_rfl) (by rw [by8_length, List.length_replicate]) (Nat.le_of_eq (by rw [Nat.zero_add]; exact ((show (by8 (List.replicate 32 0)).length = 32 from by rw [by8_length]; rfl)).symm)) (by8_one _)
              rw [st_whole (by rw [by8_length]; rfl)] at H85
              have H85 : Hp w [] [.blk p3 (by8 (List.replicate 32 0)) 24, .blk p9 (by8 (rX s k)) 24] w83 := H85
              refine GL.semU (j := 2) r84 [2] [(2, pt p3 0)] (by kernel_rfl) rfl rfl rfl ?_
              refine GL.run (j := 3) 1 [2, 3] [(2, pt p3 0), (3, .bool false)] (by kernel_rfl) rfl ?_
              refine GL.k rfl hK82 (fun _ _ h => h) ?_
              refine G.ret ?_
              intro F_ hF_ hM_
              refine hRet _ _ (bodyPost_2 rfl (RV.cell rfl (H85.ldA (o := 0) (ty := 24) (m := 32) (sub := by8 (List.replicate 32 0)) 0 rfl (by kernel_rfl) (sub_whole (by rw [by8_length, List.length_replicate])) (by rw [by8_length, List.length_replicate]))) (RV.tmp rfl) ?_ F_ hF_ hM_)
              obtain ⟨e1, e2⟩ := par_no hno
              rw [e1, hno]
              exact ⟨rfl, H85.sub (List.nil_sublist _)⟩
            · skip
              have hb80f := of_decide_eq_true hb80
              have hok : hexOK (s.getD k 0) = true := by unfold hexOK; simp only [Bool.or_eq_true, Bool.and_eq_true, decide_eq_true_eq]; omega
              have hdg : hexD (s.getD k 0) = (s.getD k 0).toNat - 87 := by unfold hexD; split <;> omega
              have hdl := hexD_lt hok
              rw [hdg] at hdl
              refine G.yes rfl ?_
              refine G.region ?_
              refine GL.run (j := 2) 2 [0, 2, 4, 5, 40, 41] [(0, .string (strOf s)), (2, pt p3 0), (4, pt p9 0), (5, .int .i64 (k : Int)), (40, .string (strOf s)), (41, .int .i64 (k : Int))] (by kernel_rfl) rfl ?_
              refine GL.sem (j := 3) (run_strIdx (P := Try.prog) (k := .i64) (t := 9) (s := s) (i := k) (by kernel_rfl) (getD8 (by omega)) _) [0, 2, 4, 5, 42] [(0, .string (strOf s)), (2, pt p3 0), (4, pt p9 0), (5, .int .i64 (k : Int)), (42, .int .u8 (((s.getD k 0)).toNat : Int))] (by kernel_rfl) (by kernel_rfl) rfl ?_
              refine GL.run (j := 5) 2 [0, 2, 4, 5, 6] [(0, .string (strOf s)), (2, pt p3 0), (4, pt p9 0), (5, .int .i64 (k : Int)), (6, .int .u8 (IntKind.u8.wrap ((((s.getD k 0)).toNat : Int) - 87)))] (by kernel_rfl) rfl ?_
              have e86 : (IntKind.u8.wrap ((((s.getD k 0)).toNat : Int) - 87)) = (((((s.getD k 0)).toNat - 87) : Nat) : Int) := by rw [in_u8 (by omega)]; omega
              refine GL.eq (M' := [(0, .string (strOf s)), (2, pt p3 0), (4, pt p9 0), (5, .int .i64 (k : Int)), (6, .int .u8 (((((s.getD k 0)).toNat - 87) : Nat) : Int))]) (by rw [e86]) ?_
              clear e86
              refine GL.k rfl hK43 (fun _ _ h => h) ?_
              refine G.region ?_
              refine GL.run (j := 6) 6 [0, 2, 4, 5, 6, 47, 50] [(0, .string (strOf s)), (2, pt p3 0), (4, pt p9 0), (5, .int .i64 (k : Int)), (6, .int .u8 (((((s.getD k 0)).toNat - 87) : Nat) : Int)), (47, .int .i64 (IntKind.i64.wrap (31 - (IntKind.i64.wrap (Int.tdiv (k : Int) 2))))), (50, .int .i64 (IntKind.i64.wrap (31 - (IntKind.i64.wrap (Int.tdiv (k : Int) 2)))))] (by kernel_rfl) rfl ?_
              have e87 : (IntKind.i64.wrap (Int.tdiv (k : Int) 2)) = (((k / 2) : Nat) : Int) := i_quo 2 (by omega)
              have e88 : (IntKind.i64.wrap (31 - (((k / 2) : Nat) : Int))) = (((31 - k / 2) : Nat) : Int) := by rw [in_i64 (by omega)]; omega
              refine GL.eq (M' := [(0, .string (strOf s)), (2, pt p3 0), (4, pt p9 0), (5, .int .i64 (k : Int)), (6, .int .u8 (((((s.getD k 0)).toNat - 87) : Nat) : Int)), (47, .int .i64 (((31 - k / 2) : Nat) : Int)), (50, .int .i64 (((31 - k / 2) : Nat) : Int))]) (by rw [e87, e88]) ?_
              clear e87 e88
              refine GL.sem (j := 7) (run_idxArr (P := Try.prog) (k := .i64) (t := 24) (len := 32) (sz := 1) (b := p9) (o := 0) (j := (31 - k / 2)) (by kernel_rfl) rfl (by omega)) [0, 2, 4, 5, 6, 47, 51] [(0, .string (strOf s)), (2, pt p3 0), (4, pt p9 0), (5, .int .i64 (k : Int)), (6, .int .u8 (((((s.getD k 0)).toNat - 87) : Nat) : Int)), (47, .int .i64 (((31 - k / 2) : Nat) : Int)), (51, pt p9 (0 + (31 - k / 2) * 1))] (by kernel_rfl) (by kernel_rfl) rfl ?_
              refine GL.sem (j := 8) (H27.ld (o := (0 + (31 - k / 2) * 1)) (ty := 5) (v := .int .u8 ((((rX s k).getD (31 - k / 2) 0)).toNat : Int)) 1 rfl (by kernel_rfl) (by rw [show (0 + (31 - k / 2) * 1) = (31 - k / 2) by omega]; exact by8_at (getD8 (by rw [rX_length]; omega)))) [0, 2, 4, 5, 6, 47, 52] [(0, .string (strOf s)), (2, pt p3 0), (4, pt p9 0), (5, .int .i64 (k : Int)), (6, .int .u8 (((((s.getD k 0)).toNat - 87) : Nat) : Int)), (47, .int .i64 (((31 - k / 2) : Nat) : Int)), (52, .int .u8 ((((rX s k).getD (31 - k / 2) 0)).toNat : Int))] (by kernel_rfl) (by kernel_rfl) rfl ?_
              refine GL.run (j := 11) 3 [0, 2, 4, 5, 47, 55] [(0, .string (strOf s)), (2, pt p3 0), (4, pt p9 0), (5, .int .i64 (k : Int)), (47, .int .i64 (((31 - k / 2) : Nat) : Int)), (55, .int .u8 (IntKind.u8.wrap ((IntKind.u8.wrap (((((rX s k).getD (31 - k / 2) 0)).toNat : Int) * 16)) + (((((s.getD k 0)).toNat - 87) : Nat) : Int))))] (by kernel_rfl) rfl ?_
              have e89 : (IntKind.u8.wrap (((((rX s k).getD (31 - k / 2) 0)).toNat : Int) * 16)) = ((((((rX s k).getD (31 - k / 2) 0)).toNat * 16 % 256) : Nat) : Int) := u8_mul16 _
              have e90 : (IntKind.u8.wrap (((((((rX s k).getD (31 - k / 2) 0)).toNat * 16 % 256) : Nat) : Int) + (((((s.getD k 0)).toNat - 87) : Nat) : Int))) = (((nib (((rX s k).getD (31 - k / 2) 0)) (((s.getD k 0)).toNat - 87)).toNat : Nat) : Int) := u8_add16 hdl
              refine GL.eq (M' := [(0, .string (strOf s)), (2, pt p3 0), (4, pt p9 0), (5, .int .i64 (k : Int)), (47, .int .i64 (((31 - k / 2) : Nat) : Int)), (55, .int .u8 (((nib (((rX s k).getD (31 - k / 2) 0)) (((s.getD k 0)).toNat - 87)).toNat : Nat) : Int))]) (by rw [e89, e90]) ?_
              clear e89 e90
              refine GL.sem (j := 12) (run_idxArr (P := Try.prog) (k := .i64) (t := 24) (len := 32) (sz := 1) (b := p9) (o := 0) (j := (31 - k / 2)) (by kernel_rfl) rfl (by omega)) [0, 2, 4, 5, 55, 56] [(0, .string (strOf s)), (2, pt p3 0), (4, pt p9 0), (5, .int .i64 (k : Int)), (55, .int .u8 (((nib (((rX s k).getD (31 - k / 2) 0)) (((s.getD k 0)).toNat - 87)).toNat : Nat) : Int)), (56, pt p9 (0 + (31 - k / 2) * 1))] (by kernel_rfl) (by kernel_rfl) rfl ?_
              obtain ⟨w91, r92, H93⟩ := H27.st (P := Try.prog) (o := (0 + (31 - k / 2) * 1)) (ty := 5) (v := .int .u8 (((nib (((rX s k).getD (31 - k / 2) 0)) (((s.getD k 0)).toNat - 87)).toNat : Nat) : Int)) 1 rfl (by kernel_rfl) (by rw [by8_length, rX_length]; omega) rfl
              rw [show (0 + (31 - k / 2) * 1) = (31 - k / 2) by omega, by8_set] at H93
              have H93 : Hp w [] [.blk p3 (by8 (List.replicate 32 0)) 24, .blk p9 (by8 (List.set (rX s k) (31 - k / 2) (nib (((rX s k).getD (31 - k / 2) 0)) (((s.getD k 0)).toNat - 87)))) 24] w91 := H93
              refine GL.semU (j := 13) r92 [0, 2, 4, 5] [(0, .string (strOf s)), (2, pt p3 0), (4, pt p9 0), (5, .int .i64 (k : Int))] (by kernel_rfl) rfl rfl rfl ?_
              refine GL.k rfl hK39 (fun _ _ h => h) ?_
              refine G.region ?_
              refine GL.run (j := 3) 3 [0, 2, 4, 5] [(0, .string (strOf s)), (2, pt p3 0), (4, pt p9 0), (5, .int .i64 (IntKind.i64.wrap ((k : Int) + 1)))] (by kernel_rfl) rfl ?_
              have e94 : (IntKind.i64.wrap ((k : Int) + 1)) = ((k + 1 : Nat) : Int) := by rw [in_i64 (by omega)]; omega
              refine GL.eq (M' := [(0, .string (strOf s)), (2, pt p3 0), (4, pt p9 0), (5, .int .i64 ((k + 1 : Nat) : Int))]) (by rw [e94]) ?_
              clear e94
              have H95 : Hp w [] [.blk p3 (by8 (List.replicate 32 0)) 24, .blk p9 (by8 (rX s (k + 1))) 24] w91 := by rw [rX, hdg]; exact H93
              refine GL.fit (ts := [0, 2, 4, 5]) (M' := [(0, .string (strOf s)), (2, pt p3 0), (4, pt p9 0), (5, .int .i64 ((k + 1 : Nat) : Int))]) (by kernel_rfl) ?_
              refine GL.eq (M' := [(0, .string (strOf s)), (2, pt p3 0), (4, pt p9 0), (5, .int .i64 (((k + 1) : Nat) : Int))]) (by rfl) ?_
              exact GL.again (k + 1) [0, 2, 4, 5] rfl (by kernel_rfl) (by show 64 - (k + 1) < 64 - k; omega) ⟨⟨by omega, all_step (by omega) hal hok⟩, H95⟩
        · skip
          have hb71f := of_decide_eq_true hb71
          have hok : hexOK (s.getD k 0) = true := by unfold hexOK; simp only [Bool.or_eq_true, Bool.and_eq_true, decide_eq_true_eq]; omega
          have hdg : hexD (s.getD k 0) = (s.getD k 0).toNat - 48 := by unfold hexD; split <;> omega
          have hdl := hexD_lt hok
          rw [hdg] at hdl
          refine G.yes rfl ?_
          refine G.region ?_
          refine GL.run (j := 2) 2 [0, 2, 4, 5, 26, 27] [(0, .string (strOf s)), (2, pt p3 0), (4, pt p9 0), (5, .int .i64 (k : Int)), (26, .string (strOf s)), (27, .int .i64 (k : Int))] (by kernel_rfl) rfl ?_
          refine GL.sem (j := 3) (run_strIdx (P := Try.prog) (k := .i64) (t := 9) (s := s) (i := k) (by kernel_rfl) (getD8 (by omega)) _) [0, 2, 4, 5, 28] [(0, .string (strOf s)), (2, pt p3 0), (4, pt p9 0), (5, .int .i64 (k : Int)), (28, .int .u8 (((s.getD k 0)).toNat : Int))] (by kernel_rfl) (by kernel_rfl) rfl ?_
          refine GL.run (j := 5) 2 [0, 2, 4, 5, 6] [(0, .string (strOf s)), (2, pt p3 0), (4, pt p9 0), (5, .int .i64 (k : Int)), (6, .int .u8 (IntKind.u8.wrap ((((s.getD k 0)).toNat : Int) - 48)))] (by kernel_rfl) rfl ?_
          have e96 : (IntKind.u8.wrap ((((s.getD k 0)).toNat : Int) - 48)) = (((((s.getD k 0)).toNat - 48) : Nat) : Int) := by rw [in_u8 (by omega)]; omega
          refine GL.eq (M' := [(0, .string (strOf s)), (2, pt p3 0), (4, pt p9 0), (5, .int .i64 (k : Int)), (6, .int .u8 (((((s.getD k 0)).toNat - 48) : Nat) : Int))]) (by rw [e96]) ?_
          clear e96
          refine GL.k rfl hK43 (fun _ _ h => h) ?_
          refine G.region ?_
          refine GL.run (j := 6) 6 [0, 2, 4, 5, 6, 47, 50] [(0, .string (strOf s)), (2, pt p3 0), (4, pt p9 0), (5, .int .i64 (k : Int)), (6, .int .u8 (((((s.getD k 0)).toNat - 48) : Nat) : Int)), (47, .int .i64 (IntKind.i64.wrap (31 - (IntKind.i64.wrap (Int.tdiv (k : Int) 2))))), (50, .int .i64 (IntKind.i64.wrap (31 - (IntKind.i64.wrap (Int.tdiv (k : Int) 2)))))] (by kernel_rfl) rfl ?_
          have e97 : (IntKind.i64.wrap (Int.tdiv (k : Int) 2)) = (((k / 2) : Nat) : Int) := i_quo 2 (by omega)
          have e98 : (IntKind.i64.wrap (31 - (((k / 2) : Nat) : Int))) = (((31 - k / 2) : Nat) : Int) := by rw [in_i64 (by omega)]; omega
          refine GL.eq (M' := [(0, .string (strOf s)), (2, pt p3 0), (4, pt p9 0), (5, .int .i64 (k : Int)), (6, .int .u8 (((((s.getD k 0)).toNat - 48) : Nat) : Int)), (47, .int .i64 (((31 - k / 2) : Nat) : Int)), (50, .int .i64 (((31 - k / 2) : Nat) : Int))]) (by rw [e97, e98]) ?_
          clear e97 e98
          refine GL.sem (j := 7) (run_idxArr (P := Try.prog) (k := .i64) (t := 24) (len := 32) (sz := 1) (b := p9) (o := 0) (j := (31 - k / 2)) (by kernel_rfl) rfl (by omega)) [0, 2, 4, 5, 6, 47, 51] [(0, .string (strOf s)), (2, pt p3 0), (4, pt p9 0), (5, .int .i64 (k : Int)), (6, .int .u8 (((((s.getD k 0)).toNat - 48) : Nat) : Int)), (47, .int .i64 (((31 - k / 2) : Nat) : Int)), (51, pt p9 (0 + (31 - k / 2) * 1))] (by kernel_rfl) (by kernel_rfl) rfl ?_
          refine GL.sem (j := 8) (H27.ld (o := (0 + (31 - k / 2) * 1)) (ty := 5) (v := .int .u8 ((((rX s k).getD (31 - k / 2) 0)).toNat : Int)) 1 rfl (by kernel_rfl) (by rw [show (0 + (31 - k / 2) * 1) = (31 - k / 2) by omega]; exact by8_at (getD8 (by rw [rX_length]; omega)))) [0, 2, 4, 5, 6, 47, 52] [(0, .string (strOf s)), (2, pt p3 0), (4, pt p9 0), (5, .int .i64 (k : Int)), (6, .int .u8 (((((s.getD k 0)).toNat - 48) : Nat) : Int)), (47, .int .i64 (((31 - k / 2) : Nat) : Int)), (52, .int .u8 ((((rX s k).getD (31 - k / 2) 0)).toNat : Int))] (by kernel_rfl) (by kernel_rfl) rfl ?_
          refine GL.run (j := 11) 3 [0, 2, 4, 5, 47, 55] [(0, .string (strOf s)), (2, pt p3 0), (4, pt p9 0), (5, .int .i64 (k : Int)), (47, .int .i64 (((31 - k / 2) : Nat) : Int)), (55, .int .u8 (IntKind.u8.wrap ((IntKind.u8.wrap (((((rX s k).getD (31 - k / 2) 0)).toNat : Int) * 16)) + (((((s.getD k 0)).toNat - 48) : Nat) : Int))))] (by kernel_rfl) rfl ?_
          have e99 : (IntKind.u8.wrap (((((rX s k).getD (31 - k / 2) 0)).toNat : Int) * 16)) = ((((((rX s k).getD (31 - k / 2) 0)).toNat * 16 % 256) : Nat) : Int) := u8_mul16 _
          have e100 : (IntKind.u8.wrap (((((((rX s k).getD (31 - k / 2) 0)).toNat * 16 % 256) : Nat) : Int) + (((((s.getD k 0)).toNat - 48) : Nat) : Int))) = (((nib (((rX s k).getD (31 - k / 2) 0)) (((s.getD k 0)).toNat - 48)).toNat : Nat) : Int) := u8_add16 hdl
          refine GL.eq (M' := [(0, .string (strOf s)), (2, pt p3 0), (4, pt p9 0), (5, .int .i64 (k : Int)), (47, .int .i64 (((31 - k / 2) : Nat) : Int)), (55, .int .u8 (((nib (((rX s k).getD (31 - k / 2) 0)) (((s.getD k 0)).toNat - 48)).toNat : Nat) : Int))]) (by rw [e99, e100]) ?_
          clear e99 e100
          refine GL.sem (j := 12) (run_idxArr (P := Try.prog) (k := .i64) (t := 24) (len := 32) (sz := 1) (b := p9) (o := 0) (j := (31 - k / 2)) (by kernel_rfl) rfl (by omega)) [0, 2, 4, 5, 55, 56] [(0, .string (strOf s)), (2, pt p3 0), (4, pt p9 0), (5, .int .i64 (k : Int)), (55, .int .u8 (((nib (((rX s k).getD (31 - k / 2) 0)) (((s.getD k 0)).toNat - 48)).toNat : Nat) : Int)), (56, pt p9 (0 + (31 - k / 2) * 1))] (by kernel_rfl) (by kernel_rfl) rfl ?_
          obtain ⟨w101, r102, H103⟩ := H27.st (P := Try.prog) (o := (0 + (31 - k / 2) * 1)) (ty := 5) (v := .int .u8 (((nib (((rX s k).getD (31 - k / 2) 0)) (((s.getD k 0)).toNat - 48)).toNat : Nat) : Int)) 1 rfl (by kernel_rfl) (by rw [by8_length, rX_length]; omega) rfl
          rw [show (0 + (31 - k / 2) * 1) = (31 - k / 2) by omega, by8_set] at H103
          have H103 : Hp w [] [.blk p3 (by8 (List.replicate 32 0)) 24, .blk p9 (by8 (List.set (rX s k) (31 - k / 2) (nib (((rX s k).getD (31 - k / 2) 0)) (((s.getD k 0)).toNat - 48)))) 24] w101 := H103
          refine GL.semU (j := 13) r102 [0, 2, 4, 5] [(0, .string (strOf s)), (2, pt p3 0), (4, pt p9 0), (5, .int .i64 (k : Int))] (by kernel_rfl) rfl rfl rfl ?_
          refine GL.k rfl hK39 (fun _ _ h => h) ?_
          refine G.region ?_
          refine GL.run (j := 3) 3 [0, 2, 4, 5] [(0, .string (strOf s)), (2, pt p3 0), (4, pt p9 0), (5, .int .i64 (IntKind.i64.wrap ((k : Int) + 1)))] (by kernel_rfl) rfl ?_
          have e104 : (IntKind.i64.wrap ((k : Int) + 1)) = ((k + 1 : Nat) : Int) := by rw [in_i64 (by omega)]; omega
          refine GL.eq (M' := [(0, .string (strOf s)), (2, pt p3 0), (4, pt p9 0), (5, .int .i64 ((k + 1 : Nat) : Int))]) (by rw [e104]) ?_
          clear e104
          have H105 : Hp w [] [.blk p3 (by8 (List.replicate 32 0)) 24, .blk p9 (by8 (rX s (k + 1))) 24] w101 := by rw [rX, hdg]; exact H103
          refine GL.fit (ts := [0, 2, 4, 5]) (M' := [(0, .string (strOf s)), (2, pt p3 0), (4, pt p9 0), (5, .int .i64 ((k + 1 : Nat) : Int))]) (by kernel_rfl) ?_
          refine GL.eq (M' := [(0, .string (strOf s)), (2, pt p3 0), (4, pt p9 0), (5, .int .i64 (((k + 1) : Nat) : Int))]) (by rfl) ?_
          exact GL.again (k + 1) [0, 2, 4, 5] rfl (by kernel_rfl) (by show 64 - (k + 1) < 64 - k; omega) ⟨⟨by omega, all_step (by omega) hal hok⟩, H105⟩
  · skip
    have hb20f : ((strOf s).size : Int) ≠ 64 := bne_iff_ne.1 hb20
    have hno := okT_no (s := s) (.inl (by omega))
    refine G.yes rfl ?_
    refine G.seqK fun K106 hK107 => ?_
    refine G.region ?_
    refine GL.sem (j := 1) (H15.ldA (o := 0) (ty := 24) (m := 32) (sub := by8 (List.replicate 32 0)) 1 rfl (by kernel_rfl) (sub_whole (by rw [by8_length, List.length_replicate])) (by rw [by8_length, List.length_replicate])) [2, 11] [(2, pt p3 0), (11, .agg (by8 (List.replicate 32 0)).toArray)] (by kernel_rfl) (by kernel_rfl) rfl ?_
    obtain ⟨w108, r109, H110⟩ := H15.stA (P := Try.prog) (o := 0) (vs := by8 (List.replicate 32 0)) (ty := 24) (m := 32) 0 rfl (by kernel_rfl) (by rw [by8_length, List.length_replicate]) (Nat.le_of_eq (by rw [Nat.zero_add]; exact ((show (by8 (List.replicate 32 0)).length = 32 from by rw [by8_length]; rfl)).symm)) (by8_one _)
    rw [st_whole (by rw [by8_length]; rfl)] at H110
    have H110 : Hp w [] [.blk p3 (by8 (List.replicate 32 0)) 24, .blk p9 (by8 (List.replicate 32 0)) 24] w108 := H110
    refine GL.semU (j := 2) r109 [2] [(2, pt p3 0)] (by kernel_rfl) rfl rfl rfl ?_
    refine GL.run (j := 3) 1 [2, 3] [(2, pt p3 0), (3, .bool false)] (by kernel_rfl) rfl ?_
    refine GL.k rfl hK107 (fun _ _ h => h) ?_
    refine G.ret ?_
    intro F_ hF_ hM_
    refine hRet _ _ (bodyPost_2 rfl (RV.cell rfl (H110.ldA (o := 0) (ty := 24) (m := 32) (sub := by8 (List.replicate 32 0)) 0 rfl (by kernel_rfl) (sub_whole (by rw [by8_length, List.length_replicate])) (by rw [by8_length, List.length_replicate]))) (RV.tmp rfl) ?_ F_ hF_ hM_)
    obtain ⟨e1, e2⟩ := par_no hno
    rw [e1, hno]
    exact ⟨rfl, H110.sub (List.nil_sublist _)⟩
end Go.Proofs.Ytfflicgmgadcmaa
