/- Unlike heads have unlike bytes: the walk. -/
import Derived.Test.YtdepaaphgfapjaaHdrE
import Derived.Test.YtdepaaphgfapjaaLives
namespace Go.Proofs.Ytdepaaphgfapjaa
open Go.RowKit
theorem HeaderApart_calls (v1 : Nat) (A1 R1 : List UInt8) (t1 b1 n1 : Nat) (v2 : Nat) (A2 R2 : List UInt8) (t2 b2 n2 : Nat) (w : World) (hA1 : A1.length = 32) (hR1 : R1.length = 32) (hv1 : v1 < 4294967296) (ht1 : t1 < 4294967296) (hb1 : b1 < 4294967296) (hn1 : n1 < 4294967296) (hA2 : A2.length = 32) (hR2 : R2.length = 32) (hv2 : v2 < 4294967296) (ht2 : t2 < 4294967296) (hb2 : b2 < 4294967296) (hn2 : n2 < 4294967296) : Calls Try.prog 3 #[.agg (hdC v1 A1 R1 t1 b1 n1).toArray, .agg (hdC v2 A2 R2 t2 b2 n2).toArray] w fun e w' => e = .returned (.bool true) ∧ Hp w [] [] w' := by
  refine calls_G (args := [.agg (hdC v1 A1 R1 t1 b1 n1).toArray, .agg (hdC v2 A2 R2 t2 b2 n2).toArray]) Try.func3 rfl Try.ntmps3 rfl ?_
  intro Q0 hRet hNor hPan
  have H := Hp.start w
  have H : Hp w [] [] w := H
  refine G.seqK fun K1 hK2 => ?_
  refine G.region ?_
  obtain ⟨p3, w4, r5, H6⟩ := H.box (P := Try.prog) 26 (hdC v1 A1 R1 t1 b1 n1) (.agg (hdC v1 A1 R1 t1 b1 n1).toArray) rfl
  have H6 : Hp w [] [.blk p3 (hdC v1 A1 R1 t1 b1 n1) 26] w4 := H6
  refine GL.sem (j := 1) (r5) [1, 2] [(1, .agg (hdC v2 A2 R2 t2 b2 n2).toArray), (2, pt p3 0)] (by kernel_rfl) (by kernel_rfl) rfl ?_
  obtain ⟨p7, w8, r9, H10⟩ := H6.box (P := Try.prog) 26 (hdC v2 A2 R2 t2 b2 n2) (.agg (hdC v2 A2 R2 t2 b2 n2).toArray) rfl
  have H10 : Hp w [] [.blk p3 (hdC v1 A1 R1 t1 b1 n1) 26, .blk p7 (hdC v2 A2 R2 t2 b2 n2) 26] w8 := H10
  refine GL.sem (j := 2) (r9) [2, 3] [(2, pt p3 0), (3, pt p7 0)] (by kernel_rfl) (by kernel_rfl) rfl ?_
  refine GL.run (j := 3) 1 [2, 3] [(2, pt p3 0), (3, pt p7 0)] (by kernel_rfl) rfl ?_
  refine GL.k rfl hK2 (fun _ _ h => h) ?_
  refine G.seqK fun K11 hK12 => ?_
  refine G.heldP (Hp w [] [.blk p3 (hdC v1 A1 R1 t1 b1 n1) 26, .blk p7 (hdC v2 A2 R2 t2 b2 n2) 26]) (by kernel_rfl) (by kernel_rfl) (fun c_ a_ d_ v_ w_ h_ => hPan c_ a_ d_ v_ w_ h_) ?_
  have H13 := H10.drew
  generalize ({ w8 with drawn := w8.drawn + 1 } : World) = w14 at H13 ⊢
  have hS15 : Hp w [] [.blk p3 (hdC v1 A1 R1 t1 b1 n1) 26, .blk p7 (hdC v2 A2 R2 t2 b2 n2) 26] w14 := H13.sub (List.Sublist.cons_cons _ (List.Sublist.cons_cons _ (List.Sublist.slnil)))
  refine GP.call 0 (lives_calls w14) (by kernel_rfl) (by kernel_rfl) (fun e_ w16 hR => ?_)
  obtain ⟨rfl, H18⟩ := hR
  have H17 : Hp w [] [.blk p3 (hdC v1 A1 R1 t1 b1 n1) 26, .blk p7 (hdC v2 A2 R2 t2 b2 n2) 26] w16 := H13.callNil H18
  have hS19 : Hp w [] [.blk p3 (hdC v1 A1 R1 t1 b1 n1) 26, .blk p7 (hdC v2 A2 R2 t2 b2 n2) 26] w16 := H17.sub (List.Sublist.cons_cons _ (List.Sublist.cons_cons _ (List.Sublist.slnil)))
  refine ⟨_, rfl, hS19, [2, 3, 5], [(2, pt p3 0), (3, pt p7 0), (5, .bool true)], by kernel_rfl, ?_⟩
  refine GP.run [1] [2, 3, 6] [(2, pt p3 0), (3, pt p7 0), (6, .bool true)] [0, 1] (by kernel_rfl) rfl hS19 ?_
  refine GP.sem 2 (fun w_ H_ => H_.ldA (o := 0) (ty := 26) (m := 68) (sub := hdC v1 A1 R1 t1 b1 n1) 0 rfl (by kernel_rfl) (sub_whole (hdC_length hA1 hR1)) (hdC_length hA1 hR1)) [2, 3, 6, 7] [(2, pt p3 0), (3, pt p7 0), (6, .bool true), (7, .agg (hdC v1 A1 R1 t1 b1 n1).toArray)] (by kernel_rfl) (by kernel_rfl) (by kernel_rfl) hS19 ?_
  refine GP.sem 3 (fun w_ H_ => H_.ldA (o := 0) (ty := 26) (m := 68) (sub := hdC v2 A2 R2 t2 b2 n2) 1 rfl (by kernel_rfl) (sub_whole (hdC_length hA2 hR2)) (hdC_length hA2 hR2)) [2, 3, 6, 7, 8] [(2, pt p3 0), (3, pt p7 0), (6, .bool true), (7, .agg (hdC v1 A1 R1 t1 b1 n1).toArray), (8, .agg (hdC v2 A2 R2 t2 b2 n2).toArray)] (by kernel_rfl) (by kernel_rfl) (by kernel_rfl) hS19 ?_
  refine GP.sem 4 (fun w_ H_ => run_hd_eql (x := (.tmp 7)) (y := (.tmp 8)) (v := v1) (A := A1) (R := R1) (t := t1) (b := b1) (n := n1) (v' := v2) (A' := A2) (R' := R2) (t' := t2) (b' := b2) (n' := n2) hA1 hR1 hv1 ht1 hb1 hn1 hA2 hR2 hv2 ht2 hb2 hn2 _) [2, 3, 6, 9] [(2, pt p3 0), (3, pt p7 0), (6, .bool true), (9, .bool (sameH v1 A1 R1 t1 b1 n1 v2 A2 R2 t2 b2 n2))] (by kernel_rfl) (by kernel_rfl) (by kernel_rfl) hS19 ?_
  refine GP.sem 5 (fun w_ H_ => H_.ldA (o := 0) (ty := 26) (m := 68) (sub := hdC v1 A1 R1 t1 b1 n1) 0 rfl (by kernel_rfl) (sub_whole (hdC_length hA1 hR1)) (hdC_length hA1 hR1)) [2, 3, 6, 9, 10] [(2, pt p3 0), (3, pt p7 0), (6, .bool true), (9, .bool (sameH v1 A1 R1 t1 b1 n1 v2 A2 R2 t2 b2 n2)), (10, .agg (hdC v1 A1 R1 t1 b1 n1).toArray)] (by kernel_rfl) (by kernel_rfl) (by kernel_rfl) hS19 ?_
  refine GP.sem 8 (fun w_ H_ => H_.ldA (o := 0) (ty := 26) (m := 68) (sub := hdC v2 A2 R2 t2 b2 n2) 1 rfl (by kernel_rfl) (sub_whole (hdC_length hA2 hR2)) (hdC_length hA2 hR2)) [2, 6, 9, 10, 13] [(2, pt p3 0), (6, .bool true), (9, .bool (sameH v1 A1 R1 t1 b1 n1 v2 A2 R2 t2 b2 n2)), (10, .agg (hdC v1 A1 R1 t1 b1 n1).toArray), (13, .agg (hdC v2 A2 R2 t2 b2 n2).toArray)] (by kernel_rfl) (by kernel_rfl) (by kernel_rfl) hS19 ?_
  refine GP.call 6 (HBytes_calls v1 A1 R1 t1 b1 n1 w16 hA1 hR1 hv1 ht1 hb1 hn1) (by kernel_rfl) (by kernel_rfl) (fun e_ w22 hR => ?_)
  obtain ⟨A20, c21, rfl, H24⟩ := hR
  have H23 : Hp w [] [.blk p3 (hdC v1 A1 R1 t1 b1 n1) 26, .blk p7 (hdC v2 A2 R2 t2 b2 n2) 26, .row A20 80 c21 5 1 (by8 (hdB v1 A1 R1 t1 b1 n1))] w22 := H17.callNew H24
  have hS25 : Hp w [] [.blk p3 (hdC v1 A1 R1 t1 b1 n1) 26, .blk p7 (hdC v2 A2 R2 t2 b2 n2) 26] w22 := H23.sub (List.Sublist.cons_cons _ (List.Sublist.cons_cons _ (List.Sublist.cons _ (List.Sublist.slnil))))
  refine ⟨_, rfl, hS25, [2, 6, 9, 11, 13], [(2, pt p3 0), (6, .bool true), (9, .bool (sameH v1 A1 R1 t1 b1 n1 v2 A2 R2 t2 b2 n2)), (11, .slice A20 80 c21), (13, .agg (hdC v2 A2 R2 t2 b2 n2).toArray)], by kernel_rfl, ?_⟩
  refine GP.weak (Hp w [] [.blk p3 (hdC v1 A1 R1 t1 b1 n1) 26, .blk p7 (hdC v2 A2 R2 t2 b2 n2) 26, .row A20 80 c21 5 1 (by8 (hdB v1 A1 R1 t1 b1 n1))]) (fun w_ h_ => h_.sub (List.Sublist.cons_cons _ (List.Sublist.cons_cons _ (List.Sublist.cons _ (List.Sublist.slnil))))) ?_
  have hS26 : Hp w [] [.blk p3 (hdC v1 A1 R1 t1 b1 n1) 26, .blk p7 (hdC v2 A2 R2 t2 b2 n2) 26, .row A20 80 c21 5 1 (by8 (hdB v1 A1 R1 t1 b1 n1))] w22 := H23.sub (List.Sublist.cons_cons _ (List.Sublist.cons_cons _ (List.Sublist.cons_cons _ (List.Sublist.slnil))))
  refine GP.sem 7 (fun w_ H_ => run_toStr (P := Try.prog) (src := 28) (dst := 9) (A := A20) (bs := (hdB v1 A1 R1 t1 b1 n1)) (n := 80) (c := c21) (by kernel_rfl) (by kernel_rfl) (H_.rdRow 2 rfl) ((hdB_length hA1 hR1).symm)) [2, 6, 9, 12, 13] [(2, pt p3 0), (6, .bool true), (9, .bool (sameH v1 A1 R1 t1 b1 n1 v2 A2 R2 t2 b2 n2)), (12, .string (strOf (hdB v1 A1 R1 t1 b1 n1))), (13, .agg (hdC v2 A2 R2 t2 b2 n2).toArray)] (by kernel_rfl) (by kernel_rfl) (by kernel_rfl) hS26 ?_
  refine GP.call 9 (HBytes_calls v2 A2 R2 t2 b2 n2 w22 hA2 hR2 hv2 ht2 hb2 hn2) (by kernel_rfl) (by kernel_rfl) (fun e_ w29 hR => ?_)
  obtain ⟨A27, c28, rfl, H31⟩ := hR
  have H30 : Hp w [] [.blk p3 (hdC v1 A1 R1 t1 b1 n1) 26, .blk p7 (hdC v2 A2 R2 t2 b2 n2) 26, .row A20 80 c21 5 1 (by8 (hdB v1 A1 R1 t1 b1 n1)), .row A27 80 c28 5 1 (by8 (hdB v2 A2 R2 t2 b2 n2))] w29 := H23.callNew H31
  have hS32 : Hp w [] [.blk p3 (hdC v1 A1 R1 t1 b1 n1) 26, .blk p7 (hdC v2 A2 R2 t2 b2 n2) 26, .row A20 80 c21 5 1 (by8 (hdB v1 A1 R1 t1 b1 n1))] w29 := H30.sub (List.Sublist.cons_cons _ (List.Sublist.cons_cons _ (List.Sublist.cons_cons _ (List.Sublist.cons _ (List.Sublist.slnil)))))
  refine ⟨_, rfl, hS32, [2, 6, 9, 12, 14], [(2, pt p3 0), (6, .bool true), (9, .bool (sameH v1 A1 R1 t1 b1 n1 v2 A2 R2 t2 b2 n2)), (12, .string (strOf (hdB v1 A1 R1 t1 b1 n1))), (14, .slice A27 80 c28)], by kernel_rfl, ?_⟩
  refine GP.weak (Hp w [] [.blk p3 (hdC v1 A1 R1 t1 b1 n1) 26, .blk p7 (hdC v2 A2 R2 t2 b2 n2) 26, .row A20 80 c21 5 1 (by8 (hdB v1 A1 R1 t1 b1 n1)), .row A27 80 c28 5 1 (by8 (hdB v2 A2 R2 t2 b2 n2))]) (fun w_ h_ => h_.sub (List.Sublist.cons_cons _ (List.Sublist.cons_cons _ (List.Sublist.cons_cons _ (List.Sublist.cons _ (List.Sublist.slnil)))))) ?_
  have hS33 : Hp w [] [.blk p3 (hdC v1 A1 R1 t1 b1 n1) 26, .blk p7 (hdC v2 A2 R2 t2 b2 n2) 26, .row A20 80 c21 5 1 (by8 (hdB v1 A1 R1 t1 b1 n1)), .row A27 80 c28 5 1 (by8 (hdB v2 A2 R2 t2 b2 n2))] w29 := H30.sub (List.Sublist.cons_cons _ (List.Sublist.cons_cons _ (List.Sublist.cons_cons _ (List.Sublist.cons_cons _ (List.Sublist.slnil)))))
  refine GP.sem 10 (fun w_ H_ => run_toStr (P := Try.prog) (src := 28) (dst := 9) (A := A27) (bs := (hdB v2 A2 R2 t2 b2 n2)) (n := 80) (c := c28) (by kernel_rfl) (by kernel_rfl) (H_.rdRow 3 rfl) ((hdB_length hA2 hR2).symm)) [2, 6, 9, 12, 15] [(2, pt p3 0), (6, .bool true), (9, .bool (sameH v1 A1 R1 t1 b1 n1 v2 A2 R2 t2 b2 n2)), (12, .string (strOf (hdB v1 A1 R1 t1 b1 n1))), (15, .string (strOf (hdB v2 A2 R2 t2 b2 n2)))] (by kernel_rfl) (by kernel_rfl) (by kernel_rfl) hS33 ?_
  refine GP.sem 11 (fun w_ H_ => run_str_eql (P := Try.prog) (t := 9) (hdB v1 A1 R1 t1 b1 n1) (hdB v2 A2 R2 t2 b2 n2) _) [2, 6, 9, 16] [(2, pt p3 0), (6, .bool true), (9, .bool (sameH v1 A1 R1 t1 b1 n1 v2 A2 R2 t2 b2 n2)), (16, .bool ((hdB v1 A1 R1 t1 b1 n1) == (hdB v2 A2 R2 t2 b2 n2)))] (by kernel_rfl) (by kernel_rfl) (by kernel_rfl) hS33 ?_
  refine GP.run [12, 13, 14] [2, 19] [(2, pt p3 0), (19, .bool ((sameH v1 A1 R1 t1 b1 n1 v2 A2 R2 t2 b2 n2) == ((hdB v1 A1 R1 t1 b1 n1) == (hdB v2 A2 R2 t2 b2 n2))))] [0, 1, 2, 3, 4, 5, 8, 6, 7, 9, 10, 11, 12, 13, 14] (by kernel_rfl) rfl hS33 ?_
  have hb34 : ((sameH v1 A1 R1 t1 b1 n1 v2 A2 R2 t2 b2 n2) == ((hdB v1 A1 R1 t1 b1 n1) == (hdB v2 A2 R2 t2 b2 n2))) = true := hd_apart hA1 hR1 hv1 ht1 hb1 hn1 hA2 hR2 hv2 ht2 hb2 hn2
  rw [hb34]
  refine GP.sem 15 (fun w_ H_ => H_.ldA (o := 0) (ty := 26) (m := 68) (sub := hdC v1 A1 R1 t1 b1 n1) 0 rfl (by kernel_rfl) (sub_whole (hdC_length hA1 hR1)) (hdC_length hA1 hR1)) [19, 20] [(19, .bool true), (20, .agg (hdC v1 A1 R1 t1 b1 n1).toArray)] (by kernel_rfl) (by kernel_rfl) (by kernel_rfl) hS33 ?_
  refine GP.call 16 (HBytes_calls v1 A1 R1 t1 b1 n1 w29 hA1 hR1 hv1 ht1 hb1 hn1) (by kernel_rfl) (by kernel_rfl) (fun e_ w37 hR => ?_)
  obtain ⟨A35, c36, rfl, H39⟩ := hR
  have H38 : Hp w [] [.blk p3 (hdC v1 A1 R1 t1 b1 n1) 26, .blk p7 (hdC v2 A2 R2 t2 b2 n2) 26, .row A20 80 c21 5 1 (by8 (hdB v1 A1 R1 t1 b1 n1)), .row A27 80 c28 5 1 (by8 (hdB v2 A2 R2 t2 b2 n2)), .row A35 80 c36 5 1 (by8 (hdB v1 A1 R1 t1 b1 n1))] w37 := H30.callNew H39
  have hS40 : Hp w [] [.blk p3 (hdC v1 A1 R1 t1 b1 n1) 26, .blk p7 (hdC v2 A2 R2 t2 b2 n2) 26, .row A20 80 c21 5 1 (by8 (hdB v1 A1 R1 t1 b1 n1)), .row A27 80 c28 5 1 (by8 (hdB v2 A2 R2 t2 b2 n2))] w37 := H38.sub (List.Sublist.cons_cons _ (List.Sublist.cons_cons _ (List.Sublist.cons_cons _ (List.Sublist.cons_cons _ (List.Sublist.cons _ (List.Sublist.slnil))))))
  refine ⟨_, rfl, hS40, [19, 21], [(19, .bool true), (21, .slice A35 80 c36)], by kernel_rfl, ?_⟩
  refine GP.run [17, 18, 19, 20] [4] [(4, .bool true)] [0, 1, 2, 3, 4, 5, 8, 6, 7, 9, 10, 11, 12, 13, 14, 15, 16, 17, 18, 19, 20] (by kernel_rfl) rfl hS40 ?_
  refine GP.k (by kernel_rfl) hK12 (fun _ _ h => h) ?_
  refine G.ret ?_
  intro F_ hF_ hM_
  refine hRet _ _ (bodyPost_1 rfl (RV.tmp rfl) ?_ F_ hF_ hM_)
  exact ⟨rfl, H38.sub (List.nil_sublist _)⟩
end Go.Proofs.Ytdepaaphgfapjaa
