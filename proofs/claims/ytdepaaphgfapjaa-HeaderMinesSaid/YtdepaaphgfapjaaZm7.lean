/- HeaderMines: the row. -/
import Derived.Test.YtdepaaphgfapjaaZm6
set_option linter.unusedVariables false
set_option maxRecDepth 100000
namespace Go.Proofs.Ytdepaaphgfapjaa
open Go.RowKit
theorem HeaderMines_calls (v : Nat) (A R : List UInt8) (t b n : Nat) (m : Nat) (w : World) (hA : A.length = 32) (hR : R.length = 32) (hv : v < 4294967296) (ht : t < 4294967296) (hb : b < 4294967296) (hn : n < 4294967296) (hm : m < 4294967296) : Calls Try.prog 5 #[.agg (hdC v A R t b n).toArray, .int .u32 (m : Int)] w fun e w' => e = .returned (.bool true) ∧ Hp w [] [] w' := by
 have hMX : MX = 4611686018427387904 := rfl
 have hK0 : K = 18446744073709551616 := rfl
 have hK40 : K4 = 115792089237316195423570985008687907853269984665640564039457584007913129639936 := rfl
 refine calls_G (args := [.agg (hdC v A R t b n).toArray, vw m]) Try.func5 rfl Try.ntmps5 rfl ?_
 intro Q0 hRet hNor hPan
 have H := Hp.start w
 refine G.sr fun K1 hK2 => ?_
 obtain ⟨p3, w4, r5, H6⟩ := H.box (P := Try.prog) 26 (hdC v A R t b n) (.agg (hdC v A R t b n).toArray) rfl
 refine GL.s 1 (r5) [(1, vw m), (2, pt p3 0)] ?_
 refine GL.r 2 1 [(1, vw m), (2, pt p3 0)] ?_
 refine GL.q hK2 ?_
 refine G.seqK fun K7 hK8 => ?_
 refine G.sr fun K9 hK10 => ?_
 refine GL.call (j := 1) (lives_calls w4) (by kernel_rfl) rfl (fun e_ w11 hR => ?_)
 obtain ⟨rfl, H13⟩ := hR
 have H12 : Hp w [] [.blk p3 (hdC v A R t b n) 26] w11 := H6.callNil H13
 refine ⟨_, rfl, [1, 2, 9], [(1, vw m), (2, pt p3 0), (9, .bool true)], by kernel_rfl, ?_⟩
 refine GL.r 2 1 [(1, vw m), (2, pt p3 0), (10, .bool false)] ?_
 refine GL.q hK10 ?_
 refine G.no rfl ?_
 refine G.skipK hK8 (fun _ _ h => h) ?_
 refine G.sr fun K14 hK15 => ?_
 refine GL.r 3 3 [(1, lw (Int.tmod (m : Int) 31)), (2, pt p3 0)] ?_
 have e16 : (Int.tmod (m : Int) 31) = ((m % 31 : Nat) : Int) := n_rem _ 31
 rw [e16]
 clear e16
 refine GL.q hK15 ?_
 refine G.sr fun K17 hK18 => ?_
 refine GL.s 1 (H12.ldA (o := 0) (ty := 26) (m := 68) (sub := hdC v A R t b n) 0 rfl (by kernel_rfl) (sub_whole (hdC_length hA hR)) (hdC_length hA hR)) [(1, vw (m % 31)), (2, pt p3 0), (14, .agg (hdC v A R t b n).toArray)] ?_
 refine GL.r 2 1 [(1, vw (m % 31)), (2, pt p3 0), (14, .agg (hdC v A R t b n).toArray), (15, vw (m % 31))] ?_
 refine GL.call (j := 3) (Mine_calls v A R t b n (m % 31) w11 hA hR (by omega) (by omega) (by omega) (by omega) (by omega)) (by kernel_rfl) rfl (fun e_ w21 hR => ?_)
 obtain ⟨v2, A2, R2, t2, b2, n2, ok2, rfl, H20, hA2, hR2, hv2, ht2, hb2, hn2, hmp⟩ := hR
 have H19 : Hp w [] [.blk p3 (hdC v A R t b n) 26] w21 := H12.callNil H20
 refine ⟨_, rfl, [1, 2, 16], [(1, vw (m % 31)), (2, pt p3 0), (16, .tuple #[.agg (hdC v2 A2 R2 t2 b2 n2).toArray, .bool ok2])], by kernel_rfl, ?_⟩
 refine GL.r 6 3 [(1, vw (m % 31)), (2, pt p3 0), (17, .agg (hdC v2 A2 R2 t2 b2 n2).toArray), (18, .bool ok2)] ?_
 obtain ⟨p22, w23, r24, H25⟩ := H19.alloc (P := Try.prog) 26 (hdC 0 (List.replicate 32 0) (List.replicate 32 0) 0 0 0) (by kernel_rfl)
 refine GL.s 7 (r24) [(1, vw (m % 31)), (2, pt p3 0), (5, pt p22 0), (17, .agg (hdC v2 A2 R2 t2 b2 n2).toArray), (18, .bool ok2)] ?_
 obtain ⟨w26, r27, H28⟩ := H25.stA (P := Try.prog) (o := 0) (vs := hdC v2 A2 R2 t2 b2 n2) (ty := 26) (m := 68) 1 rfl (by kernel_rfl) (hdC_length hA2 hR2) (by rw [Nat.zero_add, hdC_length rfl rfl]; exact Nat.le_refl _) hdC_one
 rw [st_whole (hdC_length rfl rfl)] at H28
 refine GL.u 8 r27 [(1, vw (m % 31)), (2, pt p3 0), (5, pt p22 0), (18, .bool ok2)] ?_
 refine GL.r 9 1 [(1, vw (m % 31)), (2, pt p3 0), (5, pt p22 0), (6, .bool ok2)] ?_
 refine GL.q hK18 ?_
 refine G.sr fun K29 hK30 => ?_
 refine GL.s 1 (H28.ldA (o := 0) (ty := 26) (m := 68) (sub := hdC v A R t b n) 0 rfl (by kernel_rfl) (sub_whole (hdC_length hA hR)) (hdC_length hA hR)) [(1, vw (m % 31)), (5, pt p22 0), (6, .bool ok2), (19, .agg (hdC v A R t b n).toArray)] ?_
 obtain ⟨p31, w32, r33, H34⟩ := H28.alloc (P := Try.prog) 26 (hdC 0 (List.replicate 32 0) (List.replicate 32 0) 0 0 0) (by kernel_rfl)
 refine GL.s 2 (r33) [(1, vw (m % 31)), (5, pt p22 0), (6, .bool ok2), (7, pt p31 0), (19, .agg (hdC v A R t b n).toArray)] ?_
 obtain ⟨w35, r36, H37⟩ := H34.stA (P := Try.prog) (o := 0) (vs := hdC v A R t b n) (ty := 26) (m := 68) 2 rfl (by kernel_rfl) (hdC_length hA hR) (by rw [Nat.zero_add, hdC_length rfl rfl]; exact Nat.le_refl _) hdC_one
 rw [st_whole (hdC_length rfl rfl)] at H37
 refine GL.u 3 r36 [(1, vw (m % 31)), (5, pt p22 0), (6, .bool ok2), (7, pt p31 0)] ?_
 refine GL.q hK30 ?_
 refine G.sr fun K38 hK39 => ?_
 refine GL.r 1 1 [(1, vw (m % 31)), (5, pt p22 0), (6, .bool ok2), (7, pt p31 0), (8, lw 0)] ?_
 refine GL.q hK39 ?_
 refine G.block ?_
 refine G.fit [1, 5, 6, 7, 8] (M' := [(1, vw (m % 31)), (5, pt p22 0), (6, .bool ok2), (7, pt p31 0), (8, lw 0)]) (by kernel_rfl) ?_
 refine G.loop (X := Nat) (fun i => [(1, vw (m % 31)), (5, pt p22 0), (6, .bool ok2), (7, pt p31 0), (8, vw i)]) (fun i w_ => (i ≤ m % 31 ∧ n + i < 4294967296 ∧ ∀ j, j < i → ¬ rmB v A R t b (n + j) = true) ∧ Hp w [] [.blk p3 (hdC v A R t b n) 26, .blk p22 (hdC v2 A2 R2 t2 b2 n2) 26, .blk p31 (hdC v A R t b (n + i)) 26] w_) (fun i => m % 31 - i) 0 [1, 5, 6, 7, 8] (by kernel_rfl) ⟨⟨Nat.zero_le _, by omega, fun j hj => absurd hj (Nat.not_lt_zero j)⟩, H37⟩ ?_
 rintro i w40 ⟨hi41, H42⟩
 refine G.eq (M' := [(1, vw (m % 31)), (5, pt p22 0), (6, .bool ok2), (7, pt p31 0), (8, vw i)]) rfl ?_
 obtain ⟨hkm, hnk, hno⟩ := hi41
 refine G.seqK fun K43 hK44 => ?_
 refine G.block ?_
 refine G.seqK fun K45 hK46 => ?_
 refine G.sr fun K47 hK48 => ?_
 refine GL.s 1 (H42.ldA (o := 0) (ty := 26) (m := 68) (sub := hdC v A R t b (n + i)) 2 rfl (by kernel_rfl) (sub_whole (hdC_length hA hR)) (hdC_length hA hR)) [(1, vw (m % 31)), (5, pt p22 0), (6, .bool ok2), (7, pt p31 0), (8, vw i), (22, .agg (hdC v A R t b (n + i)).toArray)] ?_
 refine GL.call (j := 2) (Ref_calls v A R t b (n + i) w40 hA hR (by omega) (by omega) (by omega) (by omega)) (by kernel_rfl) rfl (fun e_ w51 hR => ?_)
 obtain ⟨A49, c50, rfl, H53⟩ := hR
 have H52 : Hp w [] [.blk p3 (hdC v A R t b n) 26, .blk p22 (hdC v2 A2 R2 t2 b2 n2) 26, .blk p31 (hdC v A R t b (n + i)) 26, .row A49 80 c50 5 1 (by8 (hdB v A R t b (n + i)))] w51 := H42.callNew H53
 refine ⟨_, rfl, [1, 5, 6, 7, 8, 23], [(1, vw (m % 31)), (5, pt p22 0), (6, .bool ok2), (7, pt p31 0), (8, vw i), (23, .slice A49 80 c50)], by kernel_rfl, ?_⟩
 refine GL.call (j := 3) (RMeets_calls v A R t b (n + i) A49 c50 w51 hA hR (by omega) (by omega) (by omega) (by omega) (H52.rdRow 3 rfl) ((H52.rowLe 3 rfl).1)) (by kernel_rfl) rfl (fun e_ w54 hR => ?_)
 obtain ⟨rfl, H56⟩ := hR
 have H55 : Hp w [] [.blk p3 (hdC v A R t b n) 26, .blk p22 (hdC v2 A2 R2 t2 b2 n2) 26, .blk p31 (hdC v A R t b (n + i)) 26, .row A49 80 c50 5 1 (by8 (hdB v A R t b (n + i)))] w54 := H52.callNil H56
 refine ⟨_, rfl, [1, 5, 6, 7, 8, 24], [(1, vw (m % 31)), (5, pt p22 0), (6, .bool ok2), (7, pt p31 0), (8, vw i), (24, .bool (rmB v A R t b (n + i)))], by kernel_rfl, ?_⟩
 refine GL.q hK48 ?_
 cases hb57 : (rmB v A R t b (n + i))
 · skip
   have hme : rmB v A R t b (n + i) = false := hb57
   refine G.no rfl ?_
   refine G.skipK hK46 (fun _ _ h => h) ?_
   refine G.seqK fun K58 hK59 => ?_
   refine G.sr fun K60 hK61 => ?_
   refine GL.r 4 4 [(1, vw (m % 31)), (5, pt p22 0), (6, .bool ok2), (7, pt p31 0), (8, vw i), (41, .bool ((i : Int) == ((m % 31 : Nat) : Int)))] ?_
   cases hb62 : ((i : Int) == ((m % 31 : Nat) : Int))
   · skip
     have hb62f := ne_of_beq_false hb62
     refine GL.r 5 1 [(1, vw (m % 31)), (5, pt p22 0), (6, .bool ok2), (7, pt p31 0), (8, vw i), (41, .bool false), (42, pt p31 67)] ?_
     refine GL.s 6 (H55.ld (o := 67) (ty := 22) (v := vw (n + i)) 2 rfl (by kernel_rfl) (hdC_n hA hR)) [(1, vw (m % 31)), (5, pt p22 0), (6, .bool ok2), (7, pt p31 0), (8, vw i), (41, .bool false), (43, vw (n + i))] ?_
     refine GL.r 8 2 [(1, vw (m % 31)), (5, pt p22 0), (6, .bool ok2), (7, pt p31 0), (8, vw i), (45, .bool (((n + i : Nat) : Int) == 4294967295))] ?_
     refine GL.q hK61 ?_
     cases hb63 : (((n + i : Nat) : Int) == 4294967295)
     · skip
       have hb63f := ne_of_beq_false hb63
       refine G.no rfl ?_
       refine G.skipK hK59 (fun _ _ h => h) ?_
       refine G.region ?_
       refine GL.r 1 1 [(1, vw (m % 31)), (5, pt p22 0), (6, .bool ok2), (7, pt p31 0), (8, vw i), (53, pt p31 67)] ?_
       refine GL.s 2 (H55.ld (o := 67) (ty := 22) (v := vw (n + i)) 2 rfl (by kernel_rfl) (hdC_n hA hR)) [(1, vw (m % 31)), (5, pt p22 0), (6, .bool ok2), (7, pt p31 0), (8, vw i), (54, vw (n + i))] ?_
       refine GL.r 4 2 [(1, vw (m % 31)), (5, pt p22 0), (6, .bool ok2), (7, pt p31 0), (8, vw i), (55, lw (IntKind.u32.wrap (((n + i : Nat) : Int) + 1))), (56, pt p31 67)] ?_
       have e64 : (IntKind.u32.wrap (((n + i : Nat) : Int) + 1)) = (((n + (i + 1)) : Nat) : Int) := by rw [in_u32 (by omega)]; omega
       rw [e64]
       clear e64
       obtain ⟨w65, r66, H67⟩ := H55.st (P := Try.prog) (o := 67) (ty := 22) (v := vw (n + (i + 1))) 2 rfl (by kernel_rfl) (by rw [hdC_length hA hR]; decide) rfl
       rw [hdC_setn hA hR] at H67
       refine GL.u 5 r66 [(1, vw (m % 31)), (5, pt p22 0), (6, .bool ok2), (7, pt p31 0), (8, vw i)] ?_
       refine GL.q hK44 ?_
       refine G.region ?_
       refine GL.r 3 3 [(1, vw (m % 31)), (5, pt p22 0), (6, .bool ok2), (7, pt p31 0), (8, lw (IntKind.u32.wrap ((i : Int) + 1)))] ?_
       have e68 : (IntKind.u32.wrap ((i : Int) + 1)) = (((i + 1) : Nat) : Int) := by rw [in_u32 (by omega)]; omega
       rw [e68]
       clear e68
       have H69 : Hp w [] [.blk p3 (hdC v A R t b n) 26, .blk p22 (hdC v2 A2 R2 t2 b2 n2) 26, .blk p31 (hdC v A R t b (n + (i + 1))) 26] w65 := H67.sub (List.Sublist.cons_cons _ (List.Sublist.cons_cons _ (List.Sublist.cons_cons _ (List.Sublist.cons _ (List.Sublist.slnil)))))
       exact GL.again (i + 1) [1, 5, 6, 7, 8] rfl (by kernel_rfl) (by show m % 31 - (i + 1) < m % 31 - i; omega) ⟨⟨by omega, by omega, not_upto hno (by rw [hme]; decide)⟩, H69⟩
     · skip
       have hb63f := eq_of_beq hb63
       have hk3 : ok2 = false ∧ v2 = 0 ∧ A2 = List.replicate 32 0 ∧ R2 = List.replicate 32 0 ∧ t2 = 0 ∧ b2 = 0 ∧ n2 = 0 := by
         rcases hmp with ⟨g1, g2, g3, g4, g5, g6, g7, k, g8, g9, g10, g11, g12⟩ | ⟨g1, g2, g3, g4, g5, g6, g7, _⟩
         · exact absurd (rm_of g7 g11) (not_upto (f := fun j => rmB v A R t b (n + j) = true) hno (by rw [hme]; decide) k (by omega))
         · exact ⟨g1, g2, g3, g4, g5, g6, g7⟩
       refine G.yes rfl ?_
       refine G.sr fun K70 hK71 => ?_
       refine GL.r 3 3 [(5, pt p22 0), (48, .bool (!ok2))] ?_
       have hb72 : (!ok2) = true := by rw [show ok2 = false from hk3.1]; rfl
       rw [hb72]
       refine GL.s 4 (H55.ldA (o := 0) (ty := 26) (m := 68) (sub := hdC v2 A2 R2 t2 b2 n2) 1 rfl (by kernel_rfl) (sub_whole (hdC_length hA2 hR2)) (hdC_length hA2 hR2)) [(48, .bool true), (49, .agg (hdC v2 A2 R2 t2 b2 n2).toArray)] ?_
       refine GL.r 5 1 [(48, .bool true), (49, .agg (hdC v2 A2 R2 t2 b2 n2).toArray), (50, .agg (hdC 0 (List.replicate 32 0) (List.replicate 32 0) 0 0 0).toArray)] ?_
       refine GL.s 6 (run_hd_eql (x := (.tmp 49)) (y := (.tmp 50)) (v := v2) (A := A2) (R := R2) (t := t2) (b := b2) (n := n2) (v' := 0) (A' := (List.replicate 32 0)) (R' := (List.replicate 32 0)) (t' := 0) (b' := 0) (n' := 0) hA2 hR2 hv2 ht2 hb2 hn2 rfl rfl (by decide) (by decide) (by decide) (by decide) _) [(48, .bool true), (51, .bool (sameH v2 A2 R2 t2 b2 n2 0 (List.replicate 32 0) (List.replicate 32 0) 0 0 0))] ?_
       refine GL.r 8 2 [(4, .bool (sameH v2 A2 R2 t2 b2 n2 0 (List.replicate 32 0) (List.replicate 32 0) 0 0 0))] ?_
       refine GL.q hK71 ?_
       refine G.ret fun F_ hF_ hM_ => hRet _ _ (bodyPost_1 rfl (RV.tmp rfl) ?_ F_ hF_ hM_)
       have hb73 : (sameH v2 A2 R2 t2 b2 n2 0 (List.replicate 32 0) (List.replicate 32 0) 0 0 0) = true := decide_eq_true hk3.2
       rw [hb73]
       exact ⟨rfl, H55.sub (List.nil_sublist _)⟩
   · skip
     have hb62f := eq_of_beq hb62
     have hk3 : ok2 = false ∧ v2 = 0 ∧ A2 = List.replicate 32 0 ∧ R2 = List.replicate 32 0 ∧ t2 = 0 ∧ b2 = 0 ∧ n2 = 0 := by
       rcases hmp with ⟨g1, g2, g3, g4, g5, g6, g7, k, g8, g9, g10, g11, g12⟩ | ⟨g1, g2, g3, g4, g5, g6, g7, _⟩
       · exact absurd (rm_of g7 g11) (not_upto (f := fun j => rmB v A R t b (n + j) = true) hno (by rw [hme]; decide) k (by omega))
       · exact ⟨g1, g2, g3, g4, g5, g6, g7⟩
     refine GL.r 8 4 [(1, vw (m % 31)), (5, pt p22 0), (6, .bool ok2), (7, pt p31 0), (8, vw i), (45, .bool true)] ?_
     refine GL.q hK61 ?_
     refine G.yes rfl ?_
     refine G.sr fun K74 hK75 => ?_
     refine GL.r 3 3 [(5, pt p22 0), (48, .bool (!ok2))] ?_
     have hb76 : (!ok2) = true := by rw [show ok2 = false from hk3.1]; rfl
     rw [hb76]
     refine GL.s 4 (H55.ldA (o := 0) (ty := 26) (m := 68) (sub := hdC v2 A2 R2 t2 b2 n2) 1 rfl (by kernel_rfl) (sub_whole (hdC_length hA2 hR2)) (hdC_length hA2 hR2)) [(48, .bool true), (49, .agg (hdC v2 A2 R2 t2 b2 n2).toArray)] ?_
     refine GL.r 5 1 [(48, .bool true), (49, .agg (hdC v2 A2 R2 t2 b2 n2).toArray), (50, .agg (hdC 0 (List.replicate 32 0) (List.replicate 32 0) 0 0 0).toArray)] ?_
     refine GL.s 6 (run_hd_eql (x := (.tmp 49)) (y := (.tmp 50)) (v := v2) (A := A2) (R := R2) (t := t2) (b := b2) (n := n2) (v' := 0) (A' := (List.replicate 32 0)) (R' := (List.replicate 32 0)) (t' := 0) (b' := 0) (n' := 0) hA2 hR2 hv2 ht2 hb2 hn2 rfl rfl (by decide) (by decide) (by decide) (by decide) _) [(48, .bool true), (51, .bool (sameH v2 A2 R2 t2 b2 n2 0 (List.replicate 32 0) (List.replicate 32 0) 0 0 0))] ?_
     refine GL.r 8 2 [(4, .bool (sameH v2 A2 R2 t2 b2 n2 0 (List.replicate 32 0) (List.replicate 32 0) 0 0 0))] ?_
     refine GL.q hK75 ?_
     refine G.ret fun F_ hF_ hM_ => hRet _ _ (bodyPost_1 rfl (RV.tmp rfl) ?_ F_ hF_ hM_)
     have hb77 : (sameH v2 A2 R2 t2 b2 n2 0 (List.replicate 32 0) (List.replicate 32 0) 0 0 0) = true := decide_eq_true hk3.2
     rw [hb77]
     exact ⟨rfl, H55.sub (List.nil_sublist _)⟩
 · skip
   have hme : rmB v A R t b (n + i) = true := hb57
   have hk2 : ok2 = true ∧ v2 = v ∧ A2 = A ∧ R2 = R ∧ t2 = t ∧ b2 = b ∧ n2 = n + i := by
     rcases hmp with ⟨g1, g2, g3, g4, g5, g6, g7, k, g8, g9, g10, g11, g12⟩ | ⟨_, _, _, _, _, _, _, g | g⟩
     · have e1 : ¬ i < k := fun h_ => g12 i h_ (rm_true hme).2
       have e2 : ¬ k < i := fun h_ => hno k h_ (rm_of g7 g11)
       obtain rfl : k = i := by omega
       exact ⟨g1, g2, g3, g4, g5, g6, g8⟩
     · exact absurd (rm_true hme).1 g
     · exact absurd (rm_true hme).2 (g i hkm hnk)
   refine G.yes rfl ?_
   refine G.seqK fun K78 hK79 => ?_
   refine G.heldP (Hp w [] [.blk p3 (hdC v A R t b n) 26, .blk p22 (hdC v2 A2 R2 t2 b2 n2) 26, .blk p31 (hdC v A R t b (n + i)) 26, .row A49 80 c50 5 1 (by8 (hdB v A R t b (n + i)))]) (by kernel_rfl) (by kernel_rfl) (fun c_ a_ d_ v_ w_ h_ => hPan c_ a_ d_ v_ w_ h_) ?_
   have H80 := H55.drew
   generalize ({ w54 with drawn := w54.drawn + 1 } : World) = w81 at H80 ⊢
   have hS82 : Hp w [] [.blk p3 (hdC v A R t b n) 26, .blk p22 (hdC v2 A2 R2 t2 b2 n2) 26, .blk p31 (hdC v A R t b (n + i)) 26, .row A49 80 c50 5 1 (by8 (hdB v A R t b (n + i)))] w81 := H80.sub (List.Sublist.cons_cons _ (List.Sublist.cons_cons _ (List.Sublist.cons_cons _ (List.Sublist.cons_cons _ (List.Sublist.slnil)))))
   refine GP.r [0, 1] [(5, pt p22 0), (7, pt p31 0), (26, .bool ok2)] [0, 1] hS82 ?_
   have hb83 : ok2 = true := hk2.1
   rw [hb83]
   refine GP.s 2 (fun w_ H_ => H_.ldA (o := 0) (ty := 26) (m := 68) (sub := hdC v2 A2 R2 t2 b2 n2) 1 rfl (by kernel_rfl) (sub_whole (hdC_length hA2 hR2)) (hdC_length hA2 hR2)) [(5, pt p22 0), (7, pt p31 0), (26, .bool true), (27, .agg (hdC v2 A2 R2 t2 b2 n2).toArray)] hS82 ?_
   refine GP.s 3 (fun w_ H_ => H_.ldA (o := 0) (ty := 26) (m := 68) (sub := hdC v A R t b (n + i)) 2 rfl (by kernel_rfl) (sub_whole (hdC_length hA hR)) (hdC_length hA hR)) [(5, pt p22 0), (26, .bool true), (27, .agg (hdC v2 A2 R2 t2 b2 n2).toArray), (28, .agg (hdC v A R t b (n + i)).toArray)] hS82 ?_
   refine GP.s 4 (fun w_ H_ => run_hd_eql (x := (.tmp 27)) (y := (.tmp 28)) (v := v2) (A := A2) (R := R2) (t := t2) (b := b2) (n := n2) (v' := v) (A' := A) (R' := R) (t' := t) (b' := b) (n' := (n + i)) hA2 hR2 hv2 ht2 hb2 hn2 hA hR (by omega) (by omega) (by omega) (by omega) _) [(5, pt p22 0), (26, .bool true), (29, .bool (sameH v2 A2 R2 t2 b2 n2 v A R t b (n + i)))] hS82 ?_
   refine GP.r [5, 6] [(5, pt p22 0), (31, .bool (sameH v2 A2 R2 t2 b2 n2 v A R t b (n + i)))] [0, 1, 2, 3, 4, 5, 6] hS82 ?_
   have hb84 : (sameH v2 A2 R2 t2 b2 n2 v A R t b (n + i)) = true := decide_eq_true hk2.2
   rw [hb84]
   refine GP.s 7 (fun w_ H_ => H_.ldA (o := 0) (ty := 26) (m := 68) (sub := hdC v2 A2 R2 t2 b2 n2) 1 rfl (by kernel_rfl) (sub_whole (hdC_length hA2 hR2)) (hdC_length hA2 hR2)) [(31, .bool true), (32, .agg (hdC v2 A2 R2 t2 b2 n2).toArray)] hS82 ?_
   refine GP.r [8] [(31, .bool true), (32, .agg (hdC v2 A2 R2 t2 b2 n2).toArray), (33, .agg #[lu 0, lu 0, lu 0, lu 0])] [0, 1, 2, 3, 4, 5, 6, 7, 8] hS82 ?_
   refine GP.call 9 (Not_calls 0 (by decide) w81) (by kernel_rfl) (by kernel_rfl) (fun e_ w85 hR => ?_)
   obtain ⟨he_, H87⟩ := hR
   obtain ⟨n88, hn89⟩ : ∃ v : Nat, v = K4 - 1 - 0 := ⟨_, rfl⟩
   rw [← hn89] at he_
   have n88l : n88 < K4 := by rw [hn89]; exact by simp only [K4]; omega
   subst he_
   have H86 : Hp w [] [.blk p3 (hdC v A R t b n) 26, .blk p22 (hdC v2 A2 R2 t2 b2 n2) 26, .blk p31 (hdC v A R t b (n + i)) 26, .row A49 80 c50 5 1 (by8 (hdB v A R t b (n + i)))] w85 := H80.callNil H87
   have hS90 : Hp w [] [.blk p3 (hdC v A R t b n) 26, .blk p22 (hdC v2 A2 R2 t2 b2 n2) 26, .blk p31 (hdC v A R t b (n + i)) 26, .row A49 80 c50 5 1 (by8 (hdB v A R t b (n + i)))] w85 := H86.sub (List.Sublist.cons_cons _ (List.Sublist.cons_cons _ (List.Sublist.cons_cons _ (List.Sublist.cons_cons _ (List.Sublist.slnil)))))
   refine ⟨_, rfl, hS90, [31, 32, 34], [(31, .bool true), (32, .agg (hdC v2 A2 R2 t2 b2 n2).toArray), (34, wv n88)], by kernel_rfl, ?_⟩
   refine GP.call 10 (HCheck_calls v2 A2 R2 t2 b2 n2 n88 w85 hA2 hR2 hv2 ht2 hb2 hn2 n88l) (by kernel_rfl) (by kernel_rfl) (fun e_ w91 hR => ?_)
   obtain ⟨rfl, H93⟩ := hR
   have H92 : Hp w [] [.blk p3 (hdC v A R t b n) 26, .blk p22 (hdC v2 A2 R2 t2 b2 n2) 26, .blk p31 (hdC v A R t b (n + i)) 26, .row A49 80 c50 5 1 (by8 (hdB v A R t b (n + i)))] w91 := H86.callNil H93
   have hS94 : Hp w [] [.blk p3 (hdC v A R t b n) 26, .blk p22 (hdC v2 A2 R2 t2 b2 n2) 26, .blk p31 (hdC v A R t b (n + i)) 26, .row A49 80 c50 5 1 (by8 (hdB v A R t b (n + i)))] w91 := H92.sub (List.Sublist.cons_cons _ (List.Sublist.cons_cons _ (List.Sublist.cons_cons _ (List.Sublist.cons_cons _ (List.Sublist.slnil)))))
   refine ⟨_, rfl, hS94, [31, 35], [(31, .bool true), (35, vi (chkW v2 A2 R2 t2 b2 n2 n88))], by kernel_rfl, ?_⟩
   refine GP.r [11, 12, 13] [(4, .bool ((((chkW v2 A2 R2 t2 b2 n2 n88) : Nat) : Int) == 0))] [0, 1, 2, 3, 4, 5, 6, 7, 8, 9, 10, 11, 12, 13] hS94 ?_
   refine GP.k (by kernel_rfl) hK79 (fun _ _ h => h) ?_
   refine G.ret fun F_ hF_ hM_ => hRet _ _ (bodyPost_1 rfl (RV.tmp rfl) ?_ F_ hF_ hM_)
   have hb95 : ((((chkW v2 A2 R2 t2 b2 n2 n88) : Nat) : Int) == 0) = true := by obtain ⟨_, g2, g3, g4, g5, g6, g7⟩ := hk2; subst g2 g3 g4 g5 g6 g7; have h_ := rm_true hme; have hd_ := decR_lt b2; rw [show chkW _ _ _ _ _ _ _ = 0 from by unfold chkW; rw [if_neg (by simp only [K4] at *; omega), if_pos h_.2]]; rfl
   rw [hb95]
   exact ⟨rfl, H92.sub (List.nil_sublist _)⟩
end Go.Proofs.Ytdepaaphgfapjaa
namespace Go.Proofs.Ytdepaaphgfapjaa
open Go.ChangeShapes Go.WideShapes Go.ChangeAt Go.RowKit
open Go.ChangeMaps (open_string shut_string)
set_option linter.unusedVariables false
theorem headerMines_own : ownKnob Try.prog.godebug = none := by kernel_rfl
theorem headerMines_laidOut : laidOutB Try.prog = true := by kernel_rfl
set_option maxRecDepth 100000 in
theorem headerMines_lifted (os : Os) (started : os.Started) (H : Type) (enc : TypeId × Value → H) :
   ReturnsInHanded {} Try.checked os 5 .any (Rows.headerMinesSpec.pre6 enc Try.prog Try.f5 Rows.headerMinesRow.domain false) (Rows.headerMinesSpec.post enc Try.prog Try.f5 false true false false) := by
 refine returnsInHanded_of_change (C := Try.checked) headerMines_own started (by kernel_rfl) Try.func5
   (ChangeSpec.witness6 (enc := enc) (C := Try.checked) false ⟨#[], #[.agg #[.int .u32 0, .int .u8 0, .int .u8 0, .int .u8 0, .int .u8 0, .int .u8 0, .int .u8 0, .int .u8 0, .int .u8 0, .int .u8 0, .int .u8 0, .int .u8 0, .int .u8 0, .int .u8 0, .int .u8 0, .int .u8 0, .int .u8 0, .int .u8 0, .int .u8 0, .int .u8 0, .int .u8 0, .int .u8 0, .int .u8 0, .int .u8 0, .int .u8 0, .int .u8 0, .int .u8 0, .int .u8 0, .int .u8 0, .int .u8 0, .int .u8 0, .int .u8 0, .int .u8 0, .int .u8 0, .int .u8 0, .int .u8 0, .int .u8 0, .int .u8 0, .int .u8 0, .int .u8 0, .int .u8 0, .int .u8 0, .int .u8 0, .int .u8 0, .int .u8 0, .int .u8 0, .int .u8 0, .int .u8 0, .int .u8 0, .int .u8 0, .int .u8 0, .int .u8 0, .int .u8 0, .int .u8 0, .int .u8 0, .int .u8 0, .int .u8 0, .int .u8 0, .int .u8 0, .int .u8 0, .int .u8 0, .int .u8 0, .int .u8 0, .int .u8 0, .int .u8 0, .int .u32 0, .int .u32 0, .int .u32 0], .int .u32 0], []⟩ 12 (by kernel_rfl) (by kernel_rfl) (by kernel_rfl) (by kernel_rfl)) ?_
 intro W base args ds gs before hval0 hW hcnd _
 have hval : ∀ (j : Nat) t v, Try.f5.params[j]? = some t → args[j]? = some v → Value.okWide Try.prog W .any base t v := hval0
 have hW' := hW
 obtain ⟨p, q, hA0, hV, rfl, hfz, hnd⟩ := hW
 have hA : DataW.TrodAll enc Try.prog W 0 (fun _ => true) true Try.f5.params.toList args.toList ds p := hA0
 rw [Try.params5] at hA hval
 obtain ⟨v0, vs0, d0, ds0, p0, q0, hargs, rfl, rfl, h0, r0⟩ := trodAll_cons hA
 obtain ⟨v1, vs1, d1, ds1, p1, q1, rfl, rfl, rfl, h1, r1⟩ := trodAll_cons r0
 obtain ⟨rfl, rfl, rfl⟩ := trodAll_nil r1
 obtain rfl : args = #[v0, v1] := by cases args; simp_all
 obtain ⟨rfl, rfl⟩ := trodVars_none hV
 have k0 := h0
 have lt0 : ∀ x ∈ p0, x.block < W.heap.size := by obtain ⟨m, hm⟩ := k0; exact DataW.trod_lt m _ _ _ hm
 have k1 := h1
 have lt1 : ∀ x ∈ p1, x.block < W.heap.size := by obtain ⟨m, hm⟩ := k1; exact DataW.trod_lt m _ _ _ hm
 obtain ⟨cs0, rfl, hl0⟩ := open_agg (by kernel_rfl) (show Try.prog.cellsOf 26 = 68 by kernel_rfl) (hval 0 26 _ rfl rfl)
 obtain ⟨fu0, hf0⟩ := h0
 have lv0 := open_leaves 2 (by rw [List.toList_toArray] at *; exact hl0.trans (show Try.prog.cellsOf 26 = 68 by kernel_rfl).symm) (by kernel_rfl) hf0 (ls := [(0, 22), (1, 5), (2, 5), (3, 5), (4, 5), (5, 5), (6, 5), (7, 5), (8, 5), (9, 5), (10, 5), (11, 5), (12, 5), (13, 5), (14, 5), (15, 5), (16, 5), (17, 5), (18, 5), (19, 5), (20, 5), (21, 5), (22, 5), (23, 5), (24, 5), (25, 5), (26, 5), (27, 5), (28, 5), (29, 5), (30, 5), (31, 5), (32, 5), (33, 5), (34, 5), (35, 5), (36, 5), (37, 5), (38, 5), (39, 5), (40, 5), (41, 5), (42, 5), (43, 5), (44, 5), (45, 5), (46, 5), (47, 5), (48, 5), (49, 5), (50, 5), (51, 5), (52, 5), (53, 5), (54, 5), (55, 5), (56, 5), (57, 5), (58, 5), (59, 5), (60, 5), (61, 5), (62, 5), (63, 5), (64, 5), (65, 22), (66, 22), (67, 22)]) (by kernel_rfl)
 obtain ⟨v_0, g0_0, hv_0⟩ := (lv0 (0, 22) (by simp)).u32 Try.underlying22
 obtain ⟨t_0, g65_0, ht_0⟩ := (lv0 (65, 22) (by simp)).u32 Try.underlying22
 obtain ⟨b_0, g66_0, hb_0⟩ := (lv0 (66, 22) (by simp)).u32 Try.underlying22
 obtain ⟨n_0, g67_0, hn_0⟩ := (lv0 (67, 22) (by simp)).u32 Try.underlying22
 obtain ⟨f_0, hf_0⟩ := u8s_fun (cs := _) 1 32 (fun i hi => (lv0 (1 + i, 5) (by first | (simp; omega) | (revert i; decide))).u8 Try.underlying5)
 obtain ⟨g_0, hg_0⟩ := u8s_fun (cs := _) 33 32 (fun i hi => (lv0 (33 + i, 5) (by first | (simp; omega) | (revert i; decide))).u8 Try.underlying5)
 obtain rfl := open_head hl0 g0_0 hf_0 hg_0 g65_0 g66_0 g67_0
 obtain ⟨m1, rfl, wf1⟩ := open_int' Try.underlying22 (hval 1 22 _ rfl rfl) h1
 obtain ⟨n1, rfl, hn1⟩ := u32_nat wf1
 clear hA0 hval0
 refine (HeaderMines_calls v_0 ((List.range 32).map f_0) ((List.range 32).map g_0) t_0 b_0 n_0 n1 W (by simp) (by simp) hv_0 ht_0 hb_0 hn_0 hn1).mono fun e W' ⟨he, hh⟩ => ?_
 have bel := hh.below
 subst he
 exact ⟨_, rfl, _, _, _, [], _, [], hW', trodAll_mk1 (shut_bool Try.underlying4 _), (trodAll_cons_mk (Below.trod headerMines_laidOut (by kernel_rfl) (of_decide_eq_true (by kernel_rfl)) k0 bel lt0) (trodAll_cons_mk (Below.trod headerMines_laidOut (by kernel_rfl) (of_decide_eq_true (by kernel_rfl)) k1 bel lt1) trodAll_mk0)), rfl, bel.frame _, fun h => by cases h⟩
theorem headerMines_over : Rows.headerMinesRow.holds Try.pinned (OpenSpec.ofChange Rows.headerMinesSpec) :=
 OpenClaim.holds_of_wide 5 Try.f5 rfl rfl rfl rfl rfl rfl rfl ⟨rfl, rfl, rfl, rfl, rfl⟩ rfl rfl rfl rfl rfl (by kernel_rfl) Try.func5 (by kernel_rfl)
   (of_decide_eq_true (by kernel_rfl)) (by unfold Func.isWrapper; first | (rw [if_pos (by decide +kernel)]; kernel_rfl) | (rw [if_neg (by decide +kernel)]; exact ⟨rfl, rfl⟩))
   (fun os started H enc _ => headerMines_lifted os started H enc)
theorem headerMines_proved : Rows.HeaderMinesSaid := headerMines_over
end Go.Proofs.Ytdepaaphgfapjaa
