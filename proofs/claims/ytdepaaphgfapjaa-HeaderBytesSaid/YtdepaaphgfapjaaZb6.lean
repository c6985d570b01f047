/- HeaderBytes: the row. -/
import Derived.Test.YtdepaaphgfapjaaZb5
set_option linter.unusedVariables false
namespace Go.Proofs.Ytdepaaphgfapjaa
open Go.RowKit
theorem ph_of {v t b n : Nat} {A R : List UInt8} (hA : A.length = 32) (hR : R.length = 32) (hv : v < 4294967296) (ht : t < 4294967296) (hb : b < 4294967296) (hn : n < 4294967296) :
    phV (hdB v A R t b n) = v ∧ phA (hdB v A R t b n) = A ∧ phR (hdB v A R t b n) = R ∧ phT (hdB v A R t b n) = t ∧ phB (hdB v A R t b n) = b ∧ phN (hdB v A R t b n) = n ∧ phE (hdB v A R t b n) = 0 := by
  have hl : (hdB v A R t b n).length = 80 := hdB_length hA hR
  have e : hdB v A R t b n = putB v 4 ++ (A ++ (R ++ (putB t 4 ++ (putB b 4 ++ putB n 4)))) := by simp [hdB]
  have g : ∀ x, x < 4294967296 → getB (putB x 4) = x := fun x hx => by rw [getB_put]; exact Nat.mod_eq_of_lt hx
  have d4 : (hdB v A R t b n).drop 4 = A ++ (R ++ (putB t 4 ++ (putB b 4 ++ putB n 4))) := by rw [e]; exact List.drop_left' (putB_length 4 v)
  have d36 : (hdB v A R t b n).drop 36 = R ++ (putB t 4 ++ (putB b 4 ++ putB n 4)) := by rw [show 36 = 4 + 32 from rfl, ← List.drop_drop, d4]; exact List.drop_left' hA
  have d68 : (hdB v A R t b n).drop 68 = putB t 4 ++ (putB b 4 ++ putB n 4) := by rw [show 68 = 36 + 32 from rfl, ← List.drop_drop, d36]; exact List.drop_left' hR
  have d72 : (hdB v A R t b n).drop 72 = putB b 4 ++ putB n 4 := by rw [show 72 = 68 + 4 from rfl, ← List.drop_drop, d68]; exact List.drop_left' (putB_length 4 t)
  have d76 : (hdB v A R t b n).drop 76 = putB n 4 := by rw [show 76 = 72 + 4 from rfl, ← List.drop_drop, d72]; exact List.drop_left' (putB_length 4 b)
  unfold phV phA phR phT phB phN phE
  simp only [if_pos hl]
  refine ⟨?_, ?_, ?_, ?_, ?_, ?_, trivial⟩
  · rw [e, List.take_left' (putB_length 4 v), g v hv]
  · rw [d4, List.take_left' hA]
  · rw [d36, List.take_left' hR]
  · rw [d68, List.take_left' (putB_length 4 t), g t ht]
  · rw [d72, List.take_left' (putB_length 4 b), g b hb]
  · rw [d76, List.take_of_length_le (by rw [putB_length]; omega), g n hn]
theorem of_ph {x : List UInt8} (h : x.length = 80) : hdB (phV x) (phA x) (phR x) (phT x) (phB x) (phN x) = x := by
  have p4 : ∀ l : List UInt8, 4 ≤ l.length → putB (getB (l.take 4)) 4 = l.take 4 := fun l hl => by
    have := putB_get (l.take 4)
    rwa [show (l.take 4).length = 4 by simp; omega] at this
  unfold phV phA phR phT phB phN
  simp only [if_pos h]
  unfold hdB
  rw [p4 x (by omega), p4 (x.drop 68) (by simp; omega), p4 (x.drop 72) (by simp; omega), p4 (x.drop 76) (by simp; omega), List.append_assoc, List.append_assoc, List.append_assoc, List.append_assoc]
  have st : ∀ k m, (x.drop k).take m ++ x.drop (k + m) = x.drop k := fun k m => by rw [← List.drop_drop]; exact List.take_append_drop _ _
  rw [List.take_of_length_le (l := x.drop 76) (by simp; omega), st 72 4, st 68 4, st 36 32, st 4 32, List.take_append_drop]
theorem HeaderBytes_calls (v : Nat) (A R : List UInt8) (t b n : Nat) (B : Option Addr) (bs : List UInt8) (bc : Nat) (w : World) (hA : A.length = 32) (hR : R.length = 32) (hv : v < 4294967296) (ht : t < 4294967296) (hb : b < 4294967296) (hn : n < 4294967296) (hB : RdS w B (by8 bs)) : Calls Try.prog 6 #[.agg (hdC v A R t b n).toArray, .slice B bs.length bc] w fun e w' => e = .returned (.bool true) ∧ Hp w [] [] w' := by
  have hpo := ph_of hA hR hv ht hb hn
  refine calls_G (args := [.agg (hdC v A R t b n).toArray, .slice B bs.length bc]) Try.func6 rfl Try.ntmps6 rfl ?_
  intro Q0 hRet hNor hPan
  have H := Hp.start w
  have H : Hp w [] [] w := H
  refine G.seqK fun K1 hK2 => ?_
  refine G.region ?_
  obtain ⟨p3, w4, r5, H6⟩ := H.box (P := Try.prog) 26 (hdC v A R t b n) (.agg (hdC v A R t b n).toArray) rfl
  have H6 : Hp w [] [.blk p3 (hdC v A R t b n) 26] w4 := H6
  refine GL.sem (j := 1) (r5) [1, 2] [(1, .slice B bs.length bc), (2, pt p3 0)] (by kernel_rfl) (by kernel_rfl) rfl ?_
  refine GL.run (j := 2) 1 [1, 2] [(1, .slice B bs.length bc), (2, pt p3 0)] (by kernel_rfl) rfl ?_
  refine GL.k rfl hK2 (fun _ _ h => h) ?_
  refine G.seqK fun K7 hK8 => ?_
  refine G.seqK fun K9 hK10 => ?_
  refine G.region ?_
  refine GL.call (j := 1) (lives_calls w4) (by kernel_rfl) rfl (fun e_ w11 hR => ?_)
  obtain ⟨rfl, H13⟩ := hR
  have H12 : Hp w [] [.blk p3 (hdC v A R t b n) 26] w11 := H6.callNil H13
  refine ⟨_, rfl, [1, 2, 10], [(1, .slice B bs.length bc), (2, pt p3 0), (10, .bool true)], by kernel_rfl, ?_⟩
  refine GL.run (j := 7) 6 [1, 2, 16] [(1, .slice B bs.length bc), (2, pt p3 0), (16, .bool (decide (200 < (bs.length : Int))))] (by kernel_rfl) rfl ?_
  refine GL.k rfl hK10 (fun _ _ h => h) ?_
  cases hb14 : (decide (200 < (bs.length : Int)))
  · skip
    have hb14f := of_decide_eq_false hb14
    refine G.no rfl ?_
    refine G.skipK hK8 (fun _ _ h => h) ?_
    refine G.seqK fun K15 hK16 => ?_
    refine G.region ?_
    refine GL.sem (j := 1) (H12.ldA (o := 0) (ty := 26) (m := 68) (sub := hdC v A R t b n) 0 rfl (by kernel_rfl) (sub_whole (hdC_length hA hR)) (hdC_length hA hR)) [1, 2, 18] [(1, .slice B bs.length bc), (2, pt p3 0), (18, .agg (hdC v A R t b n).toArray)] (by kernel_rfl) (by kernel_rfl) rfl ?_
    refine GL.call (j := 2) (Ref_calls v A R t b n w11 hA hR (by omega) (by omega) (by omega) (by omega)) (by kernel_rfl) rfl (fun e_ w19 hR => ?_)
    obtain ⟨A17, c18, rfl, H21⟩ := hR
    have H20 : Hp w [] [.blk p3 (hdC v A R t b n) 26, .row A17 80 c18 5 1 (by8 (hdB v A R t b n))] w19 := H12.callNew H21
    refine ⟨_, rfl, [1, 2, 19], [(1, .slice B bs.length bc), (2, pt p3 0), (19, .slice A17 80 c18)], by kernel_rfl, ?_⟩
    refine GL.run (j := 3) 1 [1, 2, 5] [(1, .slice B bs.length bc), (2, pt p3 0), (5, .slice A17 80 c18)] (by kernel_rfl) rfl ?_
    refine GL.k rfl hK16 (fun _ _ h => h) ?_
    refine G.seqK fun K22 hK23 => ?_
    refine G.region ?_
    refine GL.sem (j := 1) (H20.ldA (o := 0) (ty := 26) (m := 68) (sub := hdC v A R t b n) 0 rfl (by kernel_rfl) (sub_whole (hdC_length hA hR)) (hdC_length hA hR)) [1, 2, 5, 21] [(1, .slice B bs.length bc), (2, pt p3 0), (5, .slice A17 80 c18), (21, .agg (hdC v A R t b n).toArray)] (by kernel_rfl) (by kernel_rfl) rfl ?_
    refine GL.call (j := 2) (HBytes_calls v A R t b n w19 hA hR (by omega) (by omega) (by omega) (by omega)) (by kernel_rfl) rfl (fun e_ w26 hR => ?_)
    obtain ⟨A24, c25, rfl, H28⟩ := hR
    have H27 : Hp w [] [.blk p3 (hdC v A R t b n) 26, .row A17 80 c18 5 1 (by8 (hdB v A R t b n)), .row A24 80 c25 5 1 (by8 (hdB v A R t b n))] w26 := H20.callNew H28
    refine ⟨_, rfl, [1, 2, 5, 22], [(1, .slice B bs.length bc), (2, pt p3 0), (5, .slice A17 80 c18), (22, .slice A24 80 c25)], by kernel_rfl, ?_⟩
    refine GL.call (j := 3) (HParse_calls (hdB v A R t b n) A24 80 c25 w26 (H27.rdRow 2 rfl) ((hdB_length hA hR).symm) (by rw [hdB_length hA hR]; decide)) (by kernel_rfl) rfl (fun e_ w29 hR => ?_)
    obtain ⟨rfl, H31⟩ := hR
    have H30 : Hp w [] [.blk p3 (hdC v A R t b n) 26, .row A17 80 c18 5 1 (by8 (hdB v A R t b n)), .row A24 80 c25 5 1 (by8 (hdB v A R t b n))] w29 := H27.callNil H31
    refine ⟨_, rfl, [1, 2, 5, 23], [(1, .slice B bs.length bc), (2, pt p3 0), (5, .slice A17 80 c18), (23, .tuple #[.agg (hdC (phV (hdB v A R t b n)) (phA (hdB v A R t b n)) (phR (hdB v A R t b n)) (phT (hdB v A R t b n)) (phB (hdB v A R t b n)) (phN (hdB v A R t b n))).toArray, .int .i64 (((phE (hdB v A R t b n)) : Nat) : Int)])], by kernel_rfl, ?_⟩
    refine GL.run (j := 6) 3 [1, 2, 5, 24, 25] [(1, .slice B bs.length bc), (2, pt p3 0), (5, .slice A17 80 c18), (24, .agg (hdC (phV (hdB v A R t b n)) (phA (hdB v A R t b n)) (phR (hdB v A R t b n)) (phT (hdB v A R t b n)) (phB (hdB v A R t b n)) (phN (hdB v A R t b n))).toArray), (25, .int .i64 (((phE (hdB v A R t b n)) : Nat) : Int))] (by kernel_rfl) rfl ?_
    obtain ⟨p32, w33, r34, H35⟩ := H30.alloc (P := Try.prog) 26 (hdC 0 (List.replicate 32 0) (List.replicate 32 0) 0 0 0) (by kernel_rfl)
    have H35 : Hp w [] [.blk p3 (hdC v A R t b n) 26, .row A17 80 c18 5 1 (by8 (hdB v A R t b n)), .row A24 80 c25 5 1 (by8 (hdB v A R t b n)), .blk p32 (hdC 0 (List.replicate 32 0) (List.replicate 32 0) 0 0 0) 26] w33 := H35
    refine GL.sem (j := 7) (r34) [1, 2, 5, 6, 24, 25] [(1, .slice B bs.length bc), (2, pt p3 0), (5, .slice A17 80 c18), (6, pt p32 0), (24, .agg (hdC (phV (hdB v A R t b n)) (phA (hdB v A R t b n)) (phR (hdB v A R t b n)) (phT (hdB v A R t b n)) (phB (hdB v A R t b n)) (phN (hdB v A R t b n))).toArray), (25, .int .i64 (((phE (hdB v A R t b n)) : Nat) : Int))] (by kernel_rfl) (by kernel_rfl) rfl ?_
    obtain ⟨w36, r37, H38⟩ := H35.stA (P := Try.prog) (o := 0) (vs := hdC (phV (hdB v A R t b n)) (phA (hdB v A R t b n)) (phR (hdB v A R t b n)) (phT (hdB v A R t b n)) (phB (hdB v A R t b n)) (phN (hdB v A R t b n))) (ty := 26) (m := 68) 3 rfl (by kernel_rfl) (hdC_length (phA_length _) (phR_length _)) (by rw [Nat.zero_add, hdC_length rfl rfl]; exact Nat.le_refl _) hdC_one
    rw [st_whole (hdC_length rfl rfl)] at H38
    have H38 : Hp w [] [.blk p3 (hdC v A R t b n) 26, .row A17 80 c18 5 1 (by8 (hdB v A R t b n)), .row A24 80 c25 5 1 (by8 (hdB v A R t b n)), .blk p32 (hdC (phV (hdB v A R t b n)) (phA (hdB v A R t b n)) (phR (hdB v A R t b n)) (phT (hdB v A R t b n)) (phB (hdB v A R t b n)) (phN (hdB v A R t b n))) 26] w36 := H38
    refine GL.semU (j := 8) r37 [1, 2, 5, 6, 25] [(1, .slice B bs.length bc), (2, pt p3 0), (5, .slice A17 80 c18), (6, pt p32 0), (25, .int .i64 (((phE (hdB v A R t b n)) : Nat) : Int))] (by kernel_rfl) rfl rfl rfl ?_
    refine GL.run (j := 9) 1 [1, 2, 5, 6, 7] [(1, .slice B bs.length bc), (2, pt p3 0), (5, .slice A17 80 c18), (6, pt p32 0), (7, .int .i64 (((phE (hdB v A R t b n)) : Nat) : Int))] (by kernel_rfl) rfl ?_
    refine GL.k rfl hK23 (fun _ _ h => h) ?_
    refine G.seqK fun K39 hK40 => ?_
    refine G.seqK fun K41 hK42 => ?_
    refine G.heldP (Hp w [] [.blk p3 (hdC v A R t b n) 26, .row A17 80 c18 5 1 (by8 (hdB v A R t b n)), .row A24 80 c25 5 1 (by8 (hdB v A R t b n)), .blk p32 (hdC (phV (hdB v A R t b n)) (phA (hdB v A R t b n)) (phR (hdB v A R t b n)) (phT (hdB v A R t b n)) (phB (hdB v A R t b n)) (phN (hdB v A R t b n))) 26]) (by kernel_rfl) (by kernel_rfl) (fun c_ a_ d_ v_ w_ h_ => hPan c_ a_ d_ v_ w_ h_) ?_
    have H43 := H38.drew
    generalize ({ w36 with drawn := w36.drawn + 1 } : World) = w44 at H43 ⊢
    have hS45 : Hp w [] [.blk p3 (hdC v A R t b n) 26, .row A17 80 c18 5 1 (by8 (hdB v A R t b n)), .row A24 80 c25 5 1 (by8 (hdB v A R t b n)), .blk p32 (hdC (phV (hdB v A R t b n)) (phA (hdB v A R t b n)) (phR (hdB v A R t b n)) (phT (hdB v A R t b n)) (phB (hdB v A R t b n)) (phN (hdB v A R t b n))) 26] w44 := H43.sub (List.Sublist.cons_cons _ (List.Sublist.cons_cons _ (List.Sublist.cons_cons _ (List.Sublist.cons_cons _ (List.Sublist.slnil)))))
    refine GP.sem 0 (fun w_ H_ => H_.ldA (o := 0) (ty := 26) (m := 68) (sub := hdC v A R t b n) 0 rfl (by kernel_rfl) (sub_whole (hdC_length hA hR)) (hdC_length hA hR)) [1, 2, 5, 6, 7, 26] [(1, .slice B bs.length bc), (2, pt p3 0), (5, .slice A17 80 c18), (6, pt p32 0), (7, .int .i64 (((phE (hdB v A R t b n)) : Nat) : Int)), (26, .agg (hdC v A R t b n).toArray)] (by kernel_rfl) (by kernel_rfl) (by kernel_rfl) hS45 ?_
    refine GP.run [3] [1, 2, 5, 6, 7, 26, 29] [(1, .slice B bs.length bc), (2, pt p3 0), (5, .slice A17 80 c18), (6, pt p32 0), (7, .int .i64 (((phE (hdB v A R t b n)) : Nat) : Int)), (26, .agg (hdC v A R t b n).toArray), (29, .slice A17 80 c18)] [0, 3] (by kernel_rfl) rfl hS45 ?_
    refine GP.sem 4 (fun w_ H_ => run_toStr (P := Try.prog) (src := 28) (dst := 9) (A := A17) (bs := (hdB v A R t b n)) (n := 80) (c := c18) (by kernel_rfl) (by kernel_rfl) (H_.rdRow 1 rfl) ((hdB_length hA hR).symm)) [1, 2, 5, 6, 7, 26, 30] [(1, .slice B bs.length bc), (2, pt p3 0), (5, .slice A17 80 c18), (6, pt p32 0), (7, .int .i64 (((phE (hdB v A R t b n)) : Nat) : Int)), (26, .agg (hdC v A R t b n).toArray), (30, .string (strOf (hdB v A R t b n)))] (by kernel_rfl) (by kernel_rfl) (by kernel_rfl) hS45 ?_
    refine GP.call 1 (HBytes_calls v A R t b n w44 hA hR (by omega) (by omega) (by omega) (by omega)) (by kernel_rfl) (by kernel_rfl) (fun e_ w48 hR => ?_)
    obtain ⟨A46, c47, rfl, H50⟩ := hR
    have H49 : Hp w [] [.blk p3 (hdC v A R t b n) 26, .row A17 80 c18 5 1 (by8 (hdB v A R t b n)), .row A24 80 c25 5 1 (by8 (hdB v A R t b n)), .blk p32 (hdC (phV (hdB v A R t b n)) (phA (hdB v A R t b n)) (phR (hdB v A R t b n)) (phT (hdB v A R t b n)) (phB (hdB v A R t b n)) (phN (hdB v A R t b n))) 26, .row A46 80 c47 5 1 (by8 (hdB v A R t b n))] w48 := H43.callNew H50
    have hS51 : Hp w [] [.blk p3 (hdC v A R t b n) 26, .row A17 80 c18 5 1 (by8 (hdB v A R t b n)), .row A24 80 c25 5 1 (by8 (hdB v A R t b n)), .blk p32 (hdC (phV (hdB v A R t b n)) (phA (hdB v A R t b n)) (phR (hdB v A R t b n)) (phT (hdB v A R t b n)) (phB (hdB v A R t b n)) (phN (hdB v A R t b n))) 26] w48 := H49.sub (List.Sublist.cons_cons _ (List.Sublist.cons_cons _ (List.Sublist.cons_cons _ (List.Sublist.cons_cons _ (List.Sublist.cons _ (List.Sublist.slnil))))))
    refine ⟨_, rfl, hS51, [1, 2, 5, 6, 7, 27, 30], [(1, .slice B bs.length bc), (2, pt p3 0), (5, .slice A17 80 c18), (6, pt p32 0), (7, .int .i64 (((phE (hdB v A R t b n)) : Nat) : Int)), (27, .slice A46 80 c47), (30, .string (strOf (hdB v A R t b n)))], by kernel_rfl, ?_⟩
    refine GP.weak (Hp w [] [.blk p3 (hdC v A R t b n) 26, .row A17 80 c18 5 1 (by8 (hdB v A R t b n)), .row A24 80 c25 5 1 (by8 (hdB v A R t b n)), .blk p32 (hdC (phV (hdB v A R t b n)) (phA (hdB v A R t b n)) (phR (hdB v A R t b n)) (phT (hdB v A R t b n)) (phB (hdB v A R t b n)) (phN (hdB v A R t b n))) 26, .row A46 80 c47 5 1 (by8 (hdB v A R t b n))]) (fun w_ h_ => h_.sub (List.Sublist.cons_cons _ (List.Sublist.cons_cons _ (List.Sublist.cons_cons _ (List.Sublist.cons_cons _ (List.Sublist.cons _ (List.Sublist.slnil))))))) ?_
    have hS52 : Hp w [] [.blk p3 (hdC v A R t b n) 26, .row A17 80 c18 5 1 (by8 (hdB v A R t b n)), .row A24 80 c25 5 1 (by8 (hdB v A R t b n)), .blk p32 (hdC (phV (hdB v A R t b n)) (phA (hdB v A R t b n)) (phR (hdB v A R t b n)) (phT (hdB v A R t b n)) (phB (hdB v A R t b n)) (phN (hdB v A R t b n))) 26, .row A46 80 c47 5 1 (by8 (hdB v A R t b n))] w48 := H49.sub (List.Sublist.cons_cons _ (List.Sublist.cons_cons _ (List.Sublist.cons_cons _ (List.Sublist.cons_cons _ (List.Sublist.cons_cons _ (List.Sublist.slnil))))))
    refine GP.sem 2 (fun w_ H_ => run_toStr (P := Try.prog) (src := 28) (dst := 9) (A := A46) (bs := (hdB v A R t b n)) (n := 80) (c := c47) (by kernel_rfl) (by kernel_rfl) (H_.rdRow 4 rfl) ((hdB_length hA hR).symm)) [1, 2, 5, 6, 7, 28, 30] [(1, .slice B bs.length bc), (2, pt p3 0), (5, .slice A17 80 c18), (6, pt p32 0), (7, .int .i64 (((phE (hdB v A R t b n)) : Nat) : Int)), (28, .string (strOf (hdB v A R t b n))), (30, .string (strOf (hdB v A R t b n)))] (by kernel_rfl) (by kernel_rfl) (by kernel_rfl) hS52 ?_
    refine GP.sem 5 (fun w_ H_ => run_str_neq (P := Try.prog) (t := 9) (hdB v A R t b n) (hdB v A R t b n) _) [1, 2, 5, 6, 7, 31] [(1, .slice B bs.length bc), (2, pt p3 0), (5, .slice A17 80 c18), (6, pt p32 0), (7, .int .i64 (((phE (hdB v A R t b n)) : Nat) : Int)), (31, .bool (!((hdB v A R t b n) == (hdB v A R t b n))))] (by kernel_rfl) (by kernel_rfl) (by kernel_rfl) hS52 ?_
    refine GP.run [6] [1, 2, 5, 6, 7, 32] [(1, .slice B bs.length bc), (2, pt p3 0), (5, .slice A17 80 c18), (6, pt p32 0), (7, .int .i64 (((phE (hdB v A R t b n)) : Nat) : Int)), (32, .bool (!((hdB v A R t b n) == (hdB v A R t b n))))] [0, 3, 4, 1, 2, 5, 6] (by kernel_rfl) rfl hS52 ?_
    have hb53 : (!((hdB v A R t b n) == (hdB v A R t b n))) = false := by rw [show ((hdB v A R t b n) == (hdB v A R t b n)) = true from beq_self_eq_true _]; rfl
    rw [hb53]
    refine GP.sem 7 (fun w_ H_ => H_.ldA (o := 0) (ty := 26) (m := 68) (sub := hdC v A R t b n) 0 rfl (by kernel_rfl) (sub_whole (hdC_length hA hR)) (hdC_length hA hR)) [1, 2, 5, 6, 7, 32, 33] [(1, .slice B bs.length bc), (2, pt p3 0), (5, .slice A17 80 c18), (6, pt p32 0), (7, .int .i64 (((phE (hdB v A R t b n)) : Nat) : Int)), (32, .bool false), (33, .agg (hdC v A R t b n).toArray)] (by kernel_rfl) (by kernel_rfl) (by kernel_rfl) hS52 ?_
    refine GP.run [9] [1, 2, 6, 7, 32, 33, 35] [(1, .slice B bs.length bc), (2, pt p3 0), (6, pt p32 0), (7, .int .i64 (((phE (hdB v A R t b n)) : Nat) : Int)), (32, .bool false), (33, .agg (hdC v A R t b n).toArray), (35, .slice A17 80 c18)] [0, 3, 4, 1, 2, 5, 6, 7, 9] (by kernel_rfl) rfl hS52 ?_
    refine GP.call 8 (HHash_calls v A R t b n w48 hA hR (by omega) (by omega) (by omega) (by omega)) (by kernel_rfl) (by kernel_rfl) (fun e_ w54 hR => ?_)
    obtain ⟨rfl, H56⟩ := hR
    have H55 : Hp w [] [.blk p3 (hdC v A R t b n) 26, .row A17 80 c18 5 1 (by8 (hdB v A R t b n)), .row A24 80 c25 5 1 (by8 (hdB v A R t b n)), .blk p32 (hdC (phV (hdB v A R t b n)) (phA (hdB v A R t b n)) (phR (hdB v A R t b n)) (phT (hdB v A R t b n)) (phB (hdB v A R t b n)) (phN (hdB v A R t b n))) 26, .row A46 80 c47 5 1 (by8 (hdB v A R t b n))] w54 := H49.callNil H56
    have hS57 : Hp w [] [.blk p3 (hdC v A R t b n) 26, .row A17 80 c18 5 1 (by8 (hdB v A R t b n)), .row A24 80 c25 5 1 (by8 (hdB v A R t b n)), .blk p32 (hdC (phV (hdB v A R t b n)) (phA (hdB v A R t b n)) (phR (hdB v A R t b n)) (phT (hdB v A R t b n)) (phB (hdB v A R t b n)) (phN (hdB v A R t b n))) 26, .row A46 80 c47 5 1 (by8 (hdB v A R t b n))] w54 := H55.sub (List.Sublist.cons_cons _ (List.Sublist.cons_cons _ (List.Sublist.cons_cons _ (List.Sublist.cons_cons _ (List.Sublist.cons_cons _ (List.Sublist.slnil))))))
    refine ⟨_, rfl, hS57, [1, 2, 6, 7, 32, 34, 35], [(1, .slice B bs.length bc), (2, pt p3 0), (6, pt p32 0), (7, .int .i64 (((phE (hdB v A R t b n)) : Nat) : Int)), (32, .bool false), (34, .agg (by8 (sha (sha (hdB v A R t b n)))).toArray), (35, .slice A17 80 c18)], by kernel_rfl, ?_⟩
    refine GP.call 10 (RefDouble_calls A17 80 c18 (hdB v A R t b n) w54 (H55.rdRow 1 rfl) ((hdB_length hA hR).symm) (by rw [hdB_length hA hR]; decide)) (by kernel_rfl) (by kernel_rfl) (fun e_ w58 hR => ?_)
    obtain ⟨rfl, H60⟩ := hR
    have H59 : Hp w [] [.blk p3 (hdC v A R t b n) 26, .row A17 80 c18 5 1 (by8 (hdB v A R t b n)), .row A24 80 c25 5 1 (by8 (hdB v A R t b n)), .blk p32 (hdC (phV (hdB v A R t b n)) (phA (hdB v A R t b n)) (phR (hdB v A R t b n)) (phT (hdB v A R t b n)) (phB (hdB v A R t b n)) (phN (hdB v A R t b n))) 26, .row A46 80 c47 5 1 (by8 (hdB v A R t b n))] w58 := H55.callNil H60
    have hS61 : Hp w [] [.blk p3 (hdC v A R t b n) 26, .row A17 80 c18 5 1 (by8 (hdB v A R t b n)), .row A24 80 c25 5 1 (by8 (hdB v A R t b n)), .blk p32 (hdC (phV (hdB v A R t b n)) (phA (hdB v A R t b n)) (phR (hdB v A R t b n)) (phT (hdB v A R t b n)) (phB (hdB v A R t b n)) (phN (hdB v A R t b n))) 26, .row A46 80 c47 5 1 (by8 (hdB v A R t b n))] w58 := H59.sub (List.Sublist.cons_cons _ (List.Sublist.cons_cons _ (List.Sublist.cons_cons _ (List.Sublist.cons_cons _ (List.Sublist.cons_cons _ (List.Sublist.slnil))))))
    refine ⟨_, rfl, hS61, [1, 2, 6, 7, 32, 34, 36], [(1, .slice B bs.length bc), (2, pt p3 0), (6, pt p32 0), (7, .int .i64 (((phE (hdB v A R t b n)) : Nat) : Int)), (32, .bool false), (34, .agg (by8 (sha (sha (hdB v A R t b n)))).toArray), (36, .agg (by8 (sha (sha (hdB v A R t b n)))).toArray)], by kernel_rfl, ?_⟩
    refine GP.sem 11 (fun w_ H_ => run_by8_neq (P := Try.prog) (t := 24) (n := 32) (x := (.tmp 34)) (y := (.tmp 36)) (by kernel_rfl) (sha (sha (hdB v A R t b n))) (sha (sha (hdB v A R t b n))) (by rw [sha_length]) (by rw [sha_length]) _) [1, 2, 6, 7, 32, 37] [(1, .slice B bs.length bc), (2, pt p3 0), (6, pt p32 0), (7, .int .i64 (((phE (hdB v A R t b n)) : Nat) : Int)), (32, .bool false), (37, .bool (!(decide ((sha (sha (hdB v A R t b n))) = (sha (sha (hdB v A R t b n)))))))] (by kernel_rfl) (by kernel_rfl) (by kernel_rfl) hS61 ?_
    refine GP.run [12, 13] [1, 2, 6, 7, 39] [(1, .slice B bs.length bc), (2, pt p3 0), (6, pt p32 0), (7, .int .i64 (((phE (hdB v A R t b n)) : Nat) : Int)), (39, .bool (!(decide ((sha (sha (hdB v A R t b n))) = (sha (sha (hdB v A R t b n)))))))] [0, 3, 4, 1, 2, 5, 6, 7, 9, 8, 10, 11, 12, 13] (by kernel_rfl) rfl hS61 ?_
    have hb62 : (!(decide ((sha (sha (hdB v A R t b n))) = (sha (sha (hdB v A R t b n)))))) = false := by rw [show (decide ((sha (sha (hdB v A R t b n))) = (sha (sha (hdB v A R t b n))))) = true from decide_eq_true rfl]; rfl
    rw [hb62]
    refine GP.run [14, 15, 16, 17] [1, 2, 6, 43] [(1, .slice B bs.length bc), (2, pt p3 0), (6, pt p32 0), (43, .bool ((((phE (hdB v A R t b n)) : Nat) : Int) != 0))] [0, 3, 4, 1, 2, 5, 6, 7, 9, 8, 10, 11, 12, 13, 14, 15, 16, 17] (by kernel_rfl) rfl hS61 ?_
    have hb63 : ((((phE (hdB v A R t b n)) : Nat) : Int) != 0) = false := by rw [hpo.2.2.2.2.2.2]; rfl
    rw [hb63]
    refine GP.sem 18 (fun w_ H_ => H_.ldA (o := 0) (ty := 26) (m := 68) (sub := hdC (phV (hdB v A R t b n)) (phA (hdB v A R t b n)) (phR (hdB v A R t b n)) (phT (hdB v A R t b n)) (phB (hdB v A R t b n)) (phN (hdB v A R t b n))) 3 rfl (by kernel_rfl) (sub_whole (hdC_length (phA_length _) (phR_length _))) (hdC_length (phA_length _) (phR_length _))) [1, 2, 43, 44] [(1, .slice B bs.length bc), (2, pt p3 0), (43, .bool false), (44, .agg (hdC (phV (hdB v A R t b n)) (phA (hdB v A R t b n)) (phR (hdB v A R t b n)) (phT (hdB v A R t b n)) (phB (hdB v A R t b n)) (phN (hdB v A R t b n))).toArray)] (by kernel_rfl) (by kernel_rfl) (by kernel_rfl) hS61 ?_
    refine GP.sem 19 (fun w_ H_ => H_.ldA (o := 0) (ty := 26) (m := 68) (sub := hdC v A R t b n) 0 rfl (by kernel_rfl) (sub_whole (hdC_length hA hR)) (hdC_length hA hR)) [1, 43, 44, 45] [(1, .slice B bs.length bc), (43, .bool false), (44, .agg (hdC (phV (hdB v A R t b n)) (phA (hdB v A R t b n)) (phR (hdB v A R t b n)) (phT (hdB v A R t b n)) (phB (hdB v A R t b n)) (phN (hdB v A R t b n))).toArray), (45, .agg (hdC v A R t b n).toArray)] (by kernel_rfl) (by kernel_rfl) (by kernel_rfl) hS61 ?_
    refine GP.sem 20 (fun w_ H_ => run_hd_neq (x := (.tmp 44)) (y := (.tmp 45)) (v := (phV (hdB v A R t b n))) (A := (phA (hdB v A R t b n))) (R := (phR (hdB v A R t b n))) (t := (phT (hdB v A R t b n))) (b := (phB (hdB v A R t b n))) (n := (phN (hdB v A R t b n))) (v' := v) (A' := A) (R' := R) (t' := t) (b' := b) (n' := n) (phA_length _) (phR_length _) (ph_lt _).1 (ph_lt _).2.1 (ph_lt _).2.2.1 (ph_lt _).2.2.2 hA hR (by omega) (by omega) (by omega) (by omega) _) [1, 43, 46] [(1, .slice B bs.length bc), (43, .bool false), (46, .bool (!(sameH (phV (hdB v A R t b n)) (phA (hdB v A R t b n)) (phR (hdB v A R t b n)) (phT (hdB v A R t b n)) (phB (hdB v A R t b n)) (phN (hdB v A R t b n)) v A R t b n)))] (by kernel_rfl) (by kernel_rfl) (by kernel_rfl) hS61 ?_
    refine GP.run [21] [1, 47] [(1, .slice B bs.length bc), (47, .bool (!(sameH (phV (hdB v A R t b n)) (phA (hdB v A R t b n)) (phR (hdB v A R t b n)) (phT (hdB v A R t b n)) (phB (hdB v A R t b n)) (phN (hdB v A R t b n)) v A R t b n)))] [0, 3, 4, 1, 2, 5, 6, 7, 9, 8, 10, 11, 12, 13, 14, 15, 16, 17, 18, 19, 20, 21] (by kernel_rfl) rfl hS61 ?_
    refine GP.k (by kernel_rfl) hK42 (fun _ _ h => h) ?_
    have hb64 : (!(sameH (phV (hdB v A R t b n)) (phA (hdB v A R t b n)) (phR (hdB v A R t b n)) (phT (hdB v A R t b n)) (phB (hdB v A R t b n)) (phN (hdB v A R t b n)) v A R t b n)) = false := by rw [show (sameH (phV (hdB v A R t b n)) (phA (hdB v A R t b n)) (phR (hdB v A R t b n)) (phT (hdB v A R t b n)) (phB (hdB v A R t b n)) (phN (hdB v A R t b n)) v A R t b n) = true from by rw [hpo.1, hpo.2.1, hpo.2.2.1, hpo.2.2.2.1, hpo.2.2.2.2.1, hpo.2.2.2.2.2.1]; exact decide_eq_true ⟨rfl, rfl, rfl, rfl, rfl, rfl⟩]; rfl
    rw [hb64]
    refine G.no rfl ?_
    refine G.skipK hK40 (fun _ _ h => h) ?_
    refine G.seqK fun K65 hK66 => ?_
    refine G.region ?_
    refine GL.run (j := 1) 1 [1, 49] [(1, .slice B bs.length bc), (49, .slice B bs.length bc)] (by kernel_rfl) rfl ?_
    refine GL.call (j := 2) (HParse_calls bs B bs.length bc w58 (hB.hp H59) (rfl) (by omega)) (by kernel_rfl) rfl (fun e_ w67 hR => ?_)
    obtain ⟨rfl, H69⟩ := hR
    have H68 : Hp w [] [.blk p3 (hdC v A R t b n) 26, .row A17 80 c18 5 1 (by8 (hdB v A R t b n)), .row A24 80 c25 5 1 (by8 (hdB v A R t b n)), .blk p32 (hdC (phV (hdB v A R t b n)) (phA (hdB v A R t b n)) (phR (hdB v A R t b n)) (phT (hdB v A R t b n)) (phB (hdB v A R t b n)) (phN (hdB v A R t b n))) 26, .row A46 80 c47 5 1 (by8 (hdB v A R t b n))] w67 := H59.callNil H69
    refine ⟨_, rfl, [1, 50], [(1, .slice B bs.length bc), (50, .tuple #[.agg (hdC (phV bs) (phA bs) (phR bs) (phT bs) (phB bs) (phN bs)).toArray, .int .i64 (((phE bs) : Nat) : Int)])], by kernel_rfl, ?_⟩
    refine GL.run (j := 5) 3 [1, 51, 52] [(1, .slice B bs.length bc), (51, .agg (hdC (phV bs) (phA bs) (phR bs) (phT bs) (phB bs) (phN bs)).toArray), (52, .int .i64 (((phE bs) : Nat) : Int))] (by kernel_rfl) rfl ?_
    obtain ⟨p70, w71, r72, H73⟩ := H68.alloc (P := Try.prog) 26 (hdC 0 (List.replicate 32 0) (List.replicate 32 0) 0 0 0) (by kernel_rfl)
    have H73 : Hp w [] [.blk p3 (hdC v A R t b n) 26, .row A17 80 c18 5 1 (by8 (hdB v A R t b n)), .row A24 80 c25 5 1 (by8 (hdB v A R t b n)), .blk p32 (hdC (phV (hdB v A R t b n)) (phA (hdB v A R t b n)) (phR (hdB v A R t b n)) (phT (hdB v A R t b n)) (phB (hdB v A R t b n)) (phN (hdB v A R t b n))) 26, .row A46 80 c47 5 1 (by8 (hdB v A R t b n)), .blk p70 (hdC 0 (List.replicate 32 0) (List.replicate 32 0) 0 0 0) 26] w71 := H73
    refine GL.sem (j := 6) (r72) [1, 8, 51, 52] [(1, .slice B bs.length bc), (8, pt p70 0), (51, .agg (hdC (phV bs) (phA bs) (phR bs) (phT bs) (phB bs) (phN bs)).toArray), (52, .int .i64 (((phE bs) : Nat) : Int))] (by kernel_rfl) (by kernel_rfl) rfl ?_
    obtain ⟨w74, r75, H76⟩ := H73.stA (P := Try.prog) (o := 0) (vs := hdC (phV bs) (phA bs) (phR bs) (phT bs) (phB bs) (phN bs)) (ty := 26) (m := 68) 5 rfl (by kernel_rfl) (hdC_length (phA_length _) (phR_length _)) (by rw [Nat.zero_add, hdC_length rfl rfl]; exact Nat.le_refl _) hdC_one
    rw [st_whole (hdC_length rfl rfl)] at H76
    have H76 : Hp w [] [.blk p3 (hdC v A R t b n) 26, .row A17 80 c18 5 1 (by8 (hdB v A R t b n)), .row A24 80 c25 5 1 (by8 (hdB v A R t b n)), .blk p32 (hdC (phV (hdB v A R t b n)) (phA (hdB v A R t b n)) (phR (hdB v A R t b n)) (phT (hdB v A R t b n)) (phB (hdB v A R t b n)) (phN (hdB v A R t b n))) 26, .row A46 80 c47 5 1 (by8 (hdB v A R t b n)), .blk p70 (hdC (phV bs) (phA bs) (phR bs) (phT bs) (phB bs) (phN bs)) 26] w74 := H76
    refine GL.semU (j := 7) r75 [1, 8, 52] [(1, .slice B bs.length bc), (8, pt p70 0), (52, .int .i64 (((phE bs) : Nat) : Int))] (by kernel_rfl) rfl rfl rfl ?_
    refine GL.run (j := 8) 1 [1, 8, 9] [(1, .slice B bs.length bc), (8, pt p70 0), (9, .int .i64 (((phE bs) : Nat) : Int))] (by kernel_rfl) rfl ?_
    refine GL.k rfl hK66 (fun _ _ h => h) ?_
    refine G.seqK fun K77 hK78 => ?_
    refine G.seqK fun K79 hK80 => ?_
    refine G.region ?_
    refine GL.run (j := 3) 3 [1, 8, 9, 55] [(1, .slice B bs.length bc), (8, pt p70 0), (9, .int .i64 (((phE bs) : Nat) : Int)), (55, .bool ((bs.length : Int) != 80))] (by kernel_rfl) rfl ?_
    refine GL.k rfl hK80 (fun _ _ h => h) ?_
    cases hb81 : ((bs.length : Int) != 80)
    · skip
      have hb81f : (bs.length : Int) = 80 := bne_eq_false_iff_eq.1 hb81
      refine G.no rfl ?_
      refine G.skipK hK78 (fun _ _ h => h) ?_
      refine G.seqK fun K82 hK83 => ?_
      refine G.heldP (Hp w [] [.blk p3 (hdC v A R t b n) 26, .row A17 80 c18 5 1 (by8 (hdB v A R t b n)), .row A24 80 c25 5 1 (by8 (hdB v A R t b n)), .blk p32 (hdC (phV (hdB v A R t b n)) (phA (hdB v A R t b n)) (phR (hdB v A R t b n)) (phT (hdB v A R t b n)) (phB (hdB v A R t b n)) (phN (hdB v A R t b n))) 26, .row A46 80 c47 5 1 (by8 (hdB v A R t b n)), .blk p70 (hdC (phV bs) (phA bs) (phR bs) (phT bs) (phB bs) (phN bs)) 26]) (by kernel_rfl) (by kernel_rfl) (fun c_ a_ d_ v_ w_ h_ => hPan c_ a_ d_ v_ w_ h_) ?_
      have H84 := H76.drew
      generalize ({ w74 with drawn := w74.drawn + 1 } : World) = w85 at H84 ⊢
      have hS86 : Hp w [] [.blk p3 (hdC v A R t b n) 26, .row A17 80 c18 5 1 (by8 (hdB v A R t b n)), .row A24 80 c25 5 1 (by8 (hdB v A R t b n)), .blk p32 (hdC (phV (hdB v A R t b n)) (phA (hdB v A R t b n)) (phR (hdB v A R t b n)) (phT (hdB v A R t b n)) (phB (hdB v A R t b n)) (phN (hdB v A R t b n))) 26, .row A46 80 c47 5 1 (by8 (hdB v A R t b n)), .blk p70 (hdC (phV bs) (phA bs) (phR bs) (phT bs) (phB bs) (phN bs)) 26] w85 := H84.sub (List.Sublist.cons_cons _ (List.Sublist.cons_cons _ (List.Sublist.cons_cons _ (List.Sublist.cons_cons _ (List.Sublist.cons_cons _ (List.Sublist.cons_cons _ (List.Sublist.slnil)))))))
      refine GP.run [0, 1, 2] [1, 8, 65] [(1, .slice B bs.length bc), (8, pt p70 0), (65, .bool ((((phE bs) : Nat) : Int) == 0))] [0, 1, 2] (by kernel_rfl) rfl hS86 ?_
      have hb87 : ((((phE bs) : Nat) : Int) == 0) = true := by rw [show phE bs = 0 from if_pos (by omega)]; rfl
      rw [hb87]
      refine GP.sem 3 (fun w_ H_ => H_.ldA (o := 0) (ty := 26) (m := 68) (sub := hdC (phV bs) (phA bs) (phR bs) (phT bs) (phB bs) (phN bs)) 5 rfl (by kernel_rfl) (sub_whole (hdC_length (phA_length _) (phR_length _))) (hdC_length (phA_length _) (phR_length _))) [1, 65, 66] [(1, .slice B bs.length bc), (65, .bool true), (66, .agg (hdC (phV bs) (phA bs) (phR bs) (phT bs) (phB bs) (phN bs)).toArray)] (by kernel_rfl) (by kernel_rfl) (by kernel_rfl) hS86 ?_
      refine GP.run [6] [65, 66, 69] [(65, .bool true), (66, .agg (hdC (phV bs) (phA bs) (phR bs) (phT bs) (phB bs) (phN bs)).toArray), (69, .slice B bs.length bc)] [0, 1, 2, 3, 6] (by kernel_rfl) rfl hS86 ?_
      refine GP.sem 7 (fun w_ H_ => run_toStr (P := Try.prog) (src := 28) (dst := 9) (A := B) (bs := bs) (n := bs.length) (c := bc) (by kernel_rfl) (by kernel_rfl) (hB.hp H_) (rfl)) [65, 66, 70] [(65, .bool true), (66, .agg (hdC (phV bs) (phA bs) (phR bs) (phT bs) (phB bs) (phN bs)).toArray), (70, .string (strOf bs))] (by kernel_rfl) (by kernel_rfl) (by kernel_rfl) hS86 ?_
      refine GP.call 4 (Ref_calls (phV bs) (phA bs) (phR bs) (phT bs) (phB bs) (phN bs) w85 (phA_length _) (phR_length _) (ph_lt _).1 (ph_lt _).2.1 (ph_lt _).2.2.1 (ph_lt _).2.2.2) (by kernel_rfl) (by kernel_rfl) (fun e_ w90 hR => ?_)
      obtain ⟨A88, c89, rfl, H92⟩ := hR
      have H91 : Hp w [] [.blk p3 (hdC v A R t b n) 26, .row A17 80 c18 5 1 (by8 (hdB v A R t b n)), .row A24 80 c25 5 1 (by8 (hdB v A R t b n)), .blk p32 (hdC (phV (hdB v A R t b n)) (phA (hdB v A R t b n)) (phR (hdB v A R t b n)) (phT (hdB v A R t b n)) (phB (hdB v A R t b n)) (phN (hdB v A R t b n))) 26, .row A46 80 c47 5 1 (by8 (hdB v A R t b n)), .blk p70 (hdC (phV bs) (phA bs) (phR bs) (phT bs) (phB bs) (phN bs)) 26, .row A88 80 c89 5 1 (by8 (hdB (phV bs) (phA bs) (phR bs) (phT bs) (phB bs) (phN bs)))] w90 := H84.callNew H92
      have hS93 : Hp w [] [.blk p3 (hdC v A R t b n) 26, .row A17 80 c18 5 1 (by8 (hdB v A R t b n)), .row A24 80 c25 5 1 (by8 (hdB v A R t b n)), .blk p32 (hdC (phV (hdB v A R t b n)) (phA (hdB v A R t b n)) (phR (hdB v A R t b n)) (phT (hdB v A R t b n)) (phB (hdB v A R t b n)) (phN (hdB v A R t b n))) 26, .row A46 80 c47 5 1 (by8 (hdB v A R t b n)), .blk p70 (hdC (phV bs) (phA bs) (phR bs) (phT bs) (phB bs) (phN bs)) 26] w90 := H91.sub (List.Sublist.cons_cons _ (List.Sublist.cons_cons _ (List.Sublist.cons_cons _ (List.Sublist.cons_cons _ (List.Sublist.cons_cons _ (List.Sublist.cons_cons _ (List.Sublist.cons _ (List.Sublist.slnil))))))))
      refine ⟨_, rfl, hS93, [65, 67, 70], [(65, .bool true), (67, .slice A88 80 c89), (70, .string (strOf bs))], by kernel_rfl, ?_⟩
      refine GP.weak (Hp w [] [.blk p3 (hdC v A R t b n) 26, .row A17 80 c18 5 1 (by8 (hdB v A R t b n)), .row A24 80 c25 5 1 (by8 (hdB v A R t b n)), .blk p32 (hdC (phV (hdB v A R t b n)) (phA (hdB v A R t b n)) (phR (hdB v A R t b n)) (phT (hdB v A R t b n)) (phB (hdB v A R t b n)) (phN (hdB v A R t b n))) 26, .row A46 80 c47 5 1 (by8 (hdB v A R t b n)), .blk p70 (hdC (phV bs) (phA bs) (phR bs) (phT bs) (phB bs) (phN bs)) 26, .row A88 80 c89 5 1 (by8 (hdB (phV bs) (phA bs) (phR bs) (phT bs) (phB bs) (phN bs)))]) (fun w_ h_ => h_.sub (List.Sublist.cons_cons _ (List.Sublist.cons_cons _ (List.Sublist.cons_cons _ (List.Sublist.cons_cons _ (List.Sublist.cons_cons _ (List.Sublist.cons_cons _ (List.Sublist.cons _ (List.Sublist.slnil))))))))) ?_
      have hS94 : Hp w [] [.blk p3 (hdC v A R t b n) 26, .row A17 80 c18 5 1 (by8 (hdB v A R t b n)), .row A24 80 c25 5 1 (by8 (hdB v A R t b n)), .blk p32 (hdC (phV (hdB v A R t b n)) (phA (hdB v A R t b n)) (phR (hdB v A R t b n)) (phT (hdB v A R t b n)) (phB (hdB v A R t b n)) (phN (hdB v A R t b n))) 26, .row A46 80 c47 5 1 (by8 (hdB v A R t b n)), .blk p70 (hdC (phV bs) (phA bs) (phR bs) (phT bs) (phB bs) (phN bs)) 26, .row A88 80 c89 5 1 (by8 (hdB (phV bs) (phA bs) (phR bs) (phT bs) (phB bs) (phN bs)))] w90 := H91.sub (List.Sublist.cons_cons _ (List.Sublist.cons_cons _ (List.Sublist.cons_cons _ (List.Sublist.cons_cons _ (List.Sublist.cons_cons _ (List.Sublist.cons_cons _ (List.Sublist.cons_cons _ (List.Sublist.slnil))))))))
      refine GP.sem 5 (fun w_ H_ => run_toStr (P := Try.prog) (src := 28) (dst := 9) (A := A88) (bs := (hdB (phV bs) (phA bs) (phR bs) (phT bs) (phB bs) (phN bs))) (n := 80) (c := c89) (by kernel_rfl) (by kernel_rfl) (H_.rdRow 6 rfl) ((hdB_length (phA_length _) (phR_length _)).symm)) [65, 68, 70] [(65, .bool true), (68, .string (strOf (hdB (phV bs) (phA bs) (phR bs) (phT bs) (phB bs) (phN bs)))), (70, .string (strOf bs))] (by kernel_rfl) (by kernel_rfl) (by kernel_rfl) hS94 ?_
      refine GP.sem 8 (fun w_ H_ => run_str_eql (P := Try.prog) (t := 9) (hdB (phV bs) (phA bs) (phR bs) (phT bs) (phB bs) (phN bs)) bs _) [65, 71] [(65, .bool true), (71, .bool ((hdB (phV bs) (phA bs) (phR bs) (phT bs) (phB bs) (phN bs)) == bs))] (by kernel_rfl) (by kernel_rfl) (by kernel_rfl) hS94 ?_
      refine GP.run [9, 10] [4] [(4, .bool ((hdB (phV bs) (phA bs) (phR bs) (phT bs) (phB bs) (phN bs)) == bs))] [0, 1, 2, 3, 6, 7, 4, 5, 8, 9, 10] (by kernel_rfl) rfl hS94 ?_
      refine GP.k (by kernel_rfl) hK83 (fun _ _ h => h) ?_
      refine G.ret ?_
      intro F_ hF_ hM_
      refine hRet _ _ (bodyPost_1 rfl (RV.tmp rfl) ?_ F_ hF_ hM_)
      have hb95 : ((hdB (phV bs) (phA bs) (phR bs) (phT bs) (phB bs) (phN bs)) == bs) = true := by rw [of_ph (by omega)]; exact beq_self_eq_true _
      rw [hb95]
      exact ⟨rfl, H91.sub (List.nil_sublist _)⟩
    · skip
      have hb81f : (bs.length : Int) ≠ 80 := bne_iff_ne.1 hb81
      refine G.yes rfl ?_
      refine G.seqK fun K96 hK97 => ?_
      refine G.region ?_
      refine GL.run (j := 3) 3 [8, 58] [(8, pt p70 0), (58, .bool ((((phE bs) : Nat) : Int) == 2))] (by kernel_rfl) rfl ?_
      have hb98 : ((((phE bs) : Nat) : Int) == 2) = true := by rw [show phE bs = 2 from if_neg (by omega)]; rfl
      rw [hb98]
      refine GL.sem (j := 4) (H76.ldA (o := 0) (ty := 26) (m := 68) (sub := hdC (phV bs) (phA bs) (phR bs) (phT bs) (phB bs) (phN bs)) 5 rfl (by kernel_rfl) (sub_whole (hdC_length (phA_length _) (phR_length _))) (hdC_length (phA_length _) (phR_length _))) [58, 59] [(58, .bool true), (59, .agg (hdC (phV bs) (phA bs) (phR bs) (phT bs) (phB bs) (phN bs)).toArray)] (by kernel_rfl) (by kernel_rfl) rfl ?_
      refine GL.run (j := 5) 1 [58, 59, 60] [(58, .bool true), (59, .agg (hdC (phV bs) (phA bs) (phR bs) (phT bs) (phB bs) (phN bs)).toArray), (60, .agg (hdC 0 (List.replicate 32 0) (List.replicate 32 0) 0 0 0).toArray)] (by kernel_rfl) rfl ?_
      refine GL.sem (j := 6) (run_hd_eql (x := (.tmp 59)) (y := (.tmp 60)) (v := (phV bs)) (A := (phA bs)) (R := (phR bs)) (t := (phT bs)) (b := (phB bs)) (n := (phN bs)) (v' := 0) (A' := (List.replicate 32 0)) (R' := (List.replicate 32 0)) (t' := 0) (b' := 0) (n' := 0) (phA_length _) (phR_length _) (ph_lt _).1 (ph_lt _).2.1 (ph_lt _).2.2.1 (ph_lt _).2.2.2 rfl rfl (by decide) (by decide) (by decide) (by decide) _) [58, 61] [(58, .bool true), (61, .bool (sameH (phV bs) (phA bs) (phR bs) (phT bs) (phB bs) (phN bs) 0 (List.replicate 32 0) (List.replicate 32 0) 0 0 0))] (by kernel_rfl) (by kernel_rfl) rfl ?_
      refine GL.run (j := 8) 2 [4] [(4, .bool (sameH (phV bs) (phA bs) (phR bs) (phT bs) (phB bs) (phN bs) 0 (List.replicate 32 0) (List.replicate 32 0) 0 0 0))] (by kernel_rfl) rfl ?_
      refine GL.k rfl hK97 (fun _ _ h => h) ?_
      refine G.ret ?_
      intro F_ hF_ hM_
      refine hRet _ _ (bodyPost_1 rfl (RV.tmp rfl) ?_ F_ hF_ hM_)
      have hb99 : (sameH (phV bs) (phA bs) (phR bs) (phT bs) (phB bs) (phN bs) 0 (List.replicate 32 0) (List.replicate 32 0) 0 0 0) = true := by rw [show phV bs = 0 from if_neg (by omega)]; rw [show phA bs = (List.replicate 32 0) from if_neg (by omega)]; rw [show phR bs = (List.replicate 32 0) from if_neg (by omega)]; rw [show phT bs = 0 from if_neg (by omega)]; rw [show phB bs = 0 from if_neg (by omega)]; rw [show phN bs = 0 from if_neg (by omega)]; exact decide_eq_true ⟨rfl, rfl, rfl, rfl, rfl, rfl⟩
      rw [hb99]
      exact ⟨rfl, H76.sub (List.nil_sublist _)⟩
  · skip
    have hb14f := of_decide_eq_true hb14
    refine G.yes rfl ?_
    refine G.seqK fun K100 hK101 => ?_
    refine G.region ?_
    refine GL.call (j := 1) (lives_calls w11) (by kernel_rfl) rfl (fun e_ w102 hR => ?_)
    obtain ⟨rfl, H104⟩ := hR
    have H103 : Hp w [] [.blk p3 (hdC v A R t b n) 26] w102 := H12.callNil H104
    refine ⟨_, rfl, [17], [(17, .bool true)], by kernel_rfl, ?_⟩
    refine GL.run (j := 2) 1 [4] [(4, .bool true)] (by kernel_rfl) rfl ?_
    refine GL.k rfl hK101 (fun _ _ h => h) ?_
    refine G.ret ?_
    intro F_ hF_ hM_
    refine hRet _ _ (bodyPost_1 rfl (RV.tmp rfl) ?_ F_ hF_ hM_)
    exact ⟨rfl, H103.sub (List.nil_sublist _)⟩
end Go.Proofs.Ytdepaaphgfapjaa
namespace Go.Proofs.Ytdepaaphgfapjaa
open Go.ChangeShapes Go.WideShapes Go.ChangeAt Go.RowKit
open Go.ChangeMaps (open_string shut_string)
set_option linter.unusedVariables false
theorem headerBytes_own : ownKnob Try.prog.godebug = none := by kernel_rfl
theorem headerBytes_laidOut : laidOutB Try.prog = true := by kernel_rfl
set_option maxRecDepth 100000 in
theorem headerBytes_lifted (os : Os) (started : os.Started) (H : Type) (enc : TypeId × Value → H) :
    ReturnsInHanded {} Try.checked os 6 .any (Rows.headerBytesSpec.pre6 enc Try.prog Try.f6 Rows.headerBytesRow.domain false) (Rows.headerBytesSpec.post enc Try.prog Try.f6 false true false false) := by
  refine returnsInHanded_of_change (C := Try.checked) headerBytes_own started (by kernel_rfl) Try.func6
    (ChangeSpec.witness6 (enc := enc) (C := Try.checked) false ⟨#[], #[.agg #[.int .u32 0, .int .u8 0, .int .u8 0, .int .u8 0, .int .u8 0, .int .u8 0, .int .u8 0, .int .u8 0, .int .u8 0, .int .u8 0, .int .u8 0, .int .u8 0, .int .u8 0, .int .u8 0, .int .u8 0, .int .u8 0, .int .u8 0, .int .u8 0, .int .u8 0, .int .u8 0, .int .u8 0, .int .u8 0, .int .u8 0, .int .u8 0, .int .u8 0, .int .u8 0, .int .u8 0, .int .u8 0, .int .u8 0, .int .u8 0, .int .u8 0, .int .u8 0, .int .u8 0, .int .u8 0, .int .u8 0, .int .u8 0, .int .u8 0, .int .u8 0, .int .u8 0, .int .u8 0, .int .u8 0, .int .u8 0, .int .u8 0, .int .u8 0, .int .u8 0, .int .u8 0, .int .u8 0, .int .u8 0, .int .u8 0, .int .u8 0, .int .u8 0, .int .u8 0, .int .u8 0, .int .u8 0, .int .u8 0, .int .u8 0, .int .u8 0, .int .u8 0, .int .u8 0, .int .u8 0, .int .u8 0, .int .u8 0, .int .u8 0, .int .u8 0, .int .u8 0, .int .u32 0, .int .u32 0, .int .u32 0], .slice none 0 0], []⟩ 12 (by kernel_rfl) (by kernel_rfl) (by kernel_rfl) (by kernel_rfl)) ?_
  intro W base args ds gs before hval0 hW hcnd _
  have hval : ∀ (j : Nat) t v, Try.f6.params[j]? = some t → args[j]? = some v → Value.okWide Try.prog W .any base t v := hval0
  have hW' := hW
  obtain ⟨p, q, hA0, hV, rfl, hfz, hnd⟩ := hW
  have hA : DataW.TrodAll enc Try.prog W 0 (fun _ => true) true Try.f6.params.toList args.toList ds p := hA0
  rw [Try.params6] at hA hval
  obtain ⟨v0, vs0, d0, ds0, p0, q0, hargs, rfl, rfl, h0, r0⟩ := trodAll_cons hA
  obtain ⟨v1, vs1, d1, ds1, p1, q1, rfl, rfl, rfl, h1, r1⟩ := trodAll_cons r0
  obtain ⟨rfl, rfl, rfl⟩ := trodAll_nil r1
  obtain rfl : args = #[v0, v1] := by cases args; simp_all
  obtain ⟨rfl, rfl⟩ := trodVars_none hV
  have k0 := h0
  have lt0 : ∀ x ∈ p0, x.block < W.heap.size := by obtain ⟨m, hm⟩ := k0; exact DataW.trod_lt m _ _ _ hm
  have k1 := h1
  have lt1 : ∀ x ∈ p1, x.block < W.heap.size := by obtain ⟨m, hm⟩ := k1; exact DataW.trod_lt m _ _ _ hm
  obtain ⟨cs0, rfl, hl0⟩ := open_agg (by kernel_rfl) (show Try.prog.cellsOf 26 = 68 by kernel_rfl) (hval 0 26 _ rfl rfl)
  obtain ⟨fu0, hf0⟩ := h0
  have lv0 := open_leaves 2 (by rw [List.toList_toArray] at *; exact hl0.trans (show Try.prog.cellsOf 26 = 68 by kernel_rfl).symm) (by kernel_rfl) hf0 (ls := [(0, 22), (1, 5), (2, 5), (3, 5), (4, 5), (5, 5), (6, 5), (7, 5), (8, 5), (9, 5), (10, 5), (11, 5), (12, 5), (13, 5), (14, 5), (15, 5), (16, 5), (17, 5), (18, 5), (19, 5), (20, 5), (21, 5), (22, 5), (23, 5), (24, 5), (25, 5), (26, 5), (27, 5), (28, 5), (29, 5), (30, 5), (31, 5), (32, 5), (33, 5), (34, 5), (35, 5), (36, 5), (37, 5), (38, 5), (39, 5), (40, 5), (41, 5), (42, 5), (43, 5), (44, 5), (45, 5), (46, 5), (47, 5), (48, 5), (49, 5), (50, 5), (51, 5), (52, 5), (53, 5), (54, 5), (55, 5), (56, 5), (57, 5), (58, 5), (59, 5), (60, 5), (61, 5), (62, 5), (63, 5), (64, 5), (65, 22), (66, 22), (67, 22)]) (by kernel_rfl)
  obtain ⟨v_0, g0_0, hv_0⟩ := (lv0 (0, 22) (by simp)).u32 Try.underlying22
  obtain ⟨t_0, g65_0, ht_0⟩ := (lv0 (65, 22) (by simp)).u32 Try.underlying22
  obtain ⟨b_0, g66_0, hb_0⟩ := (lv0 (66, 22) (by simp)).u32 Try.underlying22
  obtain ⟨n_0, g67_0, hn_0⟩ := (lv0 (67, 22) (by simp)).u32 Try.underlying22
  obtain ⟨f_0, hf_0⟩ := u8s_fun (cs := _) 1 32 (fun i hi => (lv0 (1 + i, 5) (by first | (simp; omega) | (revert i; decide))).u8 Try.underlying5)
  obtain ⟨g_0, hg_0⟩ := u8s_fun (cs := _) 33 32 (fun i hi => (lv0 (33 + i, 5) (by first | (simp; omega) | (revert i; decide))).u8 Try.underlying5)
  obtain rfl := open_head hl0 g0_0 hf_0 hg_0 g65_0 g66_0 g67_0
  obtain ⟨a1, len1, cap1, rfl⟩ := okWide_slice Try.underlying28 (hval 1 28 _ rfl rfl)
  obtain ⟨fu1, hf1⟩ := h1
  obtain ⟨A1, bs1, c1, hcs1, rd1, hc1, hm1⟩ := open_u8s Try.underlying28 Try.underlying5 (by kernel_rfl) hf1
  simp [Value.cells] at hcs1
  obtain ⟨rfl, rfl, rfl⟩ := hcs1
  clear hA0 hval0
  refine (HeaderBytes_calls v_0 ((List.range 32).map f_0) ((List.range 32).map g_0) t_0 b_0 n_0 a1 bs1 cap1 W (by simp) (by simp) hv_0 ht_0 hb_0 hn_0 rd1).mono fun e W' ⟨he, hh⟩ => ?_
  have bel := hh.below
  subst he
  exact ⟨_, rfl, _, _, _, [], _, [], hW', trodAll_mk1 (shut_bool Try.underlying4 _), (trodAll_cons_mk (Below.trod headerBytes_laidOut (by kernel_rfl) (of_decide_eq_true (by kernel_rfl)) k0 bel lt0) (trodAll_cons_mk (Below.trod headerBytes_laidOut (by kernel_rfl) (of_decide_eq_true (by kernel_rfl)) k1 bel lt1) trodAll_mk0)), rfl, bel.frame _, fun h => by cases h⟩
theorem headerBytes_over : Rows.headerBytesRow.holds Try.pinned (OpenSpec.ofChange Rows.headerBytesSpec) :=
  OpenClaim.holds_of_wide 6 Try.f6 rfl rfl rfl rfl rfl rfl rfl ⟨rfl, rfl, rfl, rfl, rfl⟩ rfl rfl rfl rfl rfl (by kernel_rfl) Try.func6 (by kernel_rfl)
    (of_decide_eq_true (by kernel_rfl)) (by unfold Func.isWrapper; first | (rw [if_pos (by decide +kernel)]; kernel_rfl) | (rw [if_neg (by decide +kernel)]; exact ⟨rfl, rfl⟩))
    (fun os started H enc _ => headerBytes_lifted os started H enc)
theorem headerBytes_proved : Rows.HeaderBytesSaid := headerBytes_over
end Go.Proofs.Ytdepaaphgfapjaa
