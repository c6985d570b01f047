/- A wide number held against the document's. -/
import Derived.Test.YtjfllmkihfidcaaNumM
namespace Go.Proofs.Ytjfllmkihfidcaa
open Go.RowKit
theorem is6_calls (x n : Nat) (A : Option Addr) (c : Nat) (w : World) (hr : RdS w A (dg (digs n))) (hn : ndg n ≤ 100000) (hn4 : n < K4) (hx : x = n) : Calls Try.prog 9 #[wv x, .slice A (ndg n) c] w fun e w' => e = .returned (.bool true) ∧ Hp w [] [] w' := by
  refine calls_G (args := [wv x, .slice A (ndg n) c]) Try.func9 rfl Try.ntmps9 rfl ?_
  intro Q0 hRet hNor hPan
  have H := Hp.start w
  have H : Hp w [] [] w := H
  refine G.seqK fun K1 hK2 => ?_
  refine G.region ?_
  obtain ⟨p3, w4, r5, H6⟩ := H.box (P := Try.prog) 24 (wl x) (wv x) rfl
  have H6 : Hp w [] [.blk p3 (wl x) 24] w4 := H6
  refine GL.sem (j := 1) (r5) [1, 2] [(1, .slice A (ndg n) c), (2, pt p3 0)] (by kernel_rfl) (by kernel_rfl) rfl ?_
  refine GL.run (j := 2) 1 [1, 2] [(1, .slice A (ndg n) c), (2, pt p3 0)] (by kernel_rfl) rfl ?_
  refine GL.k rfl hK2 (fun _ _ h => h) ?_
  refine G.seqK fun K7 hK8 => ?_
  refine G.region ?_
  refine GL.run (j := 1) 1 [2, 8] [(2, pt p3 0), (8, .slice A (ndg n) c)] (by kernel_rfl) rfl ?_
  refine GL.call (j := 2) (WordsN_calls n A c w4 (hr.hp H6) (Nat.le_trans hn (by decide))) (by kernel_rfl) rfl (fun e_ w9 hR => ?_)
  obtain ⟨rfl, H11⟩ := hR
  have H10 : Hp w [] [.blk p3 (wl x) 24] w9 := H6.callNil H11
  refine ⟨_, rfl, [2, 9], [(2, pt p3 0), (9, .tuple #[wv (n % K4), .bool (decide (K4 ≤ n))])], by kernel_rfl, ?_⟩
  refine GL.run (j := 5) 3 [2, 10, 11] [(2, pt p3 0), (10, wv (n % K4)), (11, .bool (decide (K4 ≤ n)))] (by kernel_rfl) rfl ?_
  obtain ⟨p12, w13, r14, H15⟩ := H10.alloc (P := Try.prog) 23 z4 (by kernel_rfl)
  have H15 : Hp w [] [.blk p3 (wl x) 24, .blk p12 z4 23] w13 := H15
  refine GL.sem (j := 6) (r14) [2, 5, 10, 11] [(2, pt p3 0), (5, pt p12 0), (10, wv (n % K4)), (11, .bool (decide (K4 ≤ n)))] (by kernel_rfl) (by kernel_rfl) rfl ?_
  obtain ⟨w16, r17, H18⟩ := H15.stA (P := Try.prog) (o := 0) (vs := (wl (n % K4))) (ty := 23) (m := 4) 1 rfl (by kernel_rfl) rfl (by first | decide | simp) (wl_one _)
  have H18 : Hp w [] [.blk p3 (wl x) 24, .blk p12 (wl (n % K4)) 23] w16 := H18
  refine GL.semU (j := 7) r17 [2, 5, 11] [(2, pt p3 0), (5, pt p12 0), (11, .bool (decide (K4 ≤ n)))] (by kernel_rfl) rfl rfl rfl ?_
  refine GL.run (j := 8) 1 [2, 5, 6] [(2, pt p3 0), (5, pt p12 0), (6, .bool (decide (K4 ≤ n)))] (by kernel_rfl) rfl ?_
  refine GL.k rfl hK8 (fun _ _ h => h) ?_
  refine G.seqK fun K19 hK20 => ?_
  refine G.region ?_
  refine GL.run (j := 3) 3 [2, 5, 14] [(2, pt p3 0), (5, pt p12 0), (14, .bool (!(decide (K4 ≤ n))))] (by kernel_rfl) rfl ?_
  have hb21 : (!(decide (K4 ≤ n))) = true := by rw [show (decide (K4 ≤ n)) = false from decide_eq_false (Nat.not_le_of_lt hn4)]; rfl
  rw [hb21]
  refine GL.sem (j := 4) (H18.ldA (o := 0) (ty := 24) (m := 4) (sub := (wl x)) 0 rfl (by kernel_rfl) rfl rfl) [5, 14, 15] [(5, pt p12 0), (14, .bool true), (15, wv x)] (by kernel_rfl) (by kernel_rfl) rfl ?_
  refine GL.sem (j := 5) (H18.ldA (o := 0) (ty := 23) (m := 4) (sub := (wl (n % K4))) 1 rfl (by kernel_rfl) rfl rfl) [14, 15, 16] [(14, .bool true), (15, wv x), (16, wv (n % K4))] (by kernel_rfl) (by kernel_rfl) rfl ?_
  refine GL.sem (j := 6) (run_arr_eql (P := Try.prog) (t := 24) (n := 4) (k := .u64) (x := (.tmp 15)) (y := (.tmp 16)) (by kernel_rfl) [(wd x 0 : Int), (wd x 1 : Int), (wd x 2 : Int), (wd x 3 : Int)] [(wd (n % K4) 0 : Int), (wd (n % K4) 1 : Int), (wd (n % K4) 2 : Int), (wd (n % K4) 3 : Int)] rfl rfl _) [14, 17] [(14, .bool true), (17, .bool (decide (([(wd x 0 : Int), (wd x 1 : Int), (wd x 2 : Int), (wd x 3 : Int)] : List Int) = [(wd (n % K4) 0 : Int), (wd (n % K4) 1 : Int), (wd (n % K4) 2 : Int), (wd (n % K4) 3 : Int)])))] (by kernel_rfl) (by kernel_rfl) rfl ?_
  refine GL.run (j := 8) 2 [4] [(4, .bool (decide (([(wd x 0 : Int), (wd x 1 : Int), (wd x 2 : Int), (wd x 3 : Int)] : List Int) = [(wd (n % K4) 0 : Int), (wd (n % K4) 1 : Int), (wd (n % K4) 2 : Int), (wd (n % K4) 3 : Int)])))] (by kernel_rfl) rfl ?_
  refine GL.k rfl hK20 (fun _ _ h => h) ?_
  refine G.ret ?_
  intro F_ hF_ hM_
  refine hRet _ _ (bodyPost_1 rfl (RV.tmp rfl) ?_ F_ hF_ hM_)
  have hb22 : (decide (([(wd x 0 : Int), (wd x 1 : Int), (wd x 2 : Int), (wd x 3 : Int)] : List Int) = [(wd (n % K4) 0 : Int), (wd (n % K4) 1 : Int), (wd (n % K4) 2 : Int), (wd (n % K4) 3 : Int)])) = true := decide_eq_true (by rw [hx, Nat.mod_eq_of_lt hn4])
  rw [hb22]
  exact ⟨rfl, H18.sub (List.nil_sublist _)⟩
end Go.Proofs.Ytjfllmkihfidcaa
