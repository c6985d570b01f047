/- A wide number held against the document's. -/
import Derived.Test.YtpfdpikblijddaaLives
import Derived.Test.YtpfdpikblijddaaNumB
namespace Go.Proofs.Ytpfdpikblijddaa
open Go.RowKit
theorem prod_lt {a b : Nat} (ha : a < K) (hb : b < K) : a * b < K4 := by
  have h : a * b ≤ (K - 1) * (K - 1) := Nat.mul_le_mul (by omega) (by omega)
  exact Nat.lt_of_le_of_lt h (by decide)
theorem is_calls (x : Nat) (b : Bool) (n : Nat) (A : Option Addr) (c : Nat) (w : World) (hr : RdS w A (dg (digs n))) (hn : ndg n ≤ 100000) (hx : x = n % K4) (hb : b = decide (K4 ≤ n)) : Calls Try.prog 11 #[wv x, .bool b, .slice A (ndg n) c] w fun e w' => e = .returned (.bool true) ∧ Hp w [] [] w' := by
  refine calls_G (args := [wv x, .bool b, .slice A (ndg n) c]) Try.func11 rfl Try.ntmps11 rfl ?_
  intro Q0 hRet hNor hPan
  have H := Hp.start w
  have H : Hp w [] [] w := H
  refine G.seqK fun K1 hK2 => ?_
  refine G.region ?_
  obtain ⟨p3, w4, r5, H6⟩ := H.box (P := Try.prog) 24 [.int .u64 (wd x 0 : Int), .int .u64 (wd x 1 : Int), .int .u64 (wd x 2 : Int), .int .u64 (wd x 3 : Int)] (wv x) rfl
  have H6 : Hp w [] [.blk p3 [.int .u64 (wd x 0 : Int), .int .u64 (wd x 1 : Int), .int .u64 (wd x 2 : Int), .int .u64 (wd x 3 : Int)] 24] w4 := H6
  refine GL.sem (j := 1) (r5) [1, 2, 3] [(1, .bool b), (2, .slice A (ndg n) c), (3, pt p3 0)] (by kernel_rfl) (by kernel_rfl) rfl ?_
  refine GL.run (j := 2) 1 [1, 2, 3] [(1, .bool b), (2, .slice A (ndg n) c), (3, pt p3 0)] (by kernel_rfl) rfl ?_
  refine GL.k rfl hK2 (fun _ _ h => h) ?_
  refine G.seqK fun K7 hK8 => ?_
  refine G.region ?_
  refine GL.run (j := 1) 1 [1, 3, 10] [(1, .bool b), (3, pt p3 0), (10, .slice A (ndg n) c)] (by kernel_rfl) rfl ?_
  refine GL.call (j := 2) (WordsN_calls n A c w4 (hr.hp H6) (Nat.le_trans hn (by decide))) (by kernel_rfl) rfl (fun e_ w9 hR => ?_)
  obtain ⟨rfl, H11⟩ := hR
  have H10 : Hp w [] [.blk p3 [.int .u64 (wd x 0 : Int), .int .u64 (wd x 1 : Int), .int .u64 (wd x 2 : Int), .int .u64 (wd x 3 : Int)] 24] w9 := H6.callNil H11
  refine ⟨_, rfl, [1, 3, 11], [(1, .bool b), (3, pt p3 0), (11, .tuple #[wv (n % K4), .bool (decide (K4 ≤ n))])], by kernel_rfl, ?_⟩
  refine GL.run (j := 5) 3 [1, 3, 12, 13] [(1, .bool b), (3, pt p3 0), (12, wv (n % K4)), (13, .bool (decide (K4 ≤ n)))] (by kernel_rfl) rfl ?_
  obtain ⟨p12, w13, r14, H15⟩ := H10.alloc (P := Try.prog) 23 [.int .u64 0, .int .u64 0, .int .u64 0, .int .u64 0] (by kernel_rfl)
  have H15 : Hp w [] [.blk p3 [.int .u64 (wd x 0 : Int), .int .u64 (wd x 1 : Int), .int .u64 (wd x 2 : Int), .int .u64 (wd x 3 : Int)] 24, .blk p12 [.int .u64 0, .int .u64 0, .int .u64 0, .int .u64 0] 23] w13 := H15
  refine GL.sem (j := 6) (r14) [1, 3, 7, 12, 13] [(1, .bool b), (3, pt p3 0), (7, pt p12 0), (12, wv (n % K4)), (13, .bool (decide (K4 ≤ n)))] (by kernel_rfl) (by kernel_rfl) rfl ?_
  obtain ⟨w16, r17, H18⟩ := H15.stA (P := Try.prog) (o := 0) (vs := [.int .u64 (wd (n % K4) 0 : Int), .int .u64 (wd (n % K4) 1 : Int), .int .u64 (wd (n % K4) 2 : Int), .int .u64 (wd (n % K4) 3 : Int)]) (ty := 23) (m := 4) 1 rfl (by kernel_rfl) rfl (by simp) (by simp [Value.oneCell'])
  have H18 : Hp w [] [.blk p3 [.int .u64 (wd x 0 : Int), .int .u64 (wd x 1 : Int), .int .u64 (wd x 2 : Int), .int .u64 (wd x 3 : Int)] 24, .blk p12 [.int .u64 (wd (n % K4) 0 : Int), .int .u64 (wd (n % K4) 1 : Int), .int .u64 (wd (n % K4) 2 : Int), .int .u64 (wd (n % K4) 3 : Int)] 23] w16 := H18
  refine GL.semU (j := 7) r17 [1, 3, 7, 13] [(1, .bool b), (3, pt p3 0), (7, pt p12 0), (13, .bool (decide (K4 ≤ n)))] (by kernel_rfl) rfl rfl rfl ?_
  refine GL.run (j := 8) 1 [1, 3, 7, 8] [(1, .bool b), (3, pt p3 0), (7, pt p12 0), (8, .bool (decide (K4 ≤ n)))] (by kernel_rfl) rfl ?_
  refine GL.k rfl hK8 (fun _ _ h => h) ?_
  refine G.seqK fun K19 hK20 => ?_
  refine G.region ?_
  refine GL.sem (j := 1) (H18.ldA (o := 0) (ty := 24) (m := 4) (sub := [.int .u64 (wd x 0 : Int), .int .u64 (wd x 1 : Int), .int .u64 (wd x 2 : Int), .int .u64 (wd x 3 : Int)]) 0 rfl (by kernel_rfl) rfl rfl) [1, 7, 8, 14] [(1, .bool b), (7, pt p12 0), (8, .bool (decide (K4 ≤ n))), (14, wv x)] (by kernel_rfl) (by kernel_rfl) rfl ?_
  refine GL.sem (j := 2) (H18.ldA (o := 0) (ty := 23) (m := 4) (sub := [.int .u64 (wd (n % K4) 0 : Int), .int .u64 (wd (n % K4) 1 : Int), .int .u64 (wd (n % K4) 2 : Int), .int .u64 (wd (n % K4) 3 : Int)]) 1 rfl (by kernel_rfl) rfl rfl) [1, 8, 14, 15] [(1, .bool b), (8, .bool (decide (K4 ≤ n))), (14, wv x), (15, wv (n % K4))] (by kernel_rfl) (by kernel_rfl) rfl ?_
  refine GL.sem (j := 3) (run_arr_eql (P := Try.prog) (t := 24) (n := 4) (k := .u64) (x := (.tmp 14)) (y := (.tmp 15)) (by kernel_rfl) [(wd x 0 : Int), (wd x 1 : Int), (wd x 2 : Int), (wd x 3 : Int)] [(wd (n % K4) 0 : Int), (wd (n % K4) 1 : Int), (wd (n % K4) 2 : Int), (wd (n % K4) 3 : Int)] rfl rfl _) [1, 8, 16] [(1, .bool b), (8, .bool (decide (K4 ≤ n))), (16, .bool (decide (([(wd x 0 : Int), (wd x 1 : Int), (wd x 2 : Int), (wd x 3 : Int)] : List Int) = [(wd (n % K4) 0 : Int), (wd (n % K4) 1 : Int), (wd (n % K4) 2 : Int), (wd (n % K4) 3 : Int)])))] (by kernel_rfl) (by kernel_rfl) rfl ?_
  refine GL.run (j := 4) 1 [1, 8, 17] [(1, .bool b), (8, .bool (decide (K4 ≤ n))), (17, .bool (decide (([(wd x 0 : Int), (wd x 1 : Int), (wd x 2 : Int), (wd x 3 : Int)] : List Int) = [(wd (n % K4) 0 : Int), (wd (n % K4) 1 : Int), (wd (n % K4) 2 : Int), (wd (n % K4) 3 : Int)])))] (by kernel_rfl) rfl ?_
  have hb21 : (decide (([(wd x 0 : Int), (wd x 1 : Int), (wd x 2 : Int), (wd x 3 : Int)] : List Int) = [(wd (n % K4) 0 : Int), (wd (n % K4) 1 : Int), (wd (n % K4) 2 : Int), (wd (n % K4) 3 : Int)])) = true := decide_eq_true (by rw [hx])
  rw [hb21]
  refine GL.run (j := 9) 5 [6] [(6, .bool (b == (decide (K4 ≤ n))))] (by kernel_rfl) rfl ?_
  refine GL.k rfl hK20 (fun _ _ h => h) ?_
  refine G.ret ?_
  intro F_ hF_ hM_
  refine hRet _ _ (bodyPost_1 rfl (RV.tmp rfl) ?_ F_ hF_ hM_)
  have hb22 : (b == (decide (K4 ≤ n))) = true := by rw [hb]; exact beq_self_eq_true _
  rw [hb22]
  exact ⟨rfl, H18.sub (List.nil_sublist _)⟩
end Go.Proofs.Ytpfdpikblijddaa
