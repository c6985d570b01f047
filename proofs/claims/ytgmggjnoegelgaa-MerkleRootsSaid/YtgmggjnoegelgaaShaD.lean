/- The sum of the sum. -/
import Derived.Test.YtgmggjnoegelgaaSha
namespace Go.Proofs.Ytgmggjnoegelgaa
open Go.RowKit
theorem by8_ints (X : List UInt8) : by8 X = ints .u8 (X.map fun b => (b.toNat : Int)) := by simp [by8, ints]
theorem run_by8_eql {P : Program} {t n : Nat} {x y : Operand} (ht : arrInt P t = some n) (X Y : List UInt8) (hx : X.length = n) (hy : Y.length = n) (w : World) :
    (do eqGuard .eql t x y (.agg (by8 X).toArray) (.agg (by8 Y).toArray); binOp .eql t (.agg (by8 X).toArray) (.agg (by8 Y).toArray) : Sem Value).run P w = .ok (.bool (decide (X = Y))) w := by
  rw [by8_ints, by8_ints, run_arr_eql ht _ _ (by rw [List.length_map]; exact hx) (by rw [List.length_map]; exact hy)]
  have e : ((X.map fun b : UInt8 => (b.toNat : Int)) = Y.map fun b : UInt8 => (b.toNat : Int)) ↔ X = Y := List.map_inj_right (fun x y h => UInt8.toNat_inj.1 (by omega))
  rw [decide_eq_decide.2 e]
theorem run_by8_same {P : Program} {t n : Nat} {x y : Operand} (ht : arrInt P t = some n) (X : List UInt8) (hx : X.length = n) (w : World) :
    (do eqGuard .eql t x y (.agg (by8 X).toArray) (.agg (by8 X).toArray); binOp .eql t (.agg (by8 X).toArray) (.agg (by8 X).toArray) : Sem Value).run P w = .ok (.bool true) w := by
  rw [run_by8_eql ht X X hx hx, decide_eq_true rfl]
theorem run_by8_neq {P : Program} {t n : Nat} {x y : Operand} (ht : arrInt P t = some n) (X Y : List UInt8) (hx : X.length = n) (hy : Y.length = n) (w : World) :
    (do eqGuard .neq t x y (.agg (by8 X).toArray) (.agg (by8 Y).toArray); binOp .neq t (.agg (by8 X).toArray) (.agg (by8 Y).toArray) : Sem Value).run P w = .ok (.bool (!(decide (X = Y)))) w := by
  rw [by8_ints, by8_ints, run_arr_neq ht _ _ (by rw [List.length_map]; exact hx) (by rw [List.length_map]; exact hy)]
  have e : ((X.map fun b : UInt8 => (b.toNat : Int)) = Y.map fun b : UInt8 => (b.toNat : Int)) ↔ X = Y := List.map_inj_right (fun x y h => UInt8.toNat_inj.1 (by omega))
  rw [decide_eq_decide.2 e]
theorem Double_calls (A : Option Addr) (n c : Nat) (b : List UInt8) (w : World) (hx : RdS w A (by8 b)) (hn : n = b.length) (hb : b.length ≤ 1000000) : Calls Try.prog 21 #[.slice A n c] w fun e w' => e = .returned (.agg (by8 (sha (sha b))).toArray) ∧ Hp w [] [] w' := by
  subst hn
  refine calls_G (args := [.slice A b.length c]) Try.func21 rfl Try.ntmps21 rfl ?_
  intro Q0 hRet hNor hPan
  have H := Hp.start w
  have H : Hp w [] [] w := H
  refine G.seqK fun K1 hK2 => ?_
  refine G.region ?_
  obtain ⟨p3, w4, r5, H6⟩ := H.alloc (P := Try.prog) 25 (by8 (bsP (fun _ => 0) 32 0)) (by kernel_rfl)
  have H6 : Hp w [] [.blk p3 (by8 (bsP (fun _ => 0) 32 0)) 25] w4 := H6
  refine GL.sem (j := 1) (r5) [0, 2] [(0, .slice A b.length c), (2, pt p3 0)] (by kernel_rfl) (by kernel_rfl) rfl ?_
  refine GL.k rfl hK2 (fun _ _ h => h) ?_
  refine G.seqK fun K7 hK8 => ?_
  refine G.region ?_
  refine GL.run (j := 1) 1 [2, 4] [(2, pt p3 0), (4, .slice A b.length c)] (by kernel_rfl) rfl ?_
  refine GL.call (j := 2) (Sum_calls A b.length c b w4 (hx.hp H6) (rfl) (by omega)) (by kernel_rfl) rfl (fun e_ w9 hR => ?_)
  obtain ⟨rfl, H11⟩ := hR
  have H10 : Hp w [] [.blk p3 (by8 (bsP (fun _ => 0) 32 0)) 25] w9 := H6.callNil H11
  refine ⟨_, rfl, [2, 5], [(2, pt p3 0), (5, .agg (by8 (sha b)).toArray)], by kernel_rfl, ?_⟩
  obtain ⟨p12, w13, r14, H15⟩ := H10.alloc (P := Try.prog) 25 (by8 (bsP (fun _ => 0) 32 0)) (by kernel_rfl)
  have H15 : Hp w [] [.blk p3 (by8 (bsP (fun _ => 0) 32 0)) 25, .blk p12 (by8 (bsP (fun _ => 0) 32 0)) 25] w13 := H15
  refine GL.sem (j := 3) (r14) [2, 3, 5] [(2, pt p3 0), (3, pt p12 0), (5, .agg (by8 (sha b)).toArray)] (by kernel_rfl) (by kernel_rfl) rfl ?_
  obtain ⟨w16, r17, H18⟩ := H15.stA (P := Try.prog) (o := 0) (vs := by8 (sha b)) (ty := 25) (m := 32) 1 rfl (by kernel_rfl) (by rw [by8_length, sha_length]) (Nat.le_of_eq (by rw [Nat.zero_add]; exact ((show (by8 (bsP (fun _ => 0) 32 0)).length = 32 from by rw [by8_length, bsP_length (by omega)])).symm)) (by8_one _)
  rw [st_whole (by rw [by8_length, bsP_length (by omega)])] at H18
  have H18 : Hp w [] [.blk p3 (by8 (bsP (fun _ => 0) 32 0)) 25, .blk p12 (by8 (sha b)) 25] w16 := H18
  refine GL.semU (j := 4) r17 [2, 3] [(2, pt p3 0), (3, pt p12 0)] (by kernel_rfl) rfl rfl rfl ?_
  refine GL.k rfl hK8 (fun _ _ h => h) ?_
  refine G.seqK fun K19 hK20 => ?_
  refine G.region ?_
  refine GL.run (j := 1) 1 [2, 6] [(2, pt p3 0), (6, .slice (some ⟨p12, 0, none⟩) 32 32)] (by kernel_rfl) rfl ?_
  refine GL.call (j := 2) (Sum_calls (some ⟨p12, 0, none⟩) 32 32 (sha b) w16 (H18.rdBlk (o := 0) (xs := by8 (sha b)) 1 32 rfl (sub_whole (by rw [by8_length, sha_length]))) ((sha_length _).symm) (by rw [sha_length]; decide)) (by kernel_rfl) rfl (fun e_ w21 hR => ?_)
  obtain ⟨rfl, H23⟩ := hR
  have H22 : Hp w [] [.blk p3 (by8 (bsP (fun _ => 0) 32 0)) 25, .blk p12 (by8 (sha b)) 25] w21 := H18.callNil H23
  refine ⟨_, rfl, [2, 7], [(2, pt p3 0), (7, .agg (by8 (sha (sha b))).toArray)], by kernel_rfl, ?_⟩
  obtain ⟨w24, r25, H26⟩ := H22.stA (P := Try.prog) (o := 0) (vs := by8 (sha (sha b))) (ty := 25) (m := 32) 0 rfl (by kernel_rfl) (by rw [by8_length, sha_length]) (Nat.le_of_eq (by rw [Nat.zero_add]; exact ((show (by8 (bsP (fun _ => 0) 32 0)).length = 32 from by rw [by8_length, bsP_length (by omega)])).symm)) (by8_one _)
  rw [st_whole (by rw [by8_length, bsP_length (by omega)])] at H26
  have H26 : Hp w [] [.blk p3 (by8 (sha (sha b))) 25, .blk p12 (by8 (sha b)) 25] w24 := H26
  refine GL.semU (j := 3) r25 [2] [(2, pt p3 0)] (by kernel_rfl) rfl rfl rfl ?_
  refine GL.k rfl hK20 (fun _ _ h => h) ?_
  refine G.ret ?_
  intro F_ hF_ hM_
  refine hRet _ _ (bodyPost_1 rfl (RV.cell rfl (H26.ldA (o := 0) (ty := 25) (m := 32) (sub := by8 (sha (sha b))) 0 rfl (by kernel_rfl) (sub_whole (by rw [by8_length, sha_length])) (by rw [by8_length, sha_length]))) ?_ F_ hF_ hM_)
  exact ⟨rfl, H26.sub (List.nil_sublist _)⟩
end Go.Proofs.Ytgmggjnoegelgaa
