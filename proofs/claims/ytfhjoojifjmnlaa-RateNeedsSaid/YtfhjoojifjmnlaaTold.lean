/- An answer held against the document's. -/
import Derived.Test.YtfhjoojifjmnlaaLives
import Derived.Test.YtfhjoojifjmnlaaRef5
namespace Go.Proofs.Ytfhjoojifjmnlaa
open Go.RowKit
theorem told_no (a e v : Nat) (f : Bool) (h : e = 1 ∧ a = 0) (w : World) : Calls Try.prog 12 #[.int .u64 (a : Int), .int .i64 (e : Int), .bool false, .int .u64 (v : Int), .bool f] w fun e w' => e = .returned (.bool true) ∧ Hp w [] [] w' := by
  refine calls_G (args := [.int .u64 (a : Int), .int .i64 (e : Int), .bool false, .int .u64 (v : Int), .bool f]) Try.func12 rfl Try.ntmps12 rfl ?_
  intro Q0 hRet hNor hPan
  have H := Hp.start w
  have H : Hp w [] [] w := H
  refine G.seqK fun K1 hK2 => ?_
  refine G.region ?_
  refine GL.run (j := 1) 1 [0, 1, 2, 3, 4] [(0, .int .u64 (a : Int)), (1, .int .i64 (e : Int)), (2, .bool false), (3, .int .u64 (v : Int)), (4, .bool f)] (by kernel_rfl) rfl ?_
  refine GL.k rfl hK2 (fun _ _ h => h) ?_
  refine G.seqK fun K3 hK4 => ?_
  refine G.block ?_
  refine G.seqK fun K5 hK6 => ?_
  refine G.region ?_
  refine GL.run (j := 3) 3 [0, 1, 3, 4, 11] [(0, .int .u64 (a : Int)), (1, .int .i64 (e : Int)), (3, .int .u64 (v : Int)), (4, .bool f), (11, .bool true)] (by kernel_rfl) rfl ?_
  refine GL.k rfl hK6 (fun _ _ h => h) ?_
  refine G.yes rfl ?_
  refine G.seqK fun K7 hK8 => ?_
  refine G.region ?_
  refine GL.run (j := 3) 3 [0, 16] [(0, .int .u64 (a : Int)), (16, .bool ((e : Int) == 1))] (by kernel_rfl) rfl ?_
  have hb9 : ((e : Int) == 1) = true := by rw [beq_iff_eq]; omega
  rw [hb9]
  refine GL.run (j := 7) 4 [10] [(10, .bool ((a : Int) == 0))] (by kernel_rfl) rfl ?_
  refine GL.k rfl hK8 (fun _ _ h => h) ?_
  refine G.ret ?_
  intro F_ hF_ hM_
  refine hRet _ _ (bodyPost_1 rfl (RV.tmp rfl) ?_ F_ hF_ hM_)
  have hb10 : ((a : Int) == 0) = true := by rw [beq_iff_eq]; omega
  rw [hb10]
  exact ⟨rfl, H.sub (List.nil_sublist _)⟩
theorem told_over (a e v : Nat) (h : e = 4 ∧ a = 0) (w : World) : Calls Try.prog 12 #[.int .u64 (a : Int), .int .i64 (e : Int), .bool true, .int .u64 (v : Int), .bool false] w fun e w' => e = .returned (.bool true) ∧ Hp w [] [] w' := by
  refine calls_G (args := [.int .u64 (a : Int), .int .i64 (e : Int), .bool true, .int .u64 (v : Int), .bool false]) Try.func12 rfl Try.ntmps12 rfl ?_
  intro Q0 hRet hNor hPan
  have H := Hp.start w
  have H : Hp w [] [] w := H
  refine G.seqK fun K1 hK2 => ?_
  refine G.region ?_
  refine GL.run (j := 1) 1 [0, 1, 2, 3, 4] [(0, .int .u64 (a : Int)), (1, .int .i64 (e : Int)), (2, .bool true), (3, .int .u64 (v : Int)), (4, .bool false)] (by kernel_rfl) rfl ?_
  refine GL.k rfl hK2 (fun _ _ h => h) ?_
  refine G.seqK fun K3 hK4 => ?_
  refine G.block ?_
  refine G.seqK fun K5 hK6 => ?_
  refine G.region ?_
  refine GL.run (j := 3) 3 [0, 1, 3, 4, 11] [(0, .int .u64 (a : Int)), (1, .int .i64 (e : Int)), (3, .int .u64 (v : Int)), (4, .bool false), (11, .bool false)] (by kernel_rfl) rfl ?_
  refine GL.k rfl hK6 (fun _ _ h => h) ?_
  refine G.no rfl ?_
  refine G.seqK fun K7 hK8 => ?_
  refine G.region ?_
  refine GL.run (j := 3) 3 [0, 1, 3, 20] [(0, .int .u64 (a : Int)), (1, .int .i64 (e : Int)), (3, .int .u64 (v : Int)), (20, .bool true)] (by kernel_rfl) rfl ?_
  refine GL.k rfl hK8 (fun _ _ h => h) ?_
  refine G.yes rfl ?_
  refine G.seqK fun K9 hK10 => ?_
  refine G.region ?_
  refine GL.run (j := 3) 3 [0, 25] [(0, .int .u64 (a : Int)), (25, .bool ((e : Int) == 4))] (by kernel_rfl) rfl ?_
  have hb11 : ((e : Int) == 4) = true := by rw [beq_iff_eq]; omega
  rw [hb11]
  refine GL.run (j := 7) 4 [10] [(10, .bool ((a : Int) == 0))] (by kernel_rfl) rfl ?_
  refine GL.k rfl hK10 (fun _ _ h => h) ?_
  refine G.ret ?_
  intro F_ hF_ hM_
  refine hRet _ _ (bodyPost_1 rfl (RV.tmp rfl) ?_ F_ hF_ hM_)
  have hb12 : ((a : Int) == 0) = true := by rw [beq_iff_eq]; omega
  rw [hb12]
  exact ⟨rfl, H.sub (List.nil_sublist _)⟩
theorem told_ok (a e v : Nat) (h : e = 0 ∧ a = v) (w : World) : Calls Try.prog 12 #[.int .u64 (a : Int), .int .i64 (e : Int), .bool true, .int .u64 (v : Int), .bool true] w fun e w' => e = .returned (.bool true) ∧ Hp w [] [] w' := by
  refine calls_G (args := [.int .u64 (a : Int), .int .i64 (e : Int), .bool true, .int .u64 (v : Int), .bool true]) Try.func12 rfl Try.ntmps12 rfl ?_
  intro Q0 hRet hNor hPan
  have H := Hp.start w
  have H : Hp w [] [] w := H
  refine G.seqK fun K1 hK2 => ?_
  refine G.region ?_
  refine GL.run (j := 1) 1 [0, 1, 2, 3, 4] [(0, .int .u64 (a : Int)), (1, .int .i64 (e : Int)), (2, .bool true), (3, .int .u64 (v : Int)), (4, .bool true)] (by kernel_rfl) rfl ?_
  refine GL.k rfl hK2 (fun _ _ h => h) ?_
  refine G.seqK fun K3 hK4 => ?_
  refine G.block ?_
  refine G.seqK fun K5 hK6 => ?_
  refine G.region ?_
  refine GL.run (j := 3) 3 [0, 1, 3, 4, 11] [(0, .int .u64 (a : Int)), (1, .int .i64 (e : Int)), (3, .int .u64 (v : Int)), (4, .bool true), (11, .bool false)] (by kernel_rfl) rfl ?_
  refine GL.k rfl hK6 (fun _ _ h => h) ?_
  refine G.no rfl ?_
  refine G.seqK fun K7 hK8 => ?_
  refine G.region ?_
  refine GL.run (j := 3) 3 [0, 1, 3, 20] [(0, .int .u64 (a : Int)), (1, .int .i64 (e : Int)), (3, .int .u64 (v : Int)), (20, .bool false)] (by kernel_rfl) rfl ?_
  refine GL.k rfl hK8 (fun _ _ h => h) ?_
  refine G.no rfl ?_
  refine G.skipK hK4 (fun _ _ h => h) ?_
  refine G.seqK fun K9 hK10 => ?_
  refine G.region ?_
  refine GL.run (j := 3) 3 [0, 3, 31] [(0, .int .u64 (a : Int)), (3, .int .u64 (v : Int)), (31, .bool ((e : Int) == 0))] (by kernel_rfl) rfl ?_
  have hb11 : ((e : Int) == 0) = true := by rw [beq_iff_eq]; omega
  rw [hb11]
  refine GL.run (j := 8) 5 [10] [(10, .bool ((a : Int) == (v : Int)))] (by kernel_rfl) rfl ?_
  refine GL.k rfl hK10 (fun _ _ h => h) ?_
  refine G.ret ?_
  intro F_ hF_ hM_
  refine hRet _ _ (bodyPost_1 rfl (RV.tmp rfl) ?_ F_ hF_ hM_)
  have hb12 : ((a : Int) == (v : Int)) = true := by rw [beq_iff_eq]; omega
  rw [hb12]
  exact ⟨rfl, H.sub (List.nil_sublist _)⟩
theorem told_calls (a e v : Nat) (r f : Bool) (h0 : r = false → e = 1 ∧ a = 0) (h1 : r = true → (f = false → e = 4 ∧ a = 0) ∧ (f = true → e = 0 ∧ a = v)) (w : World) : Calls Try.prog 12 #[.int .u64 (a : Int), .int .i64 (e : Int), .bool r, .int .u64 (v : Int), .bool f] w fun e w' => e = .returned (.bool true) ∧ Hp w [] [] w' := by
  cases r
  · exact told_no a e v f (h0 rfl) w
  · cases f
    · exact told_over a e v ((h1 rfl).1 rfl) w
    · exact told_ok a e v ((h1 rfl).2 rfl) w
end Go.Proofs.Ytfhjoojifjmnlaa
