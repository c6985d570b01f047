/- The chapter's example. -/
import Derived.Test.YtgbhiklengafiaaMoney
namespace Go.Proofs.Ytgbhiklengafiaa
open Go.RowKit
theorem Part_upA (a u d : Nat) (ha : a < K) (hu : u < K) (hd : d < K) (w : World) : Calls Try.prog 8 #[.int .u64 (a : Int), .int .u64 (u : Int), .int .u64 (d : Int), .bool true] w fun e w' => e = .returned (.tuple #[.int .u64 ((partV a u d true : Nat) : Int), .int .i64 ((partE a u d true : Nat) : Int)]) ∧ Hp w [] [] w' := by
  by_cases h : d = 0
  · subst h
    exact Part_up0 a u ha hu w
  · exact Part_up a u d ha hu hd h w
theorem Part_downA (a u d : Nat) (ha : a < K) (hu : u < K) (hd : d < K) (w : World) : Calls Try.prog 8 #[.int .u64 (a : Int), .int .u64 (u : Int), .int .u64 (d : Int), .bool false] w fun e w' => e = .returned (.tuple #[.int .u64 ((partV a u d false : Nat) : Int), .int .i64 ((partE a u d false : Nat) : Int)]) ∧ Hp w [] [] w' := by
  by_cases h : d = 0
  · subst h
    exact Part_down0 a u ha hu w
  · exact Part_down a u d ha hu hd h w
theorem lives_calls (w : World) : Calls Try.prog 7 #[] w fun e w' => e = .returned (.bool true) ∧ Hp w [] [] w' := by
  refine calls_G (args := []) Try.func7 rfl Try.ntmps7 rfl ?_
  intro Q0 hRet hNor hPan
  have H := Hp.start w
  have H : Hp w [] [] w := H
  refine G.seqK fun K1 hK2 => ?_
  refine G.region ?_
  refine GL.run (j := 1) 1 [] [] (by kernel_rfl) rfl ?_
  refine GL.k rfl hK2 (fun _ _ h => h) ?_
  refine G.seqK fun K3 hK4 => ?_
  refine G.region ?_
  refine GL.call (j := 1) (Part_downA 10 2 3 (by decide) (by decide) (by decide) w) (by kernel_rfl) rfl (fun e_ w5 hR => ?_)
  obtain ⟨rfl, H7⟩ := hR
  have H6 : Hp w [] [] w5 := H.callNil H7
  refine ⟨_, rfl, [6], [(6, .tuple #[.int .u64 (((partV 10 2 3 false) : Nat) : Int), .int .i64 (((partE 10 2 3 false) : Nat) : Int)])], by kernel_rfl, ?_⟩
  refine GL.run (j := 6) 5 [1, 2] [(1, .int .u64 (((partV 10 2 3 false) : Nat) : Int)), (2, .int .i64 (((partE 10 2 3 false) : Nat) : Int))] (by kernel_rfl) rfl ?_
  refine GL.k rfl hK4 (fun _ _ h => h) ?_
  refine G.seqK fun K8 hK9 => ?_
  refine G.region ?_
  refine GL.call (j := 1) (Part_upA 10 2 3 (by decide) (by decide) (by decide) w5) (by kernel_rfl) rfl (fun e_ w10 hR => ?_)
  obtain ⟨rfl, H12⟩ := hR
  have H11 : Hp w [] [] w10 := H6.callNil H12
  refine ⟨_, rfl, [1, 2, 10], [(1, .int .u64 (((partV 10 2 3 false) : Nat) : Int)), (2, .int .i64 (((partE 10 2 3 false) : Nat) : Int)), (10, .tuple #[.int .u64 (((partV 10 2 3 true) : Nat) : Int), .int .i64 (((partE 10 2 3 true) : Nat) : Int)])], by kernel_rfl, ?_⟩
  refine GL.run (j := 6) 5 [1, 2, 3, 4] [(1, .int .u64 (((partV 10 2 3 false) : Nat) : Int)), (2, .int .i64 (((partE 10 2 3 false) : Nat) : Int)), (3, .int .u64 (((partV 10 2 3 true) : Nat) : Int)), (4, .int .i64 (((partE 10 2 3 true) : Nat) : Int))] (by kernel_rfl) rfl ?_
  refine GL.k rfl hK9 (fun _ _ h => h) ?_
  refine G.seqK fun K13 hK14 => ?_
  refine G.region ?_
  refine GL.run (j := 3) 3 [1, 3, 4, 15] [(1, .int .u64 (((partV 10 2 3 false) : Nat) : Int)), (3, .int .u64 (((partV 10 2 3 true) : Nat) : Int)), (4, .int .i64 (((partE 10 2 3 true) : Nat) : Int)), (15, .bool ((((partE 10 2 3 false) : Nat) : Int) == 0))] (by kernel_rfl) rfl ?_
  have hb15 : ((((partE 10 2 3 false) : Nat) : Int) == 0) = true := by kernel_rfl
  rw [hb15]
  refine GL.run (j := 7) 4 [1, 3, 19] [(1, .int .u64 (((partV 10 2 3 false) : Nat) : Int)), (3, .int .u64 (((partV 10 2 3 true) : Nat) : Int)), (19, .bool ((((partE 10 2 3 true) : Nat) : Int) == 0))] (by kernel_rfl) rfl ?_
  have hb16 : ((((partE 10 2 3 true) : Nat) : Int) == 0) = true := by kernel_rfl
  rw [hb16]
  refine GL.run (j := 11) 4 [3, 23] [(3, .int .u64 (((partV 10 2 3 true) : Nat) : Int)), (23, .bool ((((partV 10 2 3 false) : Nat) : Int) == 6))] (by kernel_rfl) rfl ?_
  have hb17 : ((((partV 10 2 3 false) : Nat) : Int) == 6) = true := by kernel_rfl
  rw [hb17]
  refine GL.run (j := 15) 4 [0] [(0, .bool ((((partV 10 2 3 true) : Nat) : Int) == 7))] (by kernel_rfl) rfl ?_
  refine GL.k rfl hK14 (fun _ _ h => h) ?_
  refine G.ret ?_
  intro F_ hF_ hM_
  refine hRet _ _ (bodyPost_1 rfl (RV.tmp rfl) ?_ F_ hF_ hM_)
  have hb18 : ((((partV 10 2 3 true) : Nat) : Int) == 7) = true := by kernel_rfl
  rw [hb18]
  exact ⟨rfl, H11.sub (List.nil_sublist _)⟩
end Go.Proofs.Ytgbhiklengafiaa
