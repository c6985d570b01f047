/- Heads as bytes. -/
import Derived.Test.YtdepaaphgfapjaaHdrO
import Derived.Test.YtdepaaphgfapjaaDigT
namespace Go.Proofs.Ytdepaaphgfapjaa
open Go.RowKit
/-- A head's cells; its bytes. -/
def hdC (v : Nat) (A R : List UInt8) (t b n : Nat) : List Value := .int .u32 (v : Int) :: (by8 A ++ (by8 R ++ [.int .u32 (t : Int), .int .u32 (b : Int), .int .u32 (n : Int)]))
def hdB (v : Nat) (A R : List UInt8) (t b n : Nat) : List UInt8 := putB v 4 ++ A ++ R ++ putB t 4 ++ putB b 4 ++ putB n 4
section
variable {v t b n : Nat} {A R : List UInt8}
theorem hdC_length (hA : A.length = 32) (hR : R.length = 32) : (hdC v A R t b n).length = 68 := by simp [hdC, by8_length, hA, hR]
theorem hdB_length (hA : A.length = 32) (hR : R.length = 32) : (hdB v A R t b n).length = 80 := by simp [hdB, putB_length, hA, hR]
theorem hdC_tail (hA : A.length = 32) (hR : R.length = 32) (i : Nat) : (hdC v A R t b n)[65 + i]? = ([.int .u32 (t : Int), .int .u32 (b : Int), .int .u32 (n : Int)] : List Value)[i]? := by
  rw [hdC, show 65 + i = (32 + (32 + i)) + 1 by omega, List.getElem?_cons_succ, List.getElem?_append_right (by rw [by8_length]; omega), List.getElem?_append_right (by rw [by8_length, by8_length]; omega), by8_length, by8_length, hA, hR]
  congr 1
  omega
theorem hdC_t (hA : A.length = 32) (hR : R.length = 32) : (hdC v A R t b n)[65]? = some (.int .u32 (t : Int)) := hdC_tail hA hR 0
theorem hdC_b (hA : A.length = 32) (hR : R.length = 32) : (hdC v A R t b n)[66]? = some (.int .u32 (b : Int)) := hdC_tail hA hR 1
theorem hdC_n (hA : A.length = 32) (hR : R.length = 32) : (hdC v A R t b n)[67]? = some (.int .u32 (n : Int)) := hdC_tail hA hR 2
theorem hdC_A (hA : A.length = 32) : ((hdC v A R t b n).drop 1).take 32 = by8 A := by
  show (by8 A ++ _).take 32 = _
  exact List.take_left' (by rw [by8_length, hA])
theorem hdC_R (hA : A.length = 32) (hR : R.length = 32) : ((hdC v A R t b n).drop 33).take 32 = by8 R := by
  show ((by8 A ++ _).drop 32).take 32 = _
  rw [List.drop_left' (by rw [by8_length, hA])]
  exact List.take_left' (by rw [by8_length, hR])
theorem hdC_one : ∀ q ∈ hdC v A R t b n, q.oneCell' = true := by
  intro q hq
  simp only [hdC, List.mem_cons, List.mem_append, List.not_mem_nil, or_false] at hq
  rcases hq with rfl | h | h | rfl | rfl | rfl
  · rfl
  · exact by8_one _ q h
  · exact by8_one _ q h
  · rfl
  · rfl
  · rfl
end
theorem HBytes_calls (v : Nat) (A R : List UInt8) (t b n : Nat) (w : World) (hA : A.length = 32) (hR : R.length = 32) (hv : v < 4294967296) (ht : t < 4294967296) (hb : b < 4294967296) (hn : n < 4294967296) : Calls Try.prog 8 #[.agg (hdC v A R t b n).toArray] w fun e w' => ∃ A' c', e = .returned (.slice A' 80 c') ∧ Hp w [] [.row A' 80 c' 5 1 (by8 (hdB v A R t b n))] w' := by
  refine calls_G (args := [.agg (hdC v A R t b n).toArray]) Try.func8 rfl Try.ntmps8 rfl ?_
  intro Q0 hRet hNor hPan
  have H := Hp.start w
  have H : Hp w [] [] w := H
  refine G.seqK fun K1 hK2 => ?_
  refine G.region ?_
  obtain ⟨p3, w4, r5, H6⟩ := H.box (P := Try.prog) 26 (hdC v A R t b n) (.agg (hdC v A R t b n).toArray) rfl
  have H6 : Hp w [] [.blk p3 (hdC v A R t b n) 26] w4 := H6
  refine GL.sem (j := 1) (r5) [1] [(1, pt p3 0)] (by kernel_rfl) (by kernel_rfl) rfl ?_
  refine GL.run (j := 2) 1 [1] [(1, pt p3 0)] (by kernel_rfl) rfl ?_
  refine GL.k rfl hK2 (fun _ _ h => h) ?_
  refine G.seqK fun K7 hK8 => ?_
  refine G.region ?_
  obtain ⟨p9, w10, r11, H12⟩ := H6.alloc (P := Try.prog) 57 [.slice none 0 0] (by kernel_rfl)
  have H12 : Hp w [] [.blk p3 (hdC v A R t b n) 26, .blk p9 [.slice none 0 0] 57] w10 := H12
  refine GL.sem (j := 1) (r11) [1, 3] [(1, pt p3 0), (3, pt p9 0)] (by kernel_rfl) (by kernel_rfl) rfl ?_
  refine GL.k rfl hK8 (fun _ _ h => h) ?_
  refine G.seqK fun K13 hK14 => ?_
  refine G.region ?_
  refine GL.run (j := 1) 1 [1, 3, 6] [(1, pt p3 0), (3, pt p9 0), (6, pt p3 0)] (by kernel_rfl) rfl ?_
  refine GL.sem (j := 2) (H12.ld (o := 0) (ty := 22) (v := .int .u32 (v : Int)) 0 rfl (by kernel_rfl) (rfl)) [1, 3, 7] [(1, pt p3 0), (3, pt p9 0), (7, .int .u32 (v : Int))] (by kernel_rfl) (by kernel_rfl) rfl ?_
  refine GL.run (j := 3) 1 [1, 3, 8] [(1, pt p3 0), (3, pt p9 0), (8, .int .u64 (IntKind.u64.wrap (v : Int)))] (by kernel_rfl) rfl ?_
  have e15 : (IntKind.u64.wrap (v : Int)) = (v : Int) := in_u64 (by omega)
  refine GL.eq (M' := [(1, pt p3 0), (3, pt p9 0), (8, .int .u64 (v : Int))]) (by rw [e15]) ?_
  clear e15
  have H16 := H12.rowNil 5 1
  have H16 : Hp w [] [.blk p3 (hdC v A R t b n) 26, .blk p9 [.slice none 0 0] 57, .row none 0 0 5 1 (by8 ([] : List UInt8))] w10 := H16
  have H19 := (Hp.reorder (L' := [.blk p9 [.slice none 0 0] 57, .row none 0 0 5 1 (by8 ([] : List UInt8)), .blk p3 (hdC v A R t b n) 26]) H16 (List.Perm.trans (List.Perm.swap _ _ _) (List.Perm.cons _ (List.Perm.trans (List.Perm.swap _ _ _) (List.Perm.refl _)))))
  refine GL.call (j := 4) (Put4_calls (ids [.blk p9 [.slice none 0 0] 57, .row none 0 0 5 1 (by8 ([] : List UInt8))]) p9 none 0 0 ([] : List UInt8) v w10 (Hp.startL (A := [.blk p9 [.slice none 0 0] 57, .row none 0 0 5 1 (by8 ([] : List UInt8))]) (B := [.blk p3 (hdC v A R t b n) 26]) H19) (by omega)) (by kernel_rfl) rfl (fun e_ w20 hR => ?_)
  obtain ⟨A17, c18, rfl, H22⟩ := hR
  have H21 : Hp w [] [.blk p9 [.slice A17 4 c18] 57, .row A17 4 c18 5 1 (by8 (putB v 4)), .blk p3 (hdC v A R t b n) 26] w20 := Hp.callL (A := [.blk p9 [.slice none 0 0] 57, .row none 0 0 5 1 (by8 ([] : List UInt8))]) (B := [.blk p3 (hdC v A R t b n) 26]) H19 H22
  refine ⟨_, rfl, [1, 3], [(1, pt p3 0), (3, pt p9 0)], by kernel_rfl, ?_⟩
  refine GL.k rfl hK14 (fun _ _ h => h) ?_
  refine G.seqK fun K23 hK24 => ?_
  refine G.region ?_
  refine GL.run (j := 2) 2 [1, 3, 11] [(1, pt p3 0), (3, pt p9 0), (11, .slice (some ⟨p3, 1, none⟩) 32 32)] (by kernel_rfl) rfl ?_
  refine GL.call (j := 3) (WRaw_calls (ids [.blk p9 [.slice A17 4 c18] 57, .row A17 4 c18 5 1 (by8 (putB v 4))]) p9 A17 4 c18 (putB v 4) (some ⟨p3, 1, none⟩) 32 32 A w20 (Hp.startL (A := [.blk p9 [.slice A17 4 c18] 57, .row A17 4 c18 5 1 (by8 (putB v 4))]) (B := [.blk p3 (hdC v A R t b n) 26]) H21) (by omega) (RdO.blk (A' := [.blk p9 [.slice A17 4 c18] 57, .row A17 4 c18 5 1 (by8 (putB v 4))]) (B' := [.blk p3 (hdC v A R t b n) 26]) H21 0 32 rfl (hdC_A hA)) (by first | rfl | omega | (simp only [List.length_cons, List.length_nil, List.length_drop, List.length_take, List.length_append] <;> omega)) (by omega)) (by kernel_rfl) rfl (fun e_ w27 hR => ?_)
  obtain ⟨A25, c26, rfl, H29⟩ := hR
  have H28 : Hp w [] [.blk p9 [.slice A25 (4 + 32) c26] 57, .row A25 (4 + 32) c26 5 1 (by8 ((putB v 4) ++ A)), .blk p3 (hdC v A R t b n) 26] w27 := Hp.callL (A := [.blk p9 [.slice A17 4 c18] 57, .row A17 4 c18 5 1 (by8 (putB v 4))]) (B := [.blk p3 (hdC v A R t b n) 26]) H21 H29
  refine ⟨_, rfl, [1, 3], [(1, pt p3 0), (3, pt p9 0)], by kernel_rfl, ?_⟩
  refine GL.k rfl hK24 (fun _ _ h => h) ?_
  refine G.seqK fun K30 hK31 => ?_
  refine G.region ?_
  refine GL.run (j := 2) 2 [1, 3, 14] [(1, pt p3 0), (3, pt p9 0), (14, .slice (some ⟨p3, 33, none⟩) 32 32)] (by kernel_rfl) rfl ?_
  refine GL.call (j := 3) (WRaw_calls (ids [.blk p9 [.slice A25 (4 + 32) c26] 57, .row A25 (4 + 32) c26 5 1 (by8 ((putB v 4) ++ A))]) p9 A25 (4 + 32) c26 ((putB v 4) ++ A) (some ⟨p3, 33, none⟩) 32 32 R w27 (Hp.startL (A := [.blk p9 [.slice A25 (4 + 32) c26] 57, .row A25 (4 + 32) c26 5 1 (by8 ((putB v 4) ++ A))]) (B := [.blk p3 (hdC v A R t b n) 26]) H28) (by omega) (RdO.blk (A' := [.blk p9 [.slice A25 (4 + 32) c26] 57, .row A25 (4 + 32) c26 5 1 (by8 ((putB v 4) ++ A))]) (B' := [.blk p3 (hdC v A R t b n) 26]) H28 0 32 rfl (hdC_R hA hR)) (by first | rfl | omega | (simp only [List.length_cons, List.length_nil, List.length_drop, List.length_take, List.length_append] <;> omega)) (by omega)) (by kernel_rfl) rfl (fun e_ w34 hR => ?_)
  obtain ⟨A32, c33, rfl, H36⟩ := hR
  have H35 : Hp w [] [.blk p9 [.slice A32 ((4 + 32) + 32) c33] 57, .row A32 ((4 + 32) + 32) c33 5 1 (by8 (((putB v 4) ++ A) ++ R)), .blk p3 (hdC v A R t b n) 26] w34 := Hp.callL (A := [.blk p9 [.slice A25 (4 + 32) c26] 57, .row A25 (4 + 32) c26 5 1 (by8 ((putB v 4) ++ A))]) (B := [.blk p3 (hdC v A R t b n) 26]) H28 H36
  refine ⟨_, rfl, [1, 3], [(1, pt p3 0), (3, pt p9 0)], by kernel_rfl, ?_⟩
  refine GL.k rfl hK31 (fun _ _ h => h) ?_
  refine G.seqK fun K37 hK38 => ?_
  refine G.seqK fun K39 hK40 => ?_
  refine G.region ?_
  refine GL.run (j := 1) 1 [1, 3, 16] [(1, pt p3 0), (3, pt p9 0), (16, pt p3 65)] (by kernel_rfl) rfl ?_
  refine GL.sem (j := 2) (H35.ld (o := 65) (ty := 22) (v := .int .u32 (t : Int)) 2 rfl (by kernel_rfl) (hdC_t hA hR)) [1, 3, 17] [(1, pt p3 0), (3, pt p9 0), (17, .int .u32 (t : Int))] (by kernel_rfl) (by kernel_rfl) rfl ?_
  refine GL.run (j := 3) 1 [1, 3, 17, 18] [(1, pt p3 0), (3, pt p9 0), (17, .int .u32 (t : Int)), (18, pt p3 66)] (by kernel_rfl) rfl ?_
  refine GL.sem (j := 4) (H35.ld (o := 66) (ty := 22) (v := .int .u32 (b : Int)) 2 rfl (by kernel_rfl) (hdC_b hA hR)) [1, 3, 17, 19] [(1, pt p3 0), (3, pt p9 0), (17, .int .u32 (t : Int)), (19, .int .u32 (b : Int))] (by kernel_rfl) (by kernel_rfl) rfl ?_
  refine GL.run (j := 5) 1 [3, 17, 19, 20] [(3, pt p9 0), (17, .int .u32 (t : Int)), (19, .int .u32 (b : Int)), (20, pt p3 67)] (by kernel_rfl) rfl ?_
  refine GL.sem (j := 6) (H35.ld (o := 67) (ty := 22) (v := .int .u32 (n : Int)) 2 rfl (by kernel_rfl) (hdC_n hA hR)) [3, 17, 19, 21] [(3, pt p9 0), (17, .int .u32 (t : Int)), (19, .int .u32 (b : Int)), (21, .int .u32 (n : Int))] (by kernel_rfl) (by kernel_rfl) rfl ?_
  refine GL.run (j := 8) 2 [3, 22, 23] [(3, pt p9 0), (22, .agg #[.int .u32 (t : Int), .int .u32 (b : Int), .int .u32 (n : Int)]), (23, .int .i64 0)] (by kernel_rfl) rfl ?_
  refine GL.k rfl hK40 (fun _ _ h => h) ?_
  refine G.block ?_
  refine G.unroll 4 ?_
  refine G.seqK fun K41 hK42 => ?_
  refine G.region ?_
  refine GL.run (j := 1) 1 [3, 22, 23, 24] [(3, pt p9 0), (22, .agg #[.int .u32 (t : Int), .int .u32 (b : Int), .int .u32 (n : Int)]), (23, .int .i64 0), (24, .bool true)] (by kernel_rfl) rfl ?_
  refine GL.k rfl hK42 (fun _ _ h => h) ?_
  refine G.seqK fun K43 hK44 => ?_
  refine G.yes rfl ?_
  refine G.skipK hK44 (fun _ _ h => h) ?_
  refine G.seqK fun K45 hK46 => ?_
  refine G.block ?_
  refine G.seqK fun K47 hK48 => ?_
  refine G.region ?_
  refine GL.run (j := 2) 2 [3, 5, 22, 23] [(3, pt p9 0), (5, .int .u32 (t : Int)), (22, .agg #[.int .u32 (t : Int), .int .u32 (b : Int), .int .u32 (n : Int)]), (23, .int .i64 0)] (by kernel_rfl) rfl ?_
  refine GL.k rfl hK48 (fun _ _ h => h) ?_
  refine G.region ?_
  refine GL.run (j := 2) 2 [3, 22, 23, 27] [(3, pt p9 0), (22, .agg #[.int .u32 (t : Int), .int .u32 (b : Int), .int .u32 (n : Int)]), (23, .int .i64 0), (27, .int .u64 (IntKind.u64.wrap (t : Int)))] (by kernel_rfl) rfl ?_
  have e49 : (IntKind.u64.wrap (t : Int)) = (t : Int) := in_u64 (by omega)
  refine GL.eq (M' := [(3, pt p9 0), (22, .agg #[.int .u32 (t : Int), .int .u32 (b : Int), .int .u32 (n : Int)]), (23, .int .i64 0), (27, .int .u64 (t : Int))]) (by rw [e49]) ?_
  clear e49
  refine GL.call (j := 3) (Put4_calls (ids [.blk p9 [.slice A32 ((4 + 32) + 32) c33] 57, .row A32 ((4 + 32) + 32) c33 5 1 (by8 (((putB v 4) ++ A) ++ R))]) p9 A32 ((4 + 32) + 32) c33 (((putB v 4) ++ A) ++ R) t w34 (Hp.startL (A := [.blk p9 [.slice A32 ((4 + 32) + 32) c33] 57, .row A32 ((4 + 32) + 32) c33 5 1 (by8 (((putB v 4) ++ A) ++ R))]) (B := [.blk p3 (hdC v A R t b n) 26]) H35) (by omega)) (by kernel_rfl) rfl (fun e_ w52 hR => ?_)
  obtain ⟨A50, c51, rfl, H54⟩ := hR
  have H53 : Hp w [] [.blk p9 [.slice A50 (((4 + 32) + 32) + 4) c51] 57, .row A50 (((4 + 32) + 32) + 4) c51 5 1 (by8 ((((putB v 4) ++ A) ++ R) ++ (putB t 4))), .blk p3 (hdC v A R t b n) 26] w52 := Hp.callL (A := [.blk p9 [.slice A32 ((4 + 32) + 32) c33] 57, .row A32 ((4 + 32) + 32) c33 5 1 (by8 (((putB v 4) ++ A) ++ R))]) (B := [.blk p3 (hdC v A R t b n) 26]) H35 H54
  refine ⟨_, rfl, [3, 22, 23], [(3, pt p9 0), (22, .agg #[.int .u32 (t : Int), .int .u32 (b : Int), .int .u32 (n : Int)]), (23, .int .i64 0)], by kernel_rfl, ?_⟩
  refine GL.k rfl hK46 (fun _ _ h => h) ?_
  refine G.region ?_
  refine GL.run (j := 2) 2 [3, 22, 23] [(3, pt p9 0), (22, .agg #[.int .u32 (t : Int), .int .u32 (b : Int), .int .u32 (n : Int)]), (23, .int .i64 1)] (by kernel_rfl) rfl ?_
  refine GL.round rfl ?_
  refine G.seqK fun K55 hK56 => ?_
  refine G.region ?_
  refine GL.run (j := 1) 1 [3, 22, 23, 24] [(3, pt p9 0), (22, .agg #[.int .u32 (t : Int), .int .u32 (b : Int), .int .u32 (n : Int)]), (23, .int .i64 1), (24, .bool true)] (by kernel_rfl) rfl ?_
  refine GL.k rfl hK56 (fun _ _ h => h) ?_
  refine G.seqK fun K57 hK58 => ?_
  refine G.yes rfl ?_
  refine G.skipK hK58 (fun _ _ h => h) ?_
  refine G.seqK fun K59 hK60 => ?_
  refine G.block ?_
  refine G.seqK fun K61 hK62 => ?_
  refine G.region ?_
  refine GL.run (j := 2) 2 [3, 5, 22, 23] [(3, pt p9 0), (5, .int .u32 (b : Int)), (22, .agg #[.int .u32 (t : Int), .int .u32 (b : Int), .int .u32 (n : Int)]), (23, .int .i64 1)] (by kernel_rfl) rfl ?_
  refine GL.k rfl hK62 (fun _ _ h => h) ?_
  refine G.region ?_
  refine GL.run (j := 2) 2 [3, 22, 23, 27] [(3, pt p9 0), (22, .agg #[.int .u32 (t : Int), .int .u32 (b : Int), .int .u32 (n : Int)]), (23, .int .i64 1), (27, .int .u64 (IntKind.u64.wrap (b : Int)))] (by kernel_rfl) rfl ?_
  have e63 : (IntKind.u64.wrap (b : Int)) = (b : Int) := in_u64 (by omega)
  refine GL.eq (M' := [(3, pt p9 0), (22, .agg #[.int .u32 (t : Int), .int .u32 (b : Int), .int .u32 (n : Int)]), (23, .int .i64 1), (27, .int .u64 (b : Int))]) (by rw [e63]) ?_
  clear e63
  refine GL.call (j := 3) (Put4_calls (ids [.blk p9 [.slice A50 (((4 + 32) + 32) + 4) c51] 57, .row A50 (((4 + 32) + 32) + 4) c51 5 1 (by8 ((((putB v 4) ++ A) ++ R) ++ (putB t 4)))]) p9 A50 (((4 + 32) + 32) + 4) c51 ((((putB v 4) ++ A) ++ R) ++ (putB t 4)) b w52 (Hp.startL (A := [.blk p9 [.slice A50 (((4 + 32) + 32) + 4) c51] 57, .row A50 (((4 + 32) + 32) + 4) c51 5 1 (by8 ((((putB v 4) ++ A) ++ R) ++ (putB t 4)))]) (B := [.blk p3 (hdC v A R t b n) 26]) H53) (by omega)) (by kernel_rfl) rfl (fun e_ w66 hR => ?_)
  obtain ⟨A64, c65, rfl, H68⟩ := hR
  have H67 : Hp w [] [.blk p9 [.slice A64 ((((4 + 32) + 32) + 4) + 4) c65] 57, .row A64 ((((4 + 32) + 32) + 4) + 4) c65 5 1 (by8 (((((putB v 4) ++ A) ++ R) ++ (putB t 4)) ++ (putB b 4))), .blk p3 (hdC v A R t b n) 26] w66 := Hp.callL (A := [.blk p9 [.slice A50 (((4 + 32) + 32) + 4) c51] 57, .row A50 (((4 + 32) + 32) + 4) c51 5 1 (by8 ((((putB v 4) ++ A) ++ R) ++ (putB t 4)))]) (B := [.blk p3 (hdC v A R t b n) 26]) H53 H68
  refine ⟨_, rfl, [3, 22, 23], [(3, pt p9 0), (22, .agg #[.int .u32 (t : Int), .int .u32 (b : Int), .int .u32 (n : Int)]), (23, .int .i64 1)], by kernel_rfl, ?_⟩
  refine GL.k rfl hK60 (fun _ _ h => h) ?_
  refine G.region ?_
  refine GL.run (j := 2) 2 [3, 22, 23] [(3, pt p9 0), (22, .agg #[.int .u32 (t : Int), .int .u32 (b : Int), .int .u32 (n : Int)]), (23, .int .i64 2)] (by kernel_rfl) rfl ?_
  refine GL.round rfl ?_
  refine G.seqK fun K69 hK70 => ?_
  refine G.region ?_
  refine GL.run (j := 1) 1 [3, 22, 23, 24] [(3, pt p9 0), (22, .agg #[.int .u32 (t : Int), .int .u32 (b : Int), .int .u32 (n : Int)]), (23, .int .i64 2), (24, .bool true)] (by kernel_rfl) rfl ?_
  refine GL.k rfl hK70 (fun _ _ h => h) ?_
  refine G.seqK fun K71 hK72 => ?_
  refine G.yes rfl ?_
  refine G.skipK hK72 (fun _ _ h => h) ?_
  refine G.seqK fun K73 hK74 => ?_
  refine G.block ?_
  refine G.seqK fun K75 hK76 => ?_
  refine G.region ?_
  refine GL.run (j := 2) 2 [3, 5, 22, 23] [(3, pt p9 0), (5, .int .u32 (n : Int)), (22, .agg #[.int .u32 (t : Int), .int .u32 (b : Int), .int .u32 (n : Int)]), (23, .int .i64 2)] (by kernel_rfl) rfl ?_
  refine GL.k rfl hK76 (fun _ _ h => h) ?_
  refine G.region ?_
  refine GL.run (j := 2) 2 [3, 22, 23, 27] [(3, pt p9 0), (22, .agg #[.int .u32 (t : Int), .int .u32 (b : Int), .int .u32 (n : Int)]), (23, .int .i64 2), (27, .int .u64 (IntKind.u64.wrap (n : Int)))] (by kernel_rfl) rfl ?_
  have e77 : (IntKind.u64.wrap (n : Int)) = (n : Int) := in_u64 (by omega)
  refine GL.eq (M' := [(3, pt p9 0), (22, .agg #[.int .u32 (t : Int), .int .u32 (b : Int), .int .u32 (n : Int)]), (23, .int .i64 2), (27, .int .u64 (n : Int))]) (by rw [e77]) ?_
  clear e77
  refine GL.call (j := 3) (Put4_calls (ids [.blk p9 [.slice A64 ((((4 + 32) + 32) + 4) + 4) c65] 57, .row A64 ((((4 + 32) + 32) + 4) + 4) c65 5 1 (by8 (((((putB v 4) ++ A) ++ R) ++ (putB t 4)) ++ (putB b 4)))]) p9 A64 ((((4 + 32) + 32) + 4) + 4) c65 (((((putB v 4) ++ A) ++ R) ++ (putB t 4)) ++ (putB b 4)) n w66 (Hp.startL (A := [.blk p9 [.slice A64 ((((4 + 32) + 32) + 4) + 4) c65] 57, .row A64 ((((4 + 32) + 32) + 4) + 4) c65 5 1 (by8 (((((putB v 4) ++ A) ++ R) ++ (putB t 4)) ++ (putB b 4)))]) (B := [.blk p3 (hdC v A R t b n) 26]) H67) (by omega)) (by kernel_rfl) rfl (fun e_ w80 hR => ?_)
  obtain ⟨A78, c79, rfl, H82⟩ := hR
  have H81 : Hp w [] [.blk p9 [.slice A78 (((((4 + 32) + 32) + 4) + 4) + 4) c79] 57, .row A78 (((((4 + 32) + 32) + 4) + 4) + 4) c79 5 1 (by8 ((((((putB v 4) ++ A) ++ R) ++ (putB t 4)) ++ (putB b 4)) ++ (putB n 4))), .blk p3 (hdC v A R t b n) 26] w80 := Hp.callL (A := [.blk p9 [.slice A64 ((((4 + 32) + 32) + 4) + 4) c65] 57, .row A64 ((((4 + 32) + 32) + 4) + 4) c65 5 1 (by8 (((((putB v 4) ++ A) ++ R) ++ (putB t 4)) ++ (putB b 4)))]) (B := [.blk p3 (hdC v A R t b n) 26]) H67 H82
  refine ⟨_, rfl, [3, 22, 23], [(3, pt p9 0), (22, .agg #[.int .u32 (t : Int), .int .u32 (b : Int), .int .u32 (n : Int)]), (23, .int .i64 2)], by kernel_rfl, ?_⟩
  refine GL.k rfl hK74 (fun _ _ h => h) ?_
  refine G.region ?_
  refine GL.run (j := 2) 2 [3, 22, 23] [(3, pt p9 0), (22, .agg #[.int .u32 (t : Int), .int .u32 (b : Int), .int .u32 (n : Int)]), (23, .int .i64 3)] (by kernel_rfl) rfl ?_
  refine GL.round rfl ?_
  refine G.seqK fun K83 hK84 => ?_
  refine G.region ?_
  refine GL.run (j := 1) 1 [3, 22, 23, 24] [(3, pt p9 0), (22, .agg #[.int .u32 (t : Int), .int .u32 (b : Int), .int .u32 (n : Int)]), (23, .int .i64 3), (24, .bool false)] (by kernel_rfl) rfl ?_
  refine GL.k rfl hK84 (fun _ _ h => h) ?_
  refine G.seqK fun K85 hK86 => ?_
  refine G.no rfl ?_
  refine G.exitK hK38 (fun _ _ h => h) ?_
  refine G.seqK fun K87 hK88 => ?_
  refine G.region ?_
  refine GL.call (j := 1) (WBytes_calls (ids [.blk p9 [.slice A78 (((((4 + 32) + 32) + 4) + 4) + 4) c79] 57, .row A78 (((((4 + 32) + 32) + 4) + 4) + 4) c79 5 1 (by8 ((((((putB v 4) ++ A) ++ R) ++ (putB t 4)) ++ (putB b 4)) ++ (putB n 4)))]) p9 A78 (((((4 + 32) + 32) + 4) + 4) + 4) c79 ((((((putB v 4) ++ A) ++ R) ++ (putB t 4)) ++ (putB b 4)) ++ (putB n 4)) w80 (Hp.startL (A := [.blk p9 [.slice A78 (((((4 + 32) + 32) + 4) + 4) + 4) c79] 57, .row A78 (((((4 + 32) + 32) + 4) + 4) + 4) c79 5 1 (by8 ((((((putB v 4) ++ A) ++ R) ++ (putB t 4)) ++ (putB b 4)) ++ (putB n 4)))]) (B := [.blk p3 (hdC v A R t b n) 26]) H81) (by omega)) (by kernel_rfl) rfl (fun e_ w91 hR => ?_)
  obtain ⟨A89, c90, rfl, H93⟩ := hR
  have H92 : Hp w [] [.blk p9 [.slice A78 (((((4 + 32) + 32) + 4) + 4) + 4) c79] 57, .row A78 (((((4 + 32) + 32) + 4) + 4) + 4) c79 5 1 (by8 ((((((putB v 4) ++ A) ++ R) ++ (putB t 4)) ++ (putB b 4)) ++ (putB n 4))), .row A89 (((((4 + 32) + 32) + 4) + 4) + 4) c90 5 1 (by8 ((((((putB v 4) ++ A) ++ R) ++ (putB t 4)) ++ (putB b 4)) ++ (putB n 4))), .blk p3 (hdC v A R t b n) 26] w91 := Hp.callL (A := [.blk p9 [.slice A78 (((((4 + 32) + 32) + 4) + 4) + 4) c79] 57, .row A78 (((((4 + 32) + 32) + 4) + 4) + 4) c79 5 1 (by8 ((((((putB v 4) ++ A) ++ R) ++ (putB t 4)) ++ (putB b 4)) ++ (putB n 4)))]) (B := [.blk p3 (hdC v A R t b n) 26]) H81 H93
  refine ⟨_, rfl, [30], [(30, .slice A89 (((((4 + 32) + 32) + 4) + 4) + 4) c90)], by kernel_rfl, ?_⟩
  refine GL.run (j := 2) 1 [2] [(2, .slice A89 (((((4 + 32) + 32) + 4) + 4) + 4) c90)] (by kernel_rfl) rfl ?_
  refine GL.k rfl hK88 (fun _ _ h => h) ?_
  refine G.ret ?_
  intro F_ hF_ hM_
  refine hRet _ _ (bodyPost_1 rfl (RV.tmp rfl) ?_ F_ hF_ hM_)
  exact ⟨_, _, rfl, H92.sub (List.Sublist.cons _ (List.Sublist.cons _ (List.Sublist.cons_cons _ (List.Sublist.cons _ (List.Sublist.slnil)))))⟩
theorem HHash_calls (v : Nat) (A R : List UInt8) (t b n : Nat) (w : World) (hA : A.length = 32) (hR : R.length = 32) (hv : v < 4294967296) (ht : t < 4294967296) (hb : b < 4294967296) (hn : n < 4294967296) : Calls Try.prog 18 #[.agg (hdC v A R t b n).toArray] w fun e w' => e = .returned (.agg (by8 (sha (sha (hdB v A R t b n)))).toArray) ∧ Hp w [] [] w' := by
  refine calls_G (args := [.agg (hdC v A R t b n).toArray]) Try.func18 rfl Try.ntmps18 rfl ?_
  intro Q0 hRet hNor hPan
  have H := Hp.start w
  have H : Hp w [] [] w := H
  refine G.seqK fun K1 hK2 => ?_
  refine G.region ?_
  obtain ⟨p3, w4, r5, H6⟩ := H.box (P := Try.prog) 26 (hdC v A R t b n) (.agg (hdC v A R t b n).toArray) rfl
  have H6 : Hp w [] [.blk p3 (hdC v A R t b n) 26] w4 := H6
  refine GL.sem (j := 1) (r5) [1] [(1, pt p3 0)] (by kernel_rfl) (by kernel_rfl) rfl ?_
  obtain ⟨p7, w8, r9, H10⟩ := H6.alloc (P := Try.prog) 24 (by8 (bsP (fun _ => 0) 32 0)) (by kernel_rfl)
  have H10 : Hp w [] [.blk p3 (hdC v A R t b n) 26, .blk p7 (by8 (bsP (fun _ => 0) 32 0)) 24] w8 := H10
  refine GL.sem (j := 2) (r9) [1, 2] [(1, pt p3 0), (2, pt p7 0)] (by kernel_rfl) (by kernel_rfl) rfl ?_
  refine GL.k rfl hK2 (fun _ _ h => h) ?_
  refine G.seqK fun K11 hK12 => ?_
  refine G.region ?_
  refine GL.sem (j := 1) (H10.ldA (o := 0) (ty := 26) (m := 68) (sub := hdC v A R t b n) 0 rfl (by kernel_rfl) (sub_whole (hdC_length hA hR)) (hdC_length hA hR)) [2, 3] [(2, pt p7 0), (3, .agg (hdC v A R t b n).toArray)] (by kernel_rfl) (by kernel_rfl) rfl ?_
  refine GL.call (j := 2) (HBytes_calls v A R t b n w8 hA hR (by omega) (by omega) (by omega) (by omega)) (by kernel_rfl) rfl (fun e_ w15 hR => ?_)
  obtain ⟨A13, c14, rfl, H17⟩ := hR
  have H16 : Hp w [] [.blk p3 (hdC v A R t b n) 26, .blk p7 (by8 (bsP (fun _ => 0) 32 0)) 24, .row A13 80 c14 5 1 (by8 (hdB v A R t b n))] w15 := H10.callNew H17
  refine ⟨_, rfl, [2, 4], [(2, pt p7 0), (4, .slice A13 80 c14)], by kernel_rfl, ?_⟩
  refine GL.call (j := 3) (Double_calls A13 80 c14 (hdB v A R t b n) w15 (H16.rdRow 2 rfl) ((hdB_length hA hR).symm) (by rw [hdB_length hA hR]; decide)) (by kernel_rfl) rfl (fun e_ w18 hR => ?_)
  obtain ⟨rfl, H20⟩ := hR
  have H19 : Hp w [] [.blk p3 (hdC v A R t b n) 26, .blk p7 (by8 (bsP (fun _ => 0) 32 0)) 24, .row A13 80 c14 5 1 (by8 (hdB v A R t b n))] w18 := H16.callNil H20
  refine ⟨_, rfl, [2, 5], [(2, pt p7 0), (5, .agg (by8 (sha (sha (hdB v A R t b n)))).toArray)], by kernel_rfl, ?_⟩
  obtain ⟨w21, r22, H23⟩ := H19.stA (P := Try.prog) (o := 0) (vs := by8 (sha (sha (hdB v A R t b n)))) (ty := 24) (m := 32) 1 rfl (by kernel_rfl) (by rw [by8_length, sha_length]) (Nat.le_of_eq (by rw [Nat.zero_add]; exact ((show (by8 (bsP (fun _ => 0) 32 0)).length = 32 from by rw [by8_length, bsP_length (by omega)])).symm)) (by8_one _)
  rw [st_whole (by rw [by8_length, bsP_length (by omega)])] at H23
  have H23 : Hp w [] [.blk p3 (hdC v A R t b n) 26, .blk p7 (by8 (sha (sha (hdB v A R t b n)))) 24, .row A13 80 c14 5 1 (by8 (hdB v A R t b n))] w21 := H23
  refine GL.semU (j := 4) r22 [2] [(2, pt p7 0)] (by kernel_rfl) rfl rfl rfl ?_
  refine GL.k rfl hK12 (fun _ _ h => h) ?_
  refine G.ret ?_
  intro F_ hF_ hM_
  refine hRet _ _ (bodyPost_1 rfl (RV.cell rfl (H23.ldA (o := 0) (ty := 24) (m := 32) (sub := by8 (sha (sha (hdB v A R t b n)))) 1 rfl (by kernel_rfl) (sub_whole (by rw [by8_length, sha_length])) (by rw [by8_length, sha_length]))) ?_ F_ hF_ hM_)
  exact ⟨rfl, H23.sub (List.nil_sublist _)⟩
end Go.Proofs.Ytdepaaphgfapjaa
