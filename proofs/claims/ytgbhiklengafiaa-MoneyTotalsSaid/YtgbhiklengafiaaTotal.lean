/- money.Total over any iterator. -/
import Derived.Test.YtgbhiklengafiaaSums
import Derived.Test.YtgbhiklengafiaaRa
import Derived.Test.YtgbhiklengafiaaNb
namespace Go.Proofs.Ytgbhiklengafiaa
open Go.RowKit
/-- The total of amounts behind a sum: why there is none, or 0; the total. -/
def tot : List Nat → Nat → Nat × Nat
  | [], s => (0, s)
  | a :: l, s => if MX < a then (1, 0) else if MX < s + a then (4, 0) else tot l (s + a)
theorem tot_step {ls : List Nat} {k x s : Nat} (h : ls[k]? = some x) : tot (ls.drop k) s = if MX < x then (1, 0) else if MX < s + x then (4, 0) else tot (ls.drop (k + 1)) (s + x) := by
  obtain ⟨hk, hx⟩ := List.getElem?_eq_some_iff.1 h
  rw [List.drop_eq_getElem_cons hk, hx]
  rfl
theorem tot_end {ls : List Nat} {s : Nat} : tot (ls.drop ls.length) s = (0, s) := by rw [List.drop_length]; rfl
theorem Total_calls (ls : List Nat) (hls : ∀ x ∈ ls, x < K) (gf : Nat) (lb : Array Value) (Rd : World → Prop) (he : ∀ args w, (callFunc gf args).run Try.prog w = .ok (.enter gf args) w) (hit : Iter Try.prog gf lb ls.length (fun k => #[.int .u64 ((ls.getD k 0 : Nat) : Int)]) Rd) (w : World) (hRd : ∀ W, Below w.heap.size w W → Rd W) :
    Calls Try.prog 18 #[.func (.func gf) #[] lb] w fun e w' => e = .returned (.tuple #[.int .u64 (((tot ls 0).2 : Nat) : Int), .int .i64 (((tot ls 0).1 : Nat) : Int)]) ∧ Hp w [] [] w' := by
  have hMX : MX = 4611686018427387904 := rfl
  have hK0 : K = 18446744073709551616 := rfl
  refine calls_R (args := [.func (.func gf) #[] lb]) Try.func18 rfl Try.ntmps18 rfl ?_
  intro Q0 hRet hNor
  have H := Hp.start w
  have H : Hp w [] [] w := H
  refine RG.seqK fun K1 hK2 => ?_
  refine RG.region (by kernel_rfl) ?_
  obtain ⟨p3, w4, r5, H6⟩ := H.alloc (P := Try.prog) 23 [.int .u64 0] (by kernel_rfl)
  have H6 : Hp w [] [.blk p3 [.int .u64 0] 23] w4 := H6
  refine RL.sem (j := 1) (r5) [0, 2] [(0, .func (.func gf) #[] lb), (2, pt p3 0)] (by kernel_rfl) (by kernel_rfl) rfl ?_
  obtain ⟨p7, w8, r9, H10⟩ := H6.alloc (P := Try.prog) 25 [.int .i64 0] (by kernel_rfl)
  have H10 : Hp w [] [.blk p3 [.int .u64 0] 23, .blk p7 [.int .i64 0] 25] w8 := H10
  refine RL.sem (j := 2) (r9) [0, 2, 3] [(0, .func (.func gf) #[] lb), (2, pt p3 0), (3, pt p7 0)] (by kernel_rfl) (by kernel_rfl) rfl ?_
  refine RL.k rfl hK2 (fun _ _ h => h) ?_
  refine RG.seqK fun K11 hK12 => ?_
  refine RG.region (by kernel_rfl) ?_
  obtain ⟨p13, w14, r15, H16⟩ := H10.alloc (P := Try.prog) 23 [.int .u64 0] (by kernel_rfl)
  have H16 : Hp w [] [.blk p3 [.int .u64 0] 23, .blk p7 [.int .i64 0] 25, .blk p13 [.int .u64 0] 23] w14 := H16
  refine RL.sem (j := 1) (r15) [0, 2, 3, 4] [(0, .func (.func gf) #[] lb), (2, pt p3 0), (3, pt p7 0), (4, pt p13 0)] (by kernel_rfl) (by kernel_rfl) rfl ?_
  refine RL.k rfl hK12 (fun _ _ h => h) ?_
  refine RG.seqK fun K17 hK18 => ?_
  refine RG.seqK fun K19 hK20 => ?_
  refine RG.region (by kernel_rfl) ?_
  refine RL.run (j := 1) 1 [2, 3, 4, 8] [(2, pt p3 0), (3, pt p7 0), (4, pt p13 0), (8, .func (.func gf) #[] lb)] (by kernel_rfl) rfl ?_
  refine RL.k rfl hK20 (fun _ _ h => h) ?_
  refine RG.block ?_
  refine RG.fit [2, 3, 4, 8] (M' := [(2, pt p3 0), (3, pt p7 0), (4, pt p13 0), (8, .func (.func gf) #[] lb)]) (by kernel_rfl) ?_
  refine RG.range H16 (gf := gf) (lb := lb) rfl he (Xt := Nat) (fun k s => s ≤ MX ∧ tot ls 0 = tot (ls.drop k) s) (fun k s => [.blk p3 [.int .u64 0] 23, .blk p7 [.int .i64 0] 25, .blk p13 [.int .u64 (s : Int)] 23]) (fun s => tot ls 0 = (s, 0)) (fun s => [.blk p3 [.int .u64 0] 23, .blk p7 [.int .i64 (s : Int)] 25]) (N := ls.length) (enc := fun k => #[.int .u64 ((ls.getD k 0 : Nat) : Int)]) (hit) (fun _ => rfl) 0 ⟨Nat.zero_le _, by rw [List.drop_zero]⟩ rfl (fun k s E W hx HW => hRd W (HW.sub (List.nil_sublist _)).below) (fun k => [(9, .int .u64 ((ls.getD k 0 : Nat) : Int)), (2, pt p3 0), (3, pt p7 0), (4, pt p13 0), (8, .func (.func gf) #[] lb)]) (fun _ => rfl) ?_ ?_ ?_
  · skip
    rintro D24 l25 oR26 oB27 k s w21 K28 hk29 hx22 H23 hK30
    have H23 : Hp w [] [.blk p3 [.int .u64 0] 23, .blk p7 [.int .i64 0] 25, .blk p13 [.int .u64 (s : Int)] 23, .obj D24 DF, .obj l25 oR26] w21 := H23
    obtain ⟨hs1, hs2⟩ := hx22
    have hdx := getD_some hk29
    have hst := tot_step (s := s) hdx
    have hxK := hls _ (List.mem_of_getElem? hdx)
    refine RG.region (by kernel_rfl) ?_
    refine RL.run (j := 1) 1 [2, 3, 4, 5] [(2, pt p3 0), (3, pt p7 0), (4, pt p13 0), (5, .int .u64 ((ls.getD k 0 : Nat) : Int))] (by kernel_rfl) rfl ?_
    refine RL.done rfl (fun F_ hF_ hM_ => hK30 F_ _ [.blk p3 [.int .u64 0] 23, .blk p7 [.int .i64 0] 25, .blk p13 [.int .u64 (s : Int)] 23] _ hF_ hM_ H23 ?_)
    intro w31 H32
    have H32 : Hp w [] [.blk p3 [.int .u64 0] 23, .blk p7 [.int .i64 0] 25, .blk p13 [.int .u64 (s : Int)] 23, .obj D24 DF, .obj l25 oB27] w31 := H32
    refine RG.block ?_
    refine RG.seqK fun K33 hK34 => ?_
    refine RG.region (by kernel_rfl) ?_
    refine RL.sem (j := 1) (H32.ld (o := 0) (ty := 23) (v := .int .u64 (s : Int)) 2 rfl (by kernel_rfl) rfl) [2, 3, 4, 5, 11] [(2, pt p3 0), (3, pt p7 0), (4, pt p13 0), (5, .int .u64 ((ls.getD k 0 : Nat) : Int)), (11, .int .u64 (s : Int))] (by kernel_rfl) (by kernel_rfl) rfl ?_
    refine RL.run (j := 2) 1 [2, 3, 4, 11, 12] [(2, pt p3 0), (3, pt p7 0), (4, pt p13 0), (11, .int .u64 (s : Int)), (12, .int .u64 ((ls.getD k 0 : Nat) : Int))] (by kernel_rfl) rfl ?_
    refine RL.call (j := 3) (AAdd_calls s (ls.getD k 0) (show s < K by omega) hxK w31) (by kernel_rfl) rfl (fun e_ w35 hR => ?_)
    obtain ⟨rfl, H37⟩ := hR
    have H36 : Hp w [] [.blk p3 [.int .u64 0] 23, .blk p7 [.int .i64 0] 25, .blk p13 [.int .u64 (s : Int)] 23, .obj D24 DF, .obj l25 oB27] w35 := H32.callNil H37
    refine ⟨_, rfl, [2, 3, 4, 13], [(2, pt p3 0), (3, pt p7 0), (4, pt p13 0), (13, .tuple #[.int .u64 (((AAddV s (ls.getD k 0)) : Nat) : Int), .int .i64 (((AAddE s (ls.getD k 0)) : Nat) : Int)])], by kernel_rfl, ?_⟩
    refine RL.run (j := 8) 5 [2, 3, 4, 6, 7] [(2, pt p3 0), (3, pt p7 0), (4, pt p13 0), (6, .int .u64 (((AAddV s (ls.getD k 0)) : Nat) : Int)), (7, .int .i64 (((AAddE s (ls.getD k 0)) : Nat) : Int))] (by kernel_rfl) rfl ?_
    refine RL.k rfl hK34 (fun _ _ h => h) ?_
    refine RG.seqK fun K38 hK39 => ?_
    refine RG.seqK fun K40 hK41 => ?_
    refine RG.region (by kernel_rfl) ?_
    refine RL.run (j := 2) 2 [2, 3, 4, 6, 7, 17] [(2, pt p3 0), (3, pt p7 0), (4, pt p13 0), (6, .int .u64 (((AAddV s (ls.getD k 0)) : Nat) : Int)), (7, .int .i64 (((AAddE s (ls.getD k 0)) : Nat) : Int)), (17, .bool ((((AAddE s (ls.getD k 0)) : Nat) : Int) != 0))] (by kernel_rfl) rfl ?_
    refine RL.k rfl hK41 (fun _ _ h => h) ?_
    cases hb42 : ((((AAddE s (ls.getD k 0)) : Nat) : Int) != 0)
    · skip
      have hb42f : (((AAddE s (ls.getD k 0)) : Nat) : Int) = 0 := bne_eq_false_iff_eq.1 hb42
      refine RG.no rfl ?_
      refine RG.skipK hK39 (fun _ _ h => h) ?_
      refine RG.region (by kernel_rfl) ?_
      refine RL.run (j := 1) 1 [4, 19] [(4, pt p13 0), (19, .int .u64 (((AAddV s (ls.getD k 0)) : Nat) : Int))] (by kernel_rfl) rfl ?_
      obtain ⟨w43, r44, H45⟩ := H36.st (P := Try.prog) (o := 0) (ty := 23) (v := .int .u64 (((AAddV s (ls.getD k 0)) : Nat) : Int)) 2 rfl (by kernel_rfl) (by simp) rfl
      have H45 : Hp w [] [.blk p3 [.int .u64 0] 23, .blk p7 [.int .i64 0] 25, .blk p13 [.int .u64 (((AAddV s (ls.getD k 0)) : Nat) : Int)] 23, .obj D24 DF, .obj l25 oB27] w43 := H45
      refine RL.semU (j := 2) r44 [] [] (by kernel_rfl) rfl rfl rfl ?_
      have hA1 : AAddV s (ls.getD k 0) ≤ MX := by rcases AAdd_cases s (ls.getD k 0) with h | h | h <;> omega
      have hA2 : tot ls 0 = tot (ls.drop (k + 1)) (AAddV s (ls.getD k 0)) := by rcases AAdd_cases s (ls.getD k 0) with h | h | h <;> first | omega | (rw [hs2, hst, if_neg (by omega), if_neg (by omega), h.2.2.2])
      exact RL.done rfl (fun F_ hF_ hM_ => ⟨(AAddV s (ls.getD k 0)), ⟨hA1, hA2⟩, H45⟩)
    · skip
      have hb42f : (((AAddE s (ls.getD k 0)) : Nat) : Int) ≠ 0 := bne_iff_ne.1 hb42
      refine RG.yes rfl ?_
      refine RG.seqK fun K46 hK47 => ?_
      refine RG.region (by kernel_rfl) ?_
      refine RL.run (j := 1) 1 [2, 3, 18] [(2, pt p3 0), (3, pt p7 0), (18, .int .i64 (((AAddE s (ls.getD k 0)) : Nat) : Int))] (by kernel_rfl) rfl ?_
      obtain ⟨w48, r49, H50⟩ := H36.st (P := Try.prog) (o := 0) (ty := 23) (v := .int .u64 0) 0 rfl (by kernel_rfl) (by simp) rfl
      have H50 : Hp w [] [.blk p3 [.int .u64 0] 23, .blk p7 [.int .i64 0] 25, .blk p13 [.int .u64 (s : Int)] 23, .obj D24 DF, .obj l25 oB27] w48 := H50
      refine RL.semU (j := 2) r49 [2, 3, 18] [(2, pt p3 0), (3, pt p7 0), (18, .int .i64 (((AAddE s (ls.getD k 0)) : Nat) : Int))] (by kernel_rfl) rfl rfl rfl ?_
      obtain ⟨w51, r52, H53⟩ := H50.st (P := Try.prog) (o := 0) (ty := 25) (v := .int .i64 (((AAddE s (ls.getD k 0)) : Nat) : Int)) 1 rfl (by kernel_rfl) (by simp) rfl
      have H53 : Hp w [] [.blk p3 [.int .u64 0] 23, .blk p7 [.int .i64 (((AAddE s (ls.getD k 0)) : Nat) : Int)] 25, .blk p13 [.int .u64 (s : Int)] 23, .obj D24 DF, .obj l25 oB27] w51 := H53
      refine RL.semU (j := 3) r52 [2, 3] [(2, pt p3 0), (3, pt p7 0)] (by kernel_rfl) rfl rfl rfl ?_
      refine RL.k rfl hK47 (fun _ _ h => h) ?_
      refine RG.ret ?_
      have H54 : Hp w [] [.blk p3 [.int .u64 0] 23, .blk p7 [.int .i64 (((AAddE s (ls.getD k 0)) : Nat) : Int)] 25, .obj D24 DF, .obj l25 oB27] w51 := H53.sub (List.Sublist.cons_cons _ (List.Sublist.cons_cons _ (List.Sublist.cons _ (List.Sublist.cons_cons _ (List.Sublist.cons_cons _ (List.Sublist.slnil))))))
      intro F_ hF_ hM_
      exact ⟨(AAddE s (ls.getD k 0)), (by rcases AAdd_cases s (ls.getD k 0) with h | h | h <;> first | omega | (rw [hs2, hst, if_pos (by omega), h.2.1]) | (rw [hs2, hst, if_neg (by omega), if_pos (by omega), h.2.2.1])), H54⟩
  · skip
    rintro D58 s w55 hx56 H57
    refine RG.kk hK18 (fun _ _ h => h) ?_
    have H57 : Hp w [] [.blk p3 [.int .u64 0] 23, .blk p7 [.int .i64 0] 25, .blk p13 [.int .u64 (s : Int)] 23, .obj D58 DF] w55 := H57
    have ht : tot ls 0 = (0, s) := by rw [hx56.2, tot_end]
    refine RG.seqK fun K59 hK60 => ?_
    refine RG.region (by kernel_rfl) ?_
    refine RL.sem (j := 1) (H57.ld (o := 0) (ty := 23) (v := .int .u64 (s : Int)) 2 rfl (by kernel_rfl) rfl) [2, 3, 20] [(2, pt p3 0), (3, pt p7 0), (20, .int .u64 (s : Int))] (by kernel_rfl) (by kernel_rfl) rfl ?_
    obtain ⟨w61, r62, H63⟩ := H57.st (P := Try.prog) (o := 0) (ty := 23) (v := .int .u64 (s : Int)) 0 rfl (by kernel_rfl) (by simp) rfl
    have H63 : Hp w [] [.blk p3 [.int .u64 (s : Int)] 23, .blk p7 [.int .i64 0] 25, .blk p13 [.int .u64 (s : Int)] 23, .obj D58 DF] w61 := H63
    refine RL.semU (j := 2) r62 [2, 3] [(2, pt p3 0), (3, pt p7 0)] (by kernel_rfl) rfl rfl rfl ?_
    obtain ⟨w64, r65, H66⟩ := H63.st (P := Try.prog) (o := 0) (ty := 25) (v := .int .i64 0) 1 rfl (by kernel_rfl) (by simp) rfl
    have H66 : Hp w [] [.blk p3 [.int .u64 (s : Int)] 23, .blk p7 [.int .i64 0] 25, .blk p13 [.int .u64 (s : Int)] 23, .obj D58 DF] w64 := H66
    refine RL.semU (j := 3) r65 [2, 3] [(2, pt p3 0), (3, pt p7 0)] (by kernel_rfl) rfl rfl rfl ?_
    refine RL.k rfl hK60 (fun _ _ h => h) ?_
    refine RG.ret ?_
    have hD67 := H66.objAt 3 rfl
    have H68 : Hp w [] [.blk p3 [.int .u64 (s : Int)] 23, .blk p7 [.int .i64 0] 25, .blk p13 [.int .u64 (s : Int)] 23, .obj D58 (.deferred none)] (World.putObj w64 D58 (.deferred none)) := H66.putObj 3 (.deferred none) rfl
    intro F_ hF_ hM_
    refine hRet _ _ (postK_2 hD67 rfl (RV.cell rfl (H68.ld (o := 0) (ty := 23) (v := .int .u64 (s : Int)) 0 rfl (by kernel_rfl) rfl)) (RV.cell rfl (H68.ld (o := 0) (ty := 25) (v := .int .i64 0) 1 rfl (by kernel_rfl) rfl)) ?_ F_ hF_ hM_)
    rw [ht]
    exact ⟨rfl, H68.sub (List.nil_sublist _)⟩
  · skip
    rintro D72 s w69 hx70 H71
    intro F_ hF_ hM_
    have H71 : Hp w [] [.blk p3 [.int .u64 0] 23, .blk p7 [.int .i64 (s : Int)] 25, .obj D72 DF] w69 := H71
    have ht : tot ls 0 = (s, 0) := hx70
    have hD73 := H71.objAt 2 rfl
    have H74 : Hp w [] [.blk p3 [.int .u64 0] 23, .blk p7 [.int .i64 (s : Int)] 25, .obj D72 (.deferred none)] (World.putObj w69 D72 (.deferred none)) := H71.putObj 2 (.deferred none) rfl
    refine hRet _ _ (postK_2 hD73 rfl (RV.cell rfl (H74.ld (o := 0) (ty := 23) (v := .int .u64 0) 0 rfl (by kernel_rfl) rfl)) (RV.cell rfl (H74.ld (o := 0) (ty := 25) (v := .int .i64 (s : Int)) 1 rfl (by kernel_rfl) rfl)) ?_ F_ hF_ hM_)
    rw [ht]
    exact ⟨rfl, H74.sub (List.nil_sublist _)⟩
end Go.Proofs.Ytgbhiklengafiaa
