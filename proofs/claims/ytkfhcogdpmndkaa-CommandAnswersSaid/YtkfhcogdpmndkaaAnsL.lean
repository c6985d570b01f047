/- Any answer's bytes: the walk. -/
import Derived.Test.YtkfhcogdpmndkaaAns
import Derived.Test.YtkfhcogdpmndkaaLives
namespace Go.Proofs.Ytkfhcogdpmndkaa
open Go.RowKit
theorem CommandAnswers_calls (eb : UInt8) (v : Nat) (hv : v < K) (bs : List UInt8) (A : Option Addr) (c : Nat) (w : World) (hr : RdS w A (by8 bs)) (hlen : bs.length ≤ maxLen) : Calls Try.prog 4 #[.int .u8 (eb.toNat : Int), .int .u64 (v : Int), .slice A bs.length c] w fun e w' => e = .returned (.bool true) ∧ Hp w [] [] w' := by
  have hK0 : K = 18446744073709551616 := rfl
  simp only [maxLen] at hlen
  have hA5 := ans1_lt bs
  refine calls_G (args := [.int .u8 (eb.toNat : Int), .int .u64 (v : Int), .slice A bs.length c]) Try.func4 rfl Try.ntmps4 rfl ?_
  intro Q0 hRet hNor hPan
  have H := Hp.start w
  have H : Hp w [] [] w := H
  refine G.seqK fun K1 hK2 => ?_
  refine G.region ?_
  refine GL.run (j := 1) 1 [0, 1, 2] [(0, .int .u8 (eb.toNat : Int)), (1, .int .u64 (v : Int)), (2, .slice A bs.length c)] (by kernel_rfl) rfl ?_
  refine GL.k rfl hK2 (fun _ _ h => h) ?_
  refine G.seqK fun K3 hK4 => ?_
  refine G.seqK fun K5 hK6 => ?_
  refine G.region ?_
  refine GL.call (j := 1) (lives_calls w) (by kernel_rfl) rfl (fun e_ w7 hR => ?_)
  obtain ⟨rfl, H9⟩ := hR
  have H8 : Hp w [] [] w7 := H.callNil H9
  refine ⟨_, rfl, [0, 1, 2, 13], [(0, .int .u8 (eb.toNat : Int)), (1, .int .u64 (v : Int)), (2, .slice A bs.length c), (13, .bool true)], by kernel_rfl, ?_⟩
  refine GL.run (j := 7) 6 [0, 1, 2, 19] [(0, .int .u8 (eb.toNat : Int)), (1, .int .u64 (v : Int)), (2, .slice A bs.length c), (19, .bool (decide (30 < (bs.length : Int))))] (by kernel_rfl) rfl ?_
  refine GL.k rfl hK6 (fun _ _ h => h) ?_
  cases hb10 : (decide (30 < (bs.length : Int)))
  · skip
    have hb10f := of_decide_eq_false hb10
    refine G.no rfl ?_
    refine G.skipK hK4 (fun _ _ h => h) ?_
    refine G.seqK fun K11 hK12 => ?_
    refine G.region ?_
    refine GL.run (j := 4) 4 [0, 1, 2, 24] [(0, .int .u8 (eb.toNat : Int)), (1, .int .u64 (v : Int)), (2, .slice A bs.length c), (24, .agg #[.int .i64 (IntKind.i64.wrap (eb.toNat : Int)), .int .u64 (v : Int)])] (by kernel_rfl) rfl ?_
    have e13 : (IntKind.i64.wrap (eb.toNat : Int)) = (eb.toNat : Int) := u8_up_i64 _
    refine GL.eq (M' := [(0, .int .u8 (eb.toNat : Int)), (1, .int .u64 (v : Int)), (2, .slice A bs.length c), (24, .agg #[.int .i64 (eb.toNat : Int), .int .u64 (v : Int)])]) (by rw [e13]) ?_
    clear e13
    obtain ⟨p14, w15, r16, H17⟩ := H8.alloc (P := Try.prog) 38 [.int .i64 0, .int .u64 0] (by kernel_rfl)
    have H17 : Hp w [] [.blk p14 [.int .i64 0, .int .u64 0] 38] w15 := H17
    refine GL.sem (j := 5) (r16) [0, 1, 2, 7, 24] [(0, .int .u8 (eb.toNat : Int)), (1, .int .u64 (v : Int)), (2, .slice A bs.length c), (7, pt p14 0), (24, .agg #[.int .i64 (eb.toNat : Int), .int .u64 (v : Int)])] (by kernel_rfl) (by kernel_rfl) rfl ?_
    obtain ⟨w18, r19, H20⟩ := H17.stA (P := Try.prog) (o := 0) (vs := [.int .i64 (eb.toNat : Int), .int .u64 (v : Int)]) (ty := 38) (m := 2) 0 rfl (by kernel_rfl) rfl (by simp) (by simp [Value.oneCell'])
    have H20 : Hp w [] [.blk p14 [.int .i64 (eb.toNat : Int), .int .u64 (v : Int)] 38] w18 := H20
    refine GL.semU (j := 6) r19 [0, 1, 2, 7] [(0, .int .u8 (eb.toNat : Int)), (1, .int .u64 (v : Int)), (2, .slice A bs.length c), (7, pt p14 0)] (by kernel_rfl) rfl rfl rfl ?_
    refine GL.k rfl hK12 (fun _ _ h => h) ?_
    refine G.seqK fun K21 hK22 => ?_
    refine G.region ?_
    refine GL.sem (j := 1) (H20.ldA (o := 0) (ty := 38) (m := 2) (sub := [.int .i64 (eb.toNat : Int), .int .u64 (v : Int)]) 0 rfl (by kernel_rfl) rfl rfl) [0, 1, 2, 7, 25] [(0, .int .u8 (eb.toNat : Int)), (1, .int .u64 (v : Int)), (2, .slice A bs.length c), (7, pt p14 0), (25, .agg #[.int .i64 (eb.toNat : Int), .int .u64 (v : Int)])] (by kernel_rfl) (by kernel_rfl) rfl ?_
    refine GL.call (j := 2) (ABytes_calls eb.toNat v (UInt8.toNat_lt eb) w18) (by kernel_rfl) rfl (fun e_ w27 hR => ?_)
    obtain ⟨A23, c24, rfl, H26⟩ := hR
    have H25 : Hp w [] [.blk p14 [.int .i64 (eb.toNat : Int), .int .u64 (v : Int)] 38, .row A23 9 c24 5 1 (by8 (putB eb.toNat 1 ++ putB v 8))] w27 := H20.callNew H26
    refine ⟨_, rfl, [0, 1, 2, 7, 26], [(0, .int .u8 (eb.toNat : Int)), (1, .int .u64 (v : Int)), (2, .slice A bs.length c), (7, pt p14 0), (26, .slice A23 9 c24)], by kernel_rfl, ?_⟩
    refine GL.run (j := 3) 1 [0, 1, 2, 7, 8] [(0, .int .u8 (eb.toNat : Int)), (1, .int .u64 (v : Int)), (2, .slice A bs.length c), (7, pt p14 0), (8, .slice A23 9 c24)] (by kernel_rfl) rfl ?_
    refine GL.k rfl hK22 (fun _ _ h => h) ?_
    refine G.seqK fun K28 hK29 => ?_
    refine G.seqK fun K30 hK31 => ?_
    refine G.heldP (Hp w [] [.blk p14 [.int .i64 (eb.toNat : Int), .int .u64 (v : Int)] 38, .row A23 9 c24 5 1 (by8 (putB eb.toNat 1 ++ putB v 8))]) (by kernel_rfl) (by kernel_rfl) (fun c_ a_ d_ v_ w_ h_ => hPan c_ a_ d_ v_ w_ h_) ?_
    have H32 := H25.drew
    generalize ({ w27 with drawn := w27.drawn + 1 } : World) = w33 at H32 ⊢
    have hS34 : Hp w [] [.blk p14 [.int .i64 (eb.toNat : Int), .int .u64 (v : Int)] 38, .row A23 9 c24 5 1 (by8 (putB eb.toNat 1 ++ putB v 8))] w33 := H32.sub (List.Sublist.cons_cons _ (List.Sublist.cons_cons _ (List.Sublist.slnil)))
    refine GP.run [0] [0, 1, 2, 7, 8, 27] [(0, .int .u8 (eb.toNat : Int)), (1, .int .u64 (v : Int)), (2, .slice A bs.length c), (7, pt p14 0), (8, .slice A23 9 c24), (27, .slice A23 9 c24)] [0] (by kernel_rfl) rfl hS34 ?_
    refine GP.sem 1 (fun w_ H_ => run_toStr (P := Try.prog) (src := 26) (dst := 9) (A := A23) (bs := (putB eb.toNat 1 ++ putB v 8)) (n := 9) (c := c24) (by kernel_rfl) (by kernel_rfl) (H_.rdRow 1 rfl) (by first | rfl | omega | (simp only [List.length_cons, List.length_nil, List.length_drop, List.length_take, List.length_append] <;> omega))) [0, 1, 2, 7, 8, 28] [(0, .int .u8 (eb.toNat : Int)), (1, .int .u64 (v : Int)), (2, .slice A bs.length c), (7, pt p14 0), (8, .slice A23 9 c24), (28, .string (strOf (putB eb.toNat 1 ++ putB v 8)))] (by kernel_rfl) (by kernel_rfl) (by kernel_rfl) hS34 ?_
    refine GP.run [2, 5] [0, 2, 7, 8, 28, 29, 32] [(0, .int .u8 (eb.toNat : Int)), (2, .slice A bs.length c), (7, pt p14 0), (8, .slice A23 9 c24), (28, .string (strOf (putB eb.toNat 1 ++ putB v 8))), (29, .int .u8 (eb.toNat : Int)), (32, .int .u64 (v : Int))] [0, 1, 2, 5] (by kernel_rfl) rfl hS34 ?_
    refine GP.namedC fun X hX => ?_
    have st64 : ∀ (wD_ : World) (p35 : Nat) (A48 : Option Addr) (c49 : Nat), Hp w [] [.blk p14 [.int .i64 (eb.toNat : Int), .int .u64 (v : Int)] 38, .row A23 9 c24 5 1 (by8 (putB eb.toNat 1 ++ putB v 8)), .blk p35 [.int .u8 (eb.toNat : Int)] 5, .row A48 8 c49 5 1 (by8 (putB v 8))] wD_ → X (Hp w [] [.blk p14 [.int .i64 (eb.toNat : Int), .int .u64 (v : Int)] 38, .row A23 9 c24 5 1 (by8 (putB eb.toNat 1 ++ putB v 8)), .blk p35 [.int .u8 (eb.toNat : Int)] 5, .row A48 8 c49 5 1 (by8 (putB v 8))]) [0, 1, 2, 5, 3, 4, 6, 7, 8, 9] [(0, .int .u8 (eb.toNat : Int)), (2, .slice A bs.length c), (7, pt p14 0), (8, .slice A23 9 c24), (36, .bool (!((putB eb.toNat 1 ++ putB v 8) == (([eb] : List UInt8) ++ (putB v 8)))))] wD_ := by
      intro wD_ p35 A48 c49 HD_
      rw [hX]
      have hS65 : Hp w [] [.blk p14 [.int .i64 (eb.toNat : Int), .int .u64 (v : Int)] 38, .row A23 9 c24 5 1 (by8 (putB eb.toNat 1 ++ putB v 8)), .blk p35 [.int .u8 (eb.toNat : Int)] 5, .row A48 8 c49 5 1 (by8 (putB v 8))] wD_ := HD_.sub (List.Sublist.cons_cons _ (List.Sublist.cons_cons _ (List.Sublist.cons_cons _ (List.Sublist.cons_cons _ (List.Sublist.slnil)))))
      refine GP.k (by kernel_rfl) hK31 (fun _ _ h => h) ?_
      have hb66 : (!((putB eb.toNat 1 ++ putB v 8) == (([eb] : List UInt8) ++ (putB v 8)))) = false := by rw [show ((putB eb.toNat 1 ++ putB v 8) == (([eb] : List UInt8) ++ (putB v 8))) = true from by rw [put1_byte]; exact beq_self_eq_true _]; rfl
      rw [hb66]
      refine G.no rfl ?_
      refine G.skipK hK29 (fun _ _ h => h) ?_
      refine G.seqK fun K67 hK68 => ?_
      refine G.region ?_
      refine GL.run (j := 1) 1 [0, 2, 7, 38] [(0, .int .u8 (eb.toNat : Int)), (2, .slice A bs.length c), (7, pt p14 0), (38, .slice A23 9 c24)] (by kernel_rfl) rfl ?_
      refine GL.call (j := 2) (PAnswer_calls (putB eb.toNat 1 ++ putB v 8) A23 9 c24 wD_ (HD_.rdRow 1 rfl) ((by have := (HD_.rowLe 1 rfl).2.1; rw [by8_length, Nat.mul_one] at this; omega)) (by omega)) (by kernel_rfl) rfl (fun e_ w71 hR => ?_)
      obtain ⟨rfl, H70⟩ := hR
      have H69 : Hp w [] [.blk p14 [.int .i64 (eb.toNat : Int), .int .u64 (v : Int)] 38, .row A23 9 c24 5 1 (by8 (putB eb.toNat 1 ++ putB v 8)), .blk p35 [.int .u8 (eb.toNat : Int)] 5, .row A48 8 c49 5 1 (by8 (putB v 8))] w71 := HD_.callNil H70
      refine ⟨_, rfl, [0, 2, 7, 39], [(0, .int .u8 (eb.toNat : Int)), (2, .slice A bs.length c), (7, pt p14 0), (39, .tuple #[.agg #[.int .i64 (((paA (putB eb.toNat 1 ++ putB v 8)) : Nat) : Int), .int .u64 (((paV (putB eb.toNat 1 ++ putB v 8)) : Nat) : Int)], .int .i64 (((paE (putB eb.toNat 1 ++ putB v 8)) : Nat) : Int)])], by kernel_rfl, ?_⟩
      refine GL.run (j := 5) 3 [0, 2, 7, 40, 41] [(0, .int .u8 (eb.toNat : Int)), (2, .slice A bs.length c), (7, pt p14 0), (40, .agg #[.int .i64 (((paA (putB eb.toNat 1 ++ putB v 8)) : Nat) : Int), .int .u64 (((paV (putB eb.toNat 1 ++ putB v 8)) : Nat) : Int)]), (41, .int .i64 (((paE (putB eb.toNat 1 ++ putB v 8)) : Nat) : Int))] (by kernel_rfl) rfl ?_
      obtain ⟨p72, w73, r74, H75⟩ := H69.alloc (P := Try.prog) 38 [.int .i64 0, .int .u64 0] (by kernel_rfl)
      have H75 : Hp w [] [.blk p14 [.int .i64 (eb.toNat : Int), .int .u64 (v : Int)] 38, .row A23 9 c24 5 1 (by8 (putB eb.toNat 1 ++ putB v 8)), .blk p35 [.int .u8 (eb.toNat : Int)] 5, .row A48 8 c49 5 1 (by8 (putB v 8)), .blk p72 [.int .i64 0, .int .u64 0] 38] w73 := H75
      refine GL.sem (j := 6) (r74) [0, 2, 7, 9, 40, 41] [(0, .int .u8 (eb.toNat : Int)), (2, .slice A bs.length c), (7, pt p14 0), (9, pt p72 0), (40, .agg #[.int .i64 (((paA (putB eb.toNat 1 ++ putB v 8)) : Nat) : Int), .int .u64 (((paV (putB eb.toNat 1 ++ putB v 8)) : Nat) : Int)]), (41, .int .i64 (((paE (putB eb.toNat 1 ++ putB v 8)) : Nat) : Int))] (by kernel_rfl) (by kernel_rfl) rfl ?_
      obtain ⟨w76, r77, H78⟩ := H75.stA (P := Try.prog) (o := 0) (vs := [.int .i64 (((paA (putB eb.toNat 1 ++ putB v 8)) : Nat) : Int), .int .u64 (((paV (putB eb.toNat 1 ++ putB v 8)) : Nat) : Int)]) (ty := 38) (m := 2) 4 rfl (by kernel_rfl) rfl (by simp) (by simp [Value.oneCell'])
      have H78 : Hp w [] [.blk p14 [.int .i64 (eb.toNat : Int), .int .u64 (v : Int)] 38, .row A23 9 c24 5 1 (by8 (putB eb.toNat 1 ++ putB v 8)), .blk p35 [.int .u8 (eb.toNat : Int)] 5, .row A48 8 c49 5 1 (by8 (putB v 8)), .blk p72 [.int .i64 (((paA (putB eb.toNat 1 ++ putB v 8)) : Nat) : Int), .int .u64 (((paV (putB eb.toNat 1 ++ putB v 8)) : Nat) : Int)] 38] w76 := H78
      refine GL.semU (j := 7) r77 [0, 2, 7, 9, 41] [(0, .int .u8 (eb.toNat : Int)), (2, .slice A bs.length c), (7, pt p14 0), (9, pt p72 0), (41, .int .i64 (((paE (putB eb.toNat 1 ++ putB v 8)) : Nat) : Int))] (by kernel_rfl) rfl rfl rfl ?_
      refine GL.run (j := 8) 1 [0, 2, 7, 9, 10] [(0, .int .u8 (eb.toNat : Int)), (2, .slice A bs.length c), (7, pt p14 0), (9, pt p72 0), (10, .int .i64 (((paE (putB eb.toNat 1 ++ putB v 8)) : Nat) : Int))] (by kernel_rfl) rfl ?_
      refine GL.k rfl hK68 (fun _ _ h => h) ?_
      refine G.seqK fun K79 hK80 => ?_
      refine G.seqK fun K81 hK82 => ?_
      refine G.region ?_
      refine GL.run (j := 3) 3 [0, 2, 7, 9, 10, 44] [(0, .int .u8 (eb.toNat : Int)), (2, .slice A bs.length c), (7, pt p14 0), (9, pt p72 0), (10, .int .i64 (((paE (putB eb.toNat 1 ++ putB v 8)) : Nat) : Int)), (44, .bool (decide (23 < (eb.toNat : Int))))] (by kernel_rfl) rfl ?_
      cases hb83 : (decide (23 < (eb.toNat : Int)))
      · skip
        have hb83f := of_decide_eq_false hb83
        have hB := pa_cases (putB eb.toNat 1 ++ putB v 8)
        obtain ⟨p1, p2, p3⟩ := ans_put (e := eb.toNat) (v := v) (UInt8.toNat_lt eb) hv
        rw [p1, p2, p3] at hB
        have hB0 : paE (putB eb.toNat 1 ++ putB v 8) = 0 ∧ paA (putB eb.toNat 1 ++ putB v 8) = eb.toNat ∧ paV (putB eb.toNat 1 ++ putB v 8) = v := by omega
        obtain ⟨hB0, hB1, hB2⟩ := hB0
        refine GL.run (j := 15) 12 [2, 7, 9, 10, 53, 56] [(2, .slice A bs.length c), (7, pt p14 0), (9, pt p72 0), (10, .int .i64 (((paE (putB eb.toNat 1 ++ putB v 8)) : Nat) : Int)), (53, .bool false), (56, .bool (decide ((eb.toNat : Int) ≤ 23)))] (by kernel_rfl) rfl ?_
        have hb84 : (decide ((eb.toNat : Int) ≤ 23)) = true := decide_eq_true (by omega)
        rw [hb84]
        refine GL.run (j := 18) 3 [2, 7, 9, 53, 56, 59] [(2, .slice A bs.length c), (7, pt p14 0), (9, pt p72 0), (53, .bool false), (56, .bool true), (59, .bool ((((paE (putB eb.toNat 1 ++ putB v 8)) : Nat) : Int) != 0))] (by kernel_rfl) rfl ?_
        cases hb85 : ((((paE (putB eb.toNat 1 ++ putB v 8)) : Nat) : Int) != 0)
        · skip
          have hb85f : (((paE (putB eb.toNat 1 ++ putB v 8)) : Nat) : Int) = 0 := bne_eq_false_iff_eq.1 hb85
          refine GL.sem (j := 19) (H78.ldA (o := 0) (ty := 38) (m := 2) (sub := [.int .i64 (((paA (putB eb.toNat 1 ++ putB v 8)) : Nat) : Int), .int .u64 (((paV (putB eb.toNat 1 ++ putB v 8)) : Nat) : Int)]) 4 rfl (by kernel_rfl) rfl rfl) [2, 7, 53, 56, 59, 60] [(2, .slice A bs.length c), (7, pt p14 0), (53, .bool false), (56, .bool true), (59, .bool false), (60, .agg #[.int .i64 (((paA (putB eb.toNat 1 ++ putB v 8)) : Nat) : Int), .int .u64 (((paV (putB eb.toNat 1 ++ putB v 8)) : Nat) : Int)])] (by kernel_rfl) (by kernel_rfl) rfl ?_
          refine GL.sem (j := 20) (H78.ldA (o := 0) (ty := 38) (m := 2) (sub := [.int .i64 (eb.toNat : Int), .int .u64 (v : Int)]) 0 rfl (by kernel_rfl) rfl rfl) [2, 53, 56, 59, 60, 61] [(2, .slice A bs.length c), (53, .bool false), (56, .bool true), (59, .bool false), (60, .agg #[.int .i64 (((paA (putB eb.toNat 1 ++ putB v 8)) : Nat) : Int), .int .u64 (((paV (putB eb.toNat 1 ++ putB v 8)) : Nat) : Int)]), (61, .agg #[.int .i64 (eb.toNat : Int), .int .u64 (v : Int)])] (by kernel_rfl) (by kernel_rfl) rfl ?_
          refine GL.sem (j := 21) (run_mx_neq (P := Try.prog) (t := 38) (n := 2) (x := (.tmp 60)) (y := (.tmp 61)) (by kernel_rfl) [.int .i64 (((paA (putB eb.toNat 1 ++ putB v 8)) : Nat) : Int), .int .u64 (((paV (putB eb.toNat 1 ++ putB v 8)) : Nat) : Int)] [.int .i64 (eb.toNat : Int), .int .u64 (v : Int)] rfl rfl rfl rfl _) [2, 53, 56, 59, 62] [(2, .slice A bs.length c), (53, .bool false), (56, .bool true), (59, .bool false), (62, .bool (!(decide (([(((paA (putB eb.toNat 1 ++ putB v 8)) : Nat) : Int), (((paV (putB eb.toNat 1 ++ putB v 8)) : Nat) : Int)] : List Int) = [(eb.toNat : Int), (v : Int)]))))] (by kernel_rfl) (by kernel_rfl) rfl ?_
          refine GL.run (j := 24) 3 [2, 65] [(2, .slice A bs.length c), (65, .bool (!(decide (([(((paA (putB eb.toNat 1 ++ putB v 8)) : Nat) : Int), (((paV (putB eb.toNat 1 ++ putB v 8)) : Nat) : Int)] : List Int) = [(eb.toNat : Int), (v : Int)]))))] (by kernel_rfl) rfl ?_
          refine GL.k rfl hK82 (fun _ _ h => h) ?_
          have hb86 : (!(decide (([(((paA (putB eb.toNat 1 ++ putB v 8)) : Nat) : Int), (((paV (putB eb.toNat 1 ++ putB v 8)) : Nat) : Int)] : List Int) = [(eb.toNat : Int), (v : Int)]))) = false := by rw [show (decide (([(((paA (putB eb.toNat 1 ++ putB v 8)) : Nat) : Int), (((paV (putB eb.toNat 1 ++ putB v 8)) : Nat) : Int)] : List Int) = [(eb.toNat : Int), (v : Int)])) = true from decide_eq_true (by rw [hB1, hB2] <;> rfl)]; rfl
          rw [hb86]
          refine G.no rfl ?_
          refine G.skipK hK80 (fun _ _ h => h) ?_
          refine G.seqK fun K87 hK88 => ?_
          refine G.region ?_
          refine GL.run (j := 1) 1 [2, 67] [(2, .slice A bs.length c), (67, .slice A bs.length c)] (by kernel_rfl) rfl ?_
          refine GL.call (j := 2) (PAnswer_calls bs A bs.length c w76 (hr.hp H78) (rfl) (by omega)) (by kernel_rfl) rfl (fun e_ w91 hR => ?_)
          obtain ⟨rfl, H90⟩ := hR
          have H89 : Hp w [] [.blk p14 [.int .i64 (eb.toNat : Int), .int .u64 (v : Int)] 38, .row A23 9 c24 5 1 (by8 (putB eb.toNat 1 ++ putB v 8)), .blk p35 [.int .u8 (eb.toNat : Int)] 5, .row A48 8 c49 5 1 (by8 (putB v 8)), .blk p72 [.int .i64 (((paA (putB eb.toNat 1 ++ putB v 8)) : Nat) : Int), .int .u64 (((paV (putB eb.toNat 1 ++ putB v 8)) : Nat) : Int)] 38] w91 := H78.callNil H90
          refine ⟨_, rfl, [2, 68], [(2, .slice A bs.length c), (68, .tuple #[.agg #[.int .i64 (((paA bs) : Nat) : Int), .int .u64 (((paV bs) : Nat) : Int)], .int .i64 (((paE bs) : Nat) : Int)])], by kernel_rfl, ?_⟩
          refine GL.run (j := 5) 3 [2, 69, 70] [(2, .slice A bs.length c), (69, .agg #[.int .i64 (((paA bs) : Nat) : Int), .int .u64 (((paV bs) : Nat) : Int)]), (70, .int .i64 (((paE bs) : Nat) : Int))] (by kernel_rfl) rfl ?_
          obtain ⟨p92, w93, r94, H95⟩ := H89.alloc (P := Try.prog) 38 [.int .i64 0, .int .u64 0] (by kernel_rfl)
          have H95 : Hp w [] [.blk p14 [.int .i64 (eb.toNat : Int), .int .u64 (v : Int)] 38, .row A23 9 c24 5 1 (by8 (putB eb.toNat 1 ++ putB v 8)), .blk p35 [.int .u8 (eb.toNat : Int)] 5, .row A48 8 c49 5 1 (by8 (putB v 8)), .blk p72 [.int .i64 (((paA (putB eb.toNat 1 ++ putB v 8)) : Nat) : Int), .int .u64 (((paV (putB eb.toNat 1 ++ putB v 8)) : Nat) : Int)] 38, .blk p92 [.int .i64 0, .int .u64 0] 38] w93 := H95
          refine GL.sem (j := 6) (r94) [2, 11, 69, 70] [(2, .slice A bs.length c), (11, pt p92 0), (69, .agg #[.int .i64 (((paA bs) : Nat) : Int), .int .u64 (((paV bs) : Nat) : Int)]), (70, .int .i64 (((paE bs) : Nat) : Int))] (by kernel_rfl) (by kernel_rfl) rfl ?_
          obtain ⟨w96, r97, H98⟩ := H95.stA (P := Try.prog) (o := 0) (vs := [.int .i64 (((paA bs) : Nat) : Int), .int .u64 (((paV bs) : Nat) : Int)]) (ty := 38) (m := 2) 5 rfl (by kernel_rfl) rfl (by simp) (by simp [Value.oneCell'])
          have H98 : Hp w [] [.blk p14 [.int .i64 (eb.toNat : Int), .int .u64 (v : Int)] 38, .row A23 9 c24 5 1 (by8 (putB eb.toNat 1 ++ putB v 8)), .blk p35 [.int .u8 (eb.toNat : Int)] 5, .row A48 8 c49 5 1 (by8 (putB v 8)), .blk p72 [.int .i64 (((paA (putB eb.toNat 1 ++ putB v 8)) : Nat) : Int), .int .u64 (((paV (putB eb.toNat 1 ++ putB v 8)) : Nat) : Int)] 38, .blk p92 [.int .i64 (((paA bs) : Nat) : Int), .int .u64 (((paV bs) : Nat) : Int)] 38] w96 := H98
          refine GL.semU (j := 7) r97 [2, 11, 70] [(2, .slice A bs.length c), (11, pt p92 0), (70, .int .i64 (((paE bs) : Nat) : Int))] (by kernel_rfl) rfl rfl rfl ?_
          refine GL.run (j := 8) 1 [2, 11, 12] [(2, .slice A bs.length c), (11, pt p92 0), (12, .int .i64 (((paE bs) : Nat) : Int))] (by kernel_rfl) rfl ?_
          refine GL.k rfl hK88 (fun _ _ h => h) ?_
          refine G.seqK fun K99 hK100 => ?_
          refine G.seqK fun K101 hK102 => ?_
          refine G.region ?_
          refine GL.run (j := 4) 4 [2, 11, 12, 74] [(2, .slice A bs.length c), (11, pt p92 0), (12, .int .i64 (((paE bs) : Nat) : Int)), (74, .bool ((bs.length : Int) != 9))] (by kernel_rfl) rfl ?_
          cases hb103 : ((bs.length : Int) != 9)
          · skip
            have hb103f : (bs.length : Int) = 9 := bne_eq_false_iff_eq.1 hb103
            have hP := pa_cases bs
            refine GL.run (j := 5) 1 [2, 11, 12, 74, 75] [(2, .slice A bs.length c), (11, pt p92 0), (12, .int .i64 (((paE bs) : Nat) : Int)), (74, .bool false), (75, .slice A bs.length c)] (by kernel_rfl) rfl ?_
            refine GL.sem (j := 6) (run_idxRd (P := Try.prog) (k := .i64) (t := 26) (A := A) (len := bs.length) (cap := c) (j := 0) (by kernel_rfl) rfl (hr.hp H98) (by rw [by8_length]) (by first | rfl | omega | (simp only [List.length_cons, List.length_nil, List.length_drop, List.length_take, List.length_append] <;> omega))) [2, 11, 12, 74, 76] [(2, .slice A bs.length c), (11, pt p92 0), (12, .int .i64 (((paE bs) : Nat) : Int)), (74, .bool false), (76, .pointer (Option.map (fun x => Addr.add x 0) A))] (by kernel_rfl) (by kernel_rfl) rfl ?_
            obtain ⟨b104, hat105⟩ : ∃ b : UInt8, bs[0]? = some b := ⟨_, List.getElem?_eq_getElem (by first | rfl | omega | (simp only [List.length_cons, List.length_nil, List.length_drop, List.length_take, List.length_append] <;> omega))⟩
            refine GL.sem (j := 7) (run_ldRd (P := Try.prog) (ty := 5) (A := A) (j := 0) (v := .int .u8 (b104.toNat : Int)) (by kernel_rfl) (hr.hp H98) (by8_at hat105)) [2, 11, 12, 74, 77] [(2, .slice A bs.length c), (11, pt p92 0), (12, .int .i64 (((paE bs) : Nat) : Int)), (74, .bool false), (77, .int .u8 (b104.toNat : Int))] (by kernel_rfl) (by kernel_rfl) rfl ?_
            refine GL.run (j := 9) 2 [2, 11, 12, 79] [(2, .slice A bs.length c), (11, pt p92 0), (12, .int .i64 (((paE bs) : Nat) : Int)), (79, .bool (decide (23 < (b104.toNat : Int))))] (by kernel_rfl) rfl ?_
            refine GL.k rfl hK102 (fun _ _ h => h) ?_
            cases hb106 : (decide (23 < (b104.toNat : Int)))
            · skip
              have hb106f := of_decide_eq_false hb106
              have h9 : bs.length = 9 := by omega
              have hat1 := ans1_at h9 hat105
              have hA0 : paE bs = 0 ∧ paA bs = ans1 bs ∧ paV bs = ans8 bs := by omega
              obtain ⟨hA0, hA1, hA2⟩ := hA0
              have hA3 := h9
              have hA4 := ans1_lt bs
              refine G.no rfl ?_
              refine G.skipK hK100 (fun _ _ h => h) ?_
              refine G.seqK fun K107 hK108 => ?_
              refine G.heldP (Hp w [] [.blk p14 [.int .i64 (eb.toNat : Int), .int .u64 (v : Int)] 38, .row A23 9 c24 5 1 (by8 (putB eb.toNat 1 ++ putB v 8)), .blk p35 [.int .u8 (eb.toNat : Int)] 5, .row A48 8 c49 5 1 (by8 (putB v 8)), .blk p72 [.int .i64 (((paA (putB eb.toNat 1 ++ putB v 8)) : Nat) : Int), .int .u64 (((paV (putB eb.toNat 1 ++ putB v 8)) : Nat) : Int)] 38, .blk p92 [.int .i64 (((paA bs) : Nat) : Int), .int .u64 (((paV bs) : Nat) : Int)] 38]) (by kernel_rfl) (by kernel_rfl) (fun c_ a_ d_ v_ w_ h_ => hPan c_ a_ d_ v_ w_ h_) ?_
              have H109 := H98.drew
              generalize ({ w96 with drawn := w96.drawn + 1 } : World) = w110 at H109 ⊢
              have hS111 : Hp w [] [.blk p14 [.int .i64 (eb.toNat : Int), .int .u64 (v : Int)] 38, .row A23 9 c24 5 1 (by8 (putB eb.toNat 1 ++ putB v 8)), .blk p35 [.int .u8 (eb.toNat : Int)] 5, .row A48 8 c49 5 1 (by8 (putB v 8)), .blk p72 [.int .i64 (((paA (putB eb.toNat 1 ++ putB v 8)) : Nat) : Int), .int .u64 (((paV (putB eb.toNat 1 ++ putB v 8)) : Nat) : Int)] 38, .blk p92 [.int .i64 (((paA bs) : Nat) : Int), .int .u64 (((paV bs) : Nat) : Int)] 38] w110 := H109.sub (List.Sublist.cons_cons _ (List.Sublist.cons_cons _ (List.Sublist.cons_cons _ (List.Sublist.cons_cons _ (List.Sublist.cons_cons _ (List.Sublist.cons_cons _ (List.Sublist.slnil)))))))
              refine GP.run [0, 1, 2] [2, 11, 89] [(2, .slice A bs.length c), (11, pt p92 0), (89, .bool ((((paE bs) : Nat) : Int) == 0))] [0, 1, 2] (by kernel_rfl) rfl hS111 ?_
              cases hb112 : ((((paE bs) : Nat) : Int) == 0)
              · skip
                have hb112f := ne_of_beq_false hb112
                refine GP.run [3, 4, 5, 6, 7, 8, 9, 10] [6] [(6, .bool false)] [0, 1, 2, 3, 4, 5, 6, 7, 8, 9, 10] (by kernel_rfl) rfl hS111 ?_
                refine GP.k (by kernel_rfl) hK108 (fun _ _ h => h) ?_
                refine G.ret ?_
                intro F_ hF_ hM_
                refine hRet _ _ (bodyPost_1 rfl (RV.tmp rfl) ?_ F_ hF_ hM_)
                exfalso
                omega
              · skip
                have hb112f := eq_of_beq hb112
                refine GP.sem 3 (fun w_ H_ => H_.ldA (o := 0) (ty := 38) (m := 2) (sub := [.int .i64 (((paA bs) : Nat) : Int), .int .u64 (((paV bs) : Nat) : Int)]) 5 rfl (by kernel_rfl) rfl rfl) [2, 89, 90] [(2, .slice A bs.length c), (89, .bool true), (90, .agg #[.int .i64 (((paA bs) : Nat) : Int), .int .u64 (((paV bs) : Nat) : Int)])] (by kernel_rfl) (by kernel_rfl) (by kernel_rfl) hS111 ?_
                refine GP.run [6] [89, 90, 93] [(89, .bool true), (90, .agg #[.int .i64 (((paA bs) : Nat) : Int), .int .u64 (((paV bs) : Nat) : Int)]), (93, .slice A bs.length c)] [0, 1, 2, 3, 6] (by kernel_rfl) rfl hS111 ?_
                refine GP.sem 7 (fun w_ H_ => run_toStr (P := Try.prog) (src := 26) (dst := 9) (A := A) (bs := bs) (n := bs.length) (c := c) (by kernel_rfl) (by kernel_rfl) (hr.hp H_) (rfl)) [89, 90, 94] [(89, .bool true), (90, .agg #[.int .i64 (((paA bs) : Nat) : Int), .int .u64 (((paV bs) : Nat) : Int)]), (94, .string (strOf bs))] (by kernel_rfl) (by kernel_rfl) (by kernel_rfl) hS111 ?_
                refine GP.call 4 (ABytes_calls (paA bs) (paV bs) (by omega) w110) (by kernel_rfl) (by kernel_rfl) (fun e_ w117 hR => ?_)
                obtain ⟨A113, c114, rfl, H116⟩ := hR
                have H115 : Hp w [] [.blk p14 [.int .i64 (eb.toNat : Int), .int .u64 (v : Int)] 38, .row A23 9 c24 5 1 (by8 (putB eb.toNat 1 ++ putB v 8)), .blk p35 [.int .u8 (eb.toNat : Int)] 5, .row A48 8 c49 5 1 (by8 (putB v 8)), .blk p72 [.int .i64 (((paA (putB eb.toNat 1 ++ putB v 8)) : Nat) : Int), .int .u64 (((paV (putB eb.toNat 1 ++ putB v 8)) : Nat) : Int)] 38, .blk p92 [.int .i64 (((paA bs) : Nat) : Int), .int .u64 (((paV bs) : Nat) : Int)] 38, .row A113 9 c114 5 1 (by8 (putB (paA bs) 1 ++ putB (paV bs) 8))] w117 := H109.callNew H116
                have hS118 : Hp w [] [.blk p14 [.int .i64 (eb.toNat : Int), .int .u64 (v : Int)] 38, .row A23 9 c24 5 1 (by8 (putB eb.toNat 1 ++ putB v 8)), .blk p35 [.int .u8 (eb.toNat : Int)] 5, .row A48 8 c49 5 1 (by8 (putB v 8)), .blk p72 [.int .i64 (((paA (putB eb.toNat 1 ++ putB v 8)) : Nat) : Int), .int .u64 (((paV (putB eb.toNat 1 ++ putB v 8)) : Nat) : Int)] 38, .blk p92 [.int .i64 (((paA bs) : Nat) : Int), .int .u64 (((paV bs) : Nat) : Int)] 38] w117 := H115.sub (List.Sublist.cons_cons _ (List.Sublist.cons_cons _ (List.Sublist.cons_cons _ (List.Sublist.cons_cons _ (List.Sublist.cons_cons _ (List.Sublist.cons_cons _ (List.Sublist.cons _ (List.Sublist.slnil))))))))
                refine ⟨_, rfl, hS118, [89, 91, 94], [(89, .bool true), (91, .slice A113 9 c114), (94, .string (strOf bs))], by kernel_rfl, ?_⟩
                refine GP.weak (Hp w [] [.blk p14 [.int .i64 (eb.toNat : Int), .int .u64 (v : Int)] 38, .row A23 9 c24 5 1 (by8 (putB eb.toNat 1 ++ putB v 8)), .blk p35 [.int .u8 (eb.toNat : Int)] 5, .row A48 8 c49 5 1 (by8 (putB v 8)), .blk p72 [.int .i64 (((paA (putB eb.toNat 1 ++ putB v 8)) : Nat) : Int), .int .u64 (((paV (putB eb.toNat 1 ++ putB v 8)) : Nat) : Int)] 38, .blk p92 [.int .i64 (((paA bs) : Nat) : Int), .int .u64 (((paV bs) : Nat) : Int)] 38, .row A113 9 c114 5 1 (by8 (putB (paA bs) 1 ++ putB (paV bs) 8))]) (fun w_ h_ => h_.sub (List.Sublist.cons_cons _ (List.Sublist.cons_cons _ (List.Sublist.cons_cons _ (List.Sublist.cons_cons _ (List.Sublist.cons_cons _ (List.Sublist.cons_cons _ (List.Sublist.cons _ (List.Sublist.slnil))))))))) ?_
                have hS119 : Hp w [] [.blk p14 [.int .i64 (eb.toNat : Int), .int .u64 (v : Int)] 38, .row A23 9 c24 5 1 (by8 (putB eb.toNat 1 ++ putB v 8)), .blk p35 [.int .u8 (eb.toNat : Int)] 5, .row A48 8 c49 5 1 (by8 (putB v 8)), .blk p72 [.int .i64 (((paA (putB eb.toNat 1 ++ putB v 8)) : Nat) : Int), .int .u64 (((paV (putB eb.toNat 1 ++ putB v 8)) : Nat) : Int)] 38, .blk p92 [.int .i64 (((paA bs) : Nat) : Int), .int .u64 (((paV bs) : Nat) : Int)] 38, .row A113 9 c114 5 1 (by8 (putB (paA bs) 1 ++ putB (paV bs) 8))] w117 := H115.sub (List.Sublist.cons_cons _ (List.Sublist.cons_cons _ (List.Sublist.cons_cons _ (List.Sublist.cons_cons _ (List.Sublist.cons_cons _ (List.Sublist.cons_cons _ (List.Sublist.cons_cons _ (List.Sublist.slnil))))))))
                refine GP.sem 5 (fun w_ H_ => run_toStr (P := Try.prog) (src := 26) (dst := 9) (A := A113) (bs := (putB (paA bs) 1 ++ putB (paV bs) 8)) (n := 9) (c := c114) (by kernel_rfl) (by kernel_rfl) (H_.rdRow 6 rfl) (by first | rfl | omega | (simp only [List.length_cons, List.length_nil, List.length_drop, List.length_take, List.length_append] <;> omega))) [89, 92, 94] [(89, .bool true), (92, .string (strOf (putB (paA bs) 1 ++ putB (paV bs) 8))), (94, .string (strOf bs))] (by kernel_rfl) (by kernel_rfl) (by kernel_rfl) hS119 ?_
                refine GP.sem 8 (fun w_ H_ => run_str_eql (P := Try.prog) (t := 9) (putB (paA bs) 1 ++ putB (paV bs) 8) bs _) [89, 95] [(89, .bool true), (95, .bool ((putB (paA bs) 1 ++ putB (paV bs) 8) == bs))] (by kernel_rfl) (by kernel_rfl) (by kernel_rfl) hS119 ?_
                refine GP.run [9, 10] [6] [(6, .bool ((putB (paA bs) 1 ++ putB (paV bs) 8) == bs))] [0, 1, 2, 3, 6, 7, 4, 5, 8, 9, 10] (by kernel_rfl) rfl hS119 ?_
                refine GP.k (by kernel_rfl) hK108 (fun _ _ h => h) ?_
                refine G.ret ?_
                intro F_ hF_ hM_
                refine hRet _ _ (bodyPost_1 rfl (RV.tmp rfl) ?_ F_ hF_ hM_)
                have hb120 : ((putB (paA bs) 1 ++ putB (paV bs) 8) == bs) = true := by rw [hA1, hA2, ans_back hA3]; exact beq_self_eq_true _
                rw [hb120]
                exact ⟨rfl, H115.sub (List.nil_sublist _)⟩
            · skip
              have hb106f := of_decide_eq_true hb106
              have h9 : bs.length = 9 := by omega
              have hat1 := ans1_at h9 hat105
              have hA0 : paE bs = 2 ∧ paA bs = 0 ∧ paV bs = 0 := by omega
              obtain ⟨hA0, hA1, hA2⟩ := hA0
              refine G.yes rfl ?_
              refine G.seqK fun K121 hK122 => ?_
              refine G.region ?_
              refine GL.run (j := 3) 3 [11, 82] [(11, pt p92 0), (82, .bool ((((paE bs) : Nat) : Int) == 2))] (by kernel_rfl) rfl ?_
              cases hb123 : ((((paE bs) : Nat) : Int) == 2)
              · skip
                have hb123f := ne_of_beq_false hb123
                refine GL.run (j := 8) 5 [6] [(6, .bool false)] (by kernel_rfl) rfl ?_
                refine GL.k rfl hK122 (fun _ _ h => h) ?_
                refine G.ret ?_
                intro F_ hF_ hM_
                refine hRet _ _ (bodyPost_1 rfl (RV.tmp rfl) ?_ F_ hF_ hM_)
                exfalso
                omega
              · skip
                have hb123f := eq_of_beq hb123
                refine GL.sem (j := 4) (H98.ldA (o := 0) (ty := 38) (m := 2) (sub := [.int .i64 (((paA bs) : Nat) : Int), .int .u64 (((paV bs) : Nat) : Int)]) 5 rfl (by kernel_rfl) rfl rfl) [82, 83] [(82, .bool true), (83, .agg #[.int .i64 (((paA bs) : Nat) : Int), .int .u64 (((paV bs) : Nat) : Int)])] (by kernel_rfl) (by kernel_rfl) rfl ?_
                refine GL.run (j := 5) 1 [82, 83, 84] [(82, .bool true), (83, .agg #[.int .i64 (((paA bs) : Nat) : Int), .int .u64 (((paV bs) : Nat) : Int)]), (84, .agg #[.int .i64 0, .int .u64 0])] (by kernel_rfl) rfl ?_
                refine GL.sem (j := 6) (run_mx_eql (P := Try.prog) (t := 38) (n := 2) (x := (.tmp 83)) (y := (.tmp 84)) (by kernel_rfl) [.int .i64 (((paA bs) : Nat) : Int), .int .u64 (((paV bs) : Nat) : Int)] [.int .i64 0, .int .u64 0] rfl rfl rfl rfl _) [82, 85] [(82, .bool true), (85, .bool (decide (([(((paA bs) : Nat) : Int), (((paV bs) : Nat) : Int)] : List Int) = [0, 0])))] (by kernel_rfl) (by kernel_rfl) rfl ?_
                refine GL.run (j := 8) 2 [6] [(6, .bool (decide (([(((paA bs) : Nat) : Int), (((paV bs) : Nat) : Int)] : List Int) = [0, 0])))] (by kernel_rfl) rfl ?_
                refine GL.k rfl hK122 (fun _ _ h => h) ?_
                refine G.ret ?_
                intro F_ hF_ hM_
                refine hRet _ _ (bodyPost_1 rfl (RV.tmp rfl) ?_ F_ hF_ hM_)
                have hb124 : (decide (([(((paA bs) : Nat) : Int), (((paV bs) : Nat) : Int)] : List Int) = [0, 0])) = true := decide_eq_true (by rw [hA1, hA2] <;> rfl)
                rw [hb124]
                exact ⟨rfl, H98.sub (List.nil_sublist _)⟩
          · skip
            have hb103f : (bs.length : Int) ≠ 9 := bne_iff_ne.1 hb103
            have hP := pa_cases bs
            have hA0 : paE bs = 2 ∧ paA bs = 0 ∧ paV bs = 0 := by omega
            obtain ⟨hA0, hA1, hA2⟩ := hA0
            refine GL.run (j := 9) 5 [2, 11, 12, 79] [(2, .slice A bs.length c), (11, pt p92 0), (12, .int .i64 (((paE bs) : Nat) : Int)), (79, .bool true)] (by kernel_rfl) rfl ?_
            refine GL.k rfl hK102 (fun _ _ h => h) ?_
            refine G.yes rfl ?_
            refine G.seqK fun K125 hK126 => ?_
            refine G.region ?_
            refine GL.run (j := 3) 3 [11, 82] [(11, pt p92 0), (82, .bool ((((paE bs) : Nat) : Int) == 2))] (by kernel_rfl) rfl ?_
            cases hb127 : ((((paE bs) : Nat) : Int) == 2)
            · skip
              have hb127f := ne_of_beq_false hb127
              refine GL.run (j := 8) 5 [6] [(6, .bool false)] (by kernel_rfl) rfl ?_
              refine GL.k rfl hK126 (fun _ _ h => h) ?_
              refine G.ret ?_
              intro F_ hF_ hM_
              refine hRet _ _ (bodyPost_1 rfl (RV.tmp rfl) ?_ F_ hF_ hM_)
              exfalso
              omega
            · skip
              have hb127f := eq_of_beq hb127
              refine GL.sem (j := 4) (H98.ldA (o := 0) (ty := 38) (m := 2) (sub := [.int .i64 (((paA bs) : Nat) : Int), .int .u64 (((paV bs) : Nat) : Int)]) 5 rfl (by kernel_rfl) rfl rfl) [82, 83] [(82, .bool true), (83, .agg #[.int .i64 (((paA bs) : Nat) : Int), .int .u64 (((paV bs) : Nat) : Int)])] (by kernel_rfl) (by kernel_rfl) rfl ?_
              refine GL.run (j := 5) 1 [82, 83, 84] [(82, .bool true), (83, .agg #[.int .i64 (((paA bs) : Nat) : Int), .int .u64 (((paV bs) : Nat) : Int)]), (84, .agg #[.int .i64 0, .int .u64 0])] (by kernel_rfl) rfl ?_
              refine GL.sem (j := 6) (run_mx_eql (P := Try.prog) (t := 38) (n := 2) (x := (.tmp 83)) (y := (.tmp 84)) (by kernel_rfl) [.int .i64 (((paA bs) : Nat) : Int), .int .u64 (((paV bs) : Nat) : Int)] [.int .i64 0, .int .u64 0] rfl rfl rfl rfl _) [82, 85] [(82, .bool true), (85, .bool (decide (([(((paA bs) : Nat) : Int), (((paV bs) : Nat) : Int)] : List Int) = [0, 0])))] (by kernel_rfl) (by kernel_rfl) rfl ?_
              refine GL.run (j := 8) 2 [6] [(6, .bool (decide (([(((paA bs) : Nat) : Int), (((paV bs) : Nat) : Int)] : List Int) = [0, 0])))] (by kernel_rfl) rfl ?_
              refine GL.k rfl hK126 (fun _ _ h => h) ?_
              refine G.ret ?_
              intro F_ hF_ hM_
              refine hRet _ _ (bodyPost_1 rfl (RV.tmp rfl) ?_ F_ hF_ hM_)
              have hb128 : (decide (([(((paA bs) : Nat) : Int), (((paV bs) : Nat) : Int)] : List Int) = [0, 0])) = true := decide_eq_true (by rw [hA1, hA2] <;> rfl)
              rw [hb128]
              exact ⟨rfl, H98.sub (List.nil_sublist _)⟩
        · skip
          have hb85f : (((paE (putB eb.toNat 1 ++ putB v 8)) : Nat) : Int) ≠ 0 := bne_iff_ne.1 hb85
          refine GL.run (j := 24) 6 [2, 65] [(2, .slice A bs.length c), (65, .bool true)] (by kernel_rfl) rfl ?_
          refine GL.k rfl hK82 (fun _ _ h => h) ?_
          refine G.yes rfl ?_
          refine G.seqK fun K129 hK130 => ?_
          refine G.region ?_
          refine GL.run (j := 1) 1 [6] [(6, .bool false)] (by kernel_rfl) rfl ?_
          refine GL.k rfl hK130 (fun _ _ h => h) ?_
          refine G.ret ?_
          intro F_ hF_ hM_
          refine hRet _ _ (bodyPost_1 rfl (RV.tmp rfl) ?_ F_ hF_ hM_)
          exfalso
          omega
      · skip
        have hb83f := of_decide_eq_true hb83
        have hB := pa_cases (putB eb.toNat 1 ++ putB v 8)
        obtain ⟨p1, p2, p3⟩ := ans_put (e := eb.toNat) (v := v) (UInt8.toNat_lt eb) hv
        rw [p1, p2, p3] at hB
        have hB0 : paE (putB eb.toNat 1 ++ putB v 8) = 2 ∧ paA (putB eb.toNat 1 ++ putB v 8) = 0 ∧ paV (putB eb.toNat 1 ++ putB v 8) = 0 := by omega
        obtain ⟨hB0, hB1, hB2⟩ := hB0
        refine GL.run (j := 6) 3 [0, 2, 7, 9, 10, 44, 47] [(0, .int .u8 (eb.toNat : Int)), (2, .slice A bs.length c), (7, pt p14 0), (9, pt p72 0), (10, .int .i64 (((paE (putB eb.toNat 1 ++ putB v 8)) : Nat) : Int)), (44, .bool true), (47, .bool ((((paE (putB eb.toNat 1 ++ putB v 8)) : Nat) : Int) != 2))] (by kernel_rfl) rfl ?_
        cases hb131 : ((((paE (putB eb.toNat 1 ++ putB v 8)) : Nat) : Int) != 2)
        · skip
          have hb131f : (((paE (putB eb.toNat 1 ++ putB v 8)) : Nat) : Int) = 2 := bne_eq_false_iff_eq.1 hb131
          refine GL.sem (j := 7) (H78.ldA (o := 0) (ty := 38) (m := 2) (sub := [.int .i64 (((paA (putB eb.toNat 1 ++ putB v 8)) : Nat) : Int), .int .u64 (((paV (putB eb.toNat 1 ++ putB v 8)) : Nat) : Int)]) 4 rfl (by kernel_rfl) rfl rfl) [0, 2, 7, 9, 10, 44, 47, 48] [(0, .int .u8 (eb.toNat : Int)), (2, .slice A bs.length c), (7, pt p14 0), (9, pt p72 0), (10, .int .i64 (((paE (putB eb.toNat 1 ++ putB v 8)) : Nat) : Int)), (44, .bool true), (47, .bool false), (48, .agg #[.int .i64 (((paA (putB eb.toNat 1 ++ putB v 8)) : Nat) : Int), .int .u64 (((paV (putB eb.toNat 1 ++ putB v 8)) : Nat) : Int)])] (by kernel_rfl) (by kernel_rfl) rfl ?_
          refine GL.run (j := 8) 1 [0, 2, 7, 9, 10, 44, 47, 48, 49] [(0, .int .u8 (eb.toNat : Int)), (2, .slice A bs.length c), (7, pt p14 0), (9, pt p72 0), (10, .int .i64 (((paE (putB eb.toNat 1 ++ putB v 8)) : Nat) : Int)), (44, .bool true), (47, .bool false), (48, .agg #[.int .i64 (((paA (putB eb.toNat 1 ++ putB v 8)) : Nat) : Int), .int .u64 (((paV (putB eb.toNat 1 ++ putB v 8)) : Nat) : Int)]), (49, .agg #[.int .i64 0, .int .u64 0])] (by kernel_rfl) rfl ?_
          refine GL.sem (j := 9) (run_mx_neq (P := Try.prog) (t := 38) (n := 2) (x := (.tmp 48)) (y := (.tmp 49)) (by kernel_rfl) [.int .i64 (((paA (putB eb.toNat 1 ++ putB v 8)) : Nat) : Int), .int .u64 (((paV (putB eb.toNat 1 ++ putB v 8)) : Nat) : Int)] [.int .i64 0, .int .u64 0] rfl rfl rfl rfl _) [0, 2, 7, 9, 10, 44, 47, 50] [(0, .int .u8 (eb.toNat : Int)), (2, .slice A bs.length c), (7, pt p14 0), (9, pt p72 0), (10, .int .i64 (((paE (putB eb.toNat 1 ++ putB v 8)) : Nat) : Int)), (44, .bool true), (47, .bool false), (50, .bool (!(decide (([(((paA (putB eb.toNat 1 ++ putB v 8)) : Nat) : Int), (((paV (putB eb.toNat 1 ++ putB v 8)) : Nat) : Int)] : List Int) = [0, 0]))))] (by kernel_rfl) (by kernel_rfl) rfl ?_
          refine GL.run (j := 12) 3 [0, 2, 7, 9, 10, 53] [(0, .int .u8 (eb.toNat : Int)), (2, .slice A bs.length c), (7, pt p14 0), (9, pt p72 0), (10, .int .i64 (((paE (putB eb.toNat 1 ++ putB v 8)) : Nat) : Int)), (53, .bool (!(decide (([(((paA (putB eb.toNat 1 ++ putB v 8)) : Nat) : Int), (((paV (putB eb.toNat 1 ++ putB v 8)) : Nat) : Int)] : List Int) = [0, 0]))))] (by kernel_rfl) rfl ?_
          have hb132 : (!(decide (([(((paA (putB eb.toNat 1 ++ putB v 8)) : Nat) : Int), (((paV (putB eb.toNat 1 ++ putB v 8)) : Nat) : Int)] : List Int) = [0, 0]))) = false := by rw [show (decide (([(((paA (putB eb.toNat 1 ++ putB v 8)) : Nat) : Int), (((paV (putB eb.toNat 1 ++ putB v 8)) : Nat) : Int)] : List Int) = [0, 0])) = true from decide_eq_true (by rw [hB1, hB2] <;> rfl)]; rfl
          rw [hb132]
          refine GL.run (j := 15) 3 [2, 7, 9, 10, 53, 56] [(2, .slice A bs.length c), (7, pt p14 0), (9, pt p72 0), (10, .int .i64 (((paE (putB eb.toNat 1 ++ putB v 8)) : Nat) : Int)), (53, .bool false), (56, .bool (decide ((eb.toNat : Int) ≤ 23)))] (by kernel_rfl) rfl ?_
          have hb133 : (decide ((eb.toNat : Int) ≤ 23)) = false := decide_eq_false (by omega)
          rw [hb133]
          refine GL.run (j := 24) 9 [2, 65] [(2, .slice A bs.length c), (65, .bool false)] (by kernel_rfl) rfl ?_
          refine GL.k rfl hK82 (fun _ _ h => h) ?_
          refine G.no rfl ?_
          refine G.skipK hK80 (fun _ _ h => h) ?_
          refine G.seqK fun K134 hK135 => ?_
          refine G.region ?_
          refine GL.run (j := 1) 1 [2, 67] [(2, .slice A bs.length c), (67, .slice A bs.length c)] (by kernel_rfl) rfl ?_
          refine GL.call (j := 2) (PAnswer_calls bs A bs.length c w76 (hr.hp H78) (rfl) (by omega)) (by kernel_rfl) rfl (fun e_ w138 hR => ?_)
          obtain ⟨rfl, H137⟩ := hR
          have H136 : Hp w [] [.blk p14 [.int .i64 (eb.toNat : Int), .int .u64 (v : Int)] 38, .row A23 9 c24 5 1 (by8 (putB eb.toNat 1 ++ putB v 8)), .blk p35 [.int .u8 (eb.toNat : Int)] 5, .row A48 8 c49 5 1 (by8 (putB v 8)), .blk p72 [.int .i64 (((paA (putB eb.toNat 1 ++ putB v 8)) : Nat) : Int), .int .u64 (((paV (putB eb.toNat 1 ++ putB v 8)) : Nat) : Int)] 38] w138 := H78.callNil H137
          refine ⟨_, rfl, [2, 68], [(2, .slice A bs.length c), (68, .tuple #[.agg #[.int .i64 (((paA bs) : Nat) : Int), .int .u64 (((paV bs) : Nat) : Int)], .int .i64 (((paE bs) : Nat) : Int)])], by kernel_rfl, ?_⟩
          refine GL.run (j := 5) 3 [2, 69, 70] [(2, .slice A bs.length c), (69, .agg #[.int .i64 (((paA bs) : Nat) : Int), .int .u64 (((paV bs) : Nat) : Int)]), (70, .int .i64 (((paE bs) : Nat) : Int))] (by kernel_rfl) rfl ?_
          obtain ⟨p139, w140, r141, H142⟩ := H136.alloc (P := Try.prog) 38 [.int .i64 0, .int .u64 0] (by kernel_rfl)
          have H142 : Hp w [] [.blk p14 [.int .i64 (eb.toNat : Int), .int .u64 (v : Int)] 38, .row A23 9 c24 5 1 (by8 (putB eb.toNat 1 ++ putB v 8)), .blk p35 [.int .u8 (eb.toNat : Int)] 5, .row A48 8 c49 5 1 (by8 (putB v 8)), .blk p72 [.int .i64 (((paA (putB eb.toNat 1 ++ putB v 8)) : Nat) : Int), .int .u64 (((paV (putB eb.toNat 1 ++ putB v 8)) : Nat) : Int)] 38, .blk p139 [.int .i64 0, .int .u64 0] 38] w140 := H142
          refine GL.sem (j := 6) (r141) [2, 11, 69, 70] [(2, .slice A bs.length c), (11, pt p139 0), (69, .agg #[.int .i64 (((paA bs) : Nat) : Int), .int .u64 (((paV bs) : Nat) : Int)]), (70, .int .i64 (((paE bs) : Nat) : Int))] (by kernel_rfl) (by kernel_rfl) rfl ?_
          obtain ⟨w143, r144, H145⟩ := H142.stA (P := Try.prog) (o := 0) (vs := [.int .i64 (((paA bs) : Nat) : Int), .int .u64 (((paV bs) : Nat) : Int)]) (ty := 38) (m := 2) 5 rfl (by kernel_rfl) rfl (by simp) (by simp [Value.oneCell'])
          have H145 : Hp w [] [.blk p14 [.int .i64 (eb.toNat : Int), .int .u64 (v : Int)] 38, .row A23 9 c24 5 1 (by8 (putB eb.toNat 1 ++ putB v 8)), .blk p35 [.int .u8 (eb.toNat : Int)] 5, .row A48 8 c49 5 1 (by8 (putB v 8)), .blk p72 [.int .i64 (((paA (putB eb.toNat 1 ++ putB v 8)) : Nat) : Int), .int .u64 (((paV (putB eb.toNat 1 ++ putB v 8)) : Nat) : Int)] 38, .blk p139 [.int .i64 (((paA bs) : Nat) : Int), .int .u64 (((paV bs) : Nat) : Int)] 38] w143 := H145
          refine GL.semU (j := 7) r144 [2, 11, 70] [(2, .slice A bs.length c), (11, pt p139 0), (70, .int .i64 (((paE bs) : Nat) : Int))] (by kernel_rfl) rfl rfl rfl ?_
          refine GL.run (j := 8) 1 [2, 11, 12] [(2, .slice A bs.length c), (11, pt p139 0), (12, .int .i64 (((paE bs) : Nat) : Int))] (by kernel_rfl) rfl ?_
          refine GL.k rfl hK135 (fun _ _ h => h) ?_
          refine G.seqK fun K146 hK147 => ?_
          refine G.seqK fun K148 hK149 => ?_
          refine G.region ?_
          refine GL.run (j := 4) 4 [2, 11, 12, 74] [(2, .slice A bs.length c), (11, pt p139 0), (12, .int .i64 (((paE bs) : Nat) : Int)), (74, .bool ((bs.length : Int) != 9))] (by kernel_rfl) rfl ?_
          cases hb150 : ((bs.length : Int) != 9)
          · skip
            have hb150f : (bs.length : Int) = 9 := bne_eq_false_iff_eq.1 hb150
            have hP := pa_cases bs
            refine GL.run (j := 5) 1 [2, 11, 12, 74, 75] [(2, .slice A bs.length c), (11, pt p139 0), (12, .int .i64 (((paE bs) : Nat) : Int)), (74, .bool false), (75, .slice A bs.length c)] (by kernel_rfl) rfl ?_
            refine GL.sem (j := 6) (run_idxRd (P := Try.prog) (k := .i64) (t := 26) (A := A) (len := bs.length) (cap := c) (j := 0) (by kernel_rfl) rfl (hr.hp H145) (by rw [by8_length]) (by first | rfl | omega | (simp only [List.length_cons, List.length_nil, List.length_drop, List.length_take, List.length_append] <;> omega))) [2, 11, 12, 74, 76] [(2, .slice A bs.length c), (11, pt p139 0), (12, .int .i64 (((paE bs) : Nat) : Int)), (74, .bool false), (76, .pointer (Option.map (fun x => Addr.add x 0) A))] (by kernel_rfl) (by kernel_rfl) rfl ?_
            obtain ⟨b151, hat152⟩ : ∃ b : UInt8, bs[0]? = some b := ⟨_, List.getElem?_eq_getElem (by first | rfl | omega | (simp only [List.length_cons, List.length_nil, List.length_drop, List.length_take, List.length_append] <;> omega))⟩
            refine GL.sem (j := 7) (run_ldRd (P := Try.prog) (ty := 5) (A := A) (j := 0) (v := .int .u8 (b151.toNat : Int)) (by kernel_rfl) (hr.hp H145) (by8_at hat152)) [2, 11, 12, 74, 77] [(2, .slice A bs.length c), (11, pt p139 0), (12, .int .i64 (((paE bs) : Nat) : Int)), (74, .bool false), (77, .int .u8 (b151.toNat : Int))] (by kernel_rfl) (by kernel_rfl) rfl ?_
            refine GL.run (j := 9) 2 [2, 11, 12, 79] [(2, .slice A bs.length c), (11, pt p139 0), (12, .int .i64 (((paE bs) : Nat) : Int)), (79, .bool (decide (23 < (b151.toNat : Int))))] (by kernel_rfl) rfl ?_
            refine GL.k rfl hK149 (fun _ _ h => h) ?_
            cases hb153 : (decide (23 < (b151.toNat : Int)))
            · skip
              have hb153f := of_decide_eq_false hb153
              have h9 : bs.length = 9 := by omega
              have hat1 := ans1_at h9 hat152
              have hA0 : paE bs = 0 ∧ paA bs = ans1 bs ∧ paV bs = ans8 bs := by omega
              obtain ⟨hA0, hA1, hA2⟩ := hA0
              have hA3 := h9
              have hA4 := ans1_lt bs
              refine G.no rfl ?_
              refine G.skipK hK147 (fun _ _ h => h) ?_
              refine G.seqK fun K154 hK155 => ?_
              refine G.heldP (Hp w [] [.blk p14 [.int .i64 (eb.toNat : Int), .int .u64 (v : Int)] 38, .row A23 9 c24 5 1 (by8 (putB eb.toNat 1 ++ putB v 8)), .blk p35 [.int .u8 (eb.toNat : Int)] 5, .row A48 8 c49 5 1 (by8 (putB v 8)), .blk p72 [.int .i64 (((paA (putB eb.toNat 1 ++ putB v 8)) : Nat) : Int), .int .u64 (((paV (putB eb.toNat 1 ++ putB v 8)) : Nat) : Int)] 38, .blk p139 [.int .i64 (((paA bs) : Nat) : Int), .int .u64 (((paV bs) : Nat) : Int)] 38]) (by kernel_rfl) (by kernel_rfl) (fun c_ a_ d_ v_ w_ h_ => hPan c_ a_ d_ v_ w_ h_) ?_
              have H156 := H145.drew
              generalize ({ w143 with drawn := w143.drawn + 1 } : World) = w157 at H156 ⊢
              have hS158 : Hp w [] [.blk p14 [.int .i64 (eb.toNat : Int), .int .u64 (v : Int)] 38, .row A23 9 c24 5 1 (by8 (putB eb.toNat 1 ++ putB v 8)), .blk p35 [.int .u8 (eb.toNat : Int)] 5, .row A48 8 c49 5 1 (by8 (putB v 8)), .blk p72 [.int .i64 (((paA (putB eb.toNat 1 ++ putB v 8)) : Nat) : Int), .int .u64 (((paV (putB eb.toNat 1 ++ putB v 8)) : Nat) : Int)] 38, .blk p139 [.int .i64 (((paA bs) : Nat) : Int), .int .u64 (((paV bs) : Nat) : Int)] 38] w157 := H156.sub (List.Sublist.cons_cons _ (List.Sublist.cons_cons _ (List.Sublist.cons_cons _ (List.Sublist.cons_cons _ (List.Sublist.cons_cons _ (List.Sublist.cons_cons _ (List.Sublist.slnil)))))))
              refine GP.run [0, 1, 2] [2, 11, 89] [(2, .slice A bs.length c), (11, pt p139 0), (89, .bool ((((paE bs) : Nat) : Int) == 0))] [0, 1, 2] (by kernel_rfl) rfl hS158 ?_
              cases hb159 : ((((paE bs) : Nat) : Int) == 0)
              · skip
                have hb159f := ne_of_beq_false hb159
                refine GP.run [3, 4, 5, 6, 7, 8, 9, 10] [6] [(6, .bool false)] [0, 1, 2, 3, 4, 5, 6, 7, 8, 9, 10] (by kernel_rfl) rfl hS158 ?_
                refine GP.k (by kernel_rfl) hK155 (fun _ _ h => h) ?_
                refine G.ret ?_
                intro F_ hF_ hM_
                refine hRet _ _ (bodyPost_1 rfl (RV.tmp rfl) ?_ F_ hF_ hM_)
                exfalso
                omega
              · skip
                have hb159f := eq_of_beq hb159
                refine GP.sem 3 (fun w_ H_ => H_.ldA (o := 0) (ty := 38) (m := 2) (sub := [.int .i64 (((paA bs) : Nat) : Int), .int .u64 (((paV bs) : Nat) : Int)]) 5 rfl (by kernel_rfl) rfl rfl) [2, 89, 90] [(2, .slice A bs.length c), (89, .bool true), (90, .agg #[.int .i64 (((paA bs) : Nat) : Int), .int .u64 (((paV bs) : Nat) : Int)])] (by kernel_rfl) (by kernel_rfl) (by kernel_rfl) hS158 ?_
                refine GP.run [6] [89, 90, 93] [(89, .bool true), (90, .agg #[.int .i64 (((paA bs) : Nat) : Int), .int .u64 (((paV bs) : Nat) : Int)]), (93, .slice A bs.length c)] [0, 1, 2, 3, 6] (by kernel_rfl) rfl hS158 ?_
                refine GP.sem 7 (fun w_ H_ => run_toStr (P := Try.prog) (src := 26) (dst := 9) (A := A) (bs := bs) (n := bs.length) (c := c) (by kernel_rfl) (by kernel_rfl) (hr.hp H_) (rfl)) [89, 90, 94] [(89, .bool true), (90, .agg #[.int .i64 (((paA bs) : Nat) : Int), .int .u64 (((paV bs) : Nat) : Int)]), (94, .string (strOf bs))] (by kernel_rfl) (by kernel_rfl) (by kernel_rfl) hS158 ?_
                refine GP.call 4 (ABytes_calls (paA bs) (paV bs) (by omega) w157) (by kernel_rfl) (by kernel_rfl) (fun e_ w164 hR => ?_)
                obtain ⟨A160, c161, rfl, H163⟩ := hR
                have H162 : Hp w [] [.blk p14 [.int .i64 (eb.toNat : Int), .int .u64 (v : Int)] 38, .row A23 9 c24 5 1 (by8 (putB eb.toNat 1 ++ putB v 8)), .blk p35 [.int .u8 (eb.toNat : Int)] 5, .row A48 8 c49 5 1 (by8 (putB v 8)), .blk p72 [.int .i64 (((paA (putB eb.toNat 1 ++ putB v 8)) : Nat) : Int), .int .u64 (((paV (putB eb.toNat 1 ++ putB v 8)) : Nat) : Int)] 38, .blk p139 [.int .i64 (((paA bs) : Nat) : Int), .int .u64 (((paV bs) : Nat) : Int)] 38, .row A160 9 c161 5 1 (by8 (putB (paA bs) 1 ++ putB (paV bs) 8))] w164 := H156.callNew H163
                have hS165 : Hp w [] [.blk p14 [.int .i64 (eb.toNat : Int), .int .u64 (v : Int)] 38, .row A23 9 c24 5 1 (by8 (putB eb.toNat 1 ++ putB v 8)), .blk p35 [.int .u8 (eb.toNat : Int)] 5, .row A48 8 c49 5 1 (by8 (putB v 8)), .blk p72 [.int .i64 (((paA (putB eb.toNat 1 ++ putB v 8)) : Nat) : Int), .int .u64 (((paV (putB eb.toNat 1 ++ putB v 8)) : Nat) : Int)] 38, .blk p139 [.int .i64 (((paA bs) : Nat) : Int), .int .u64 (((paV bs) : Nat) : Int)] 38] w164 := H162.sub (List.Sublist.cons_cons _ (List.Sublist.cons_cons _ (List.Sublist.cons_cons _ (List.Sublist.cons_cons _ (List.Sublist.cons_cons _ (List.Sublist.cons_cons _ (List.Sublist.cons _ (List.Sublist.slnil))))))))
                refine ⟨_, rfl, hS165, [89, 91, 94], [(89, .bool true), (91, .slice A160 9 c161), (94, .string (strOf bs))], by kernel_rfl, ?_⟩
                refine GP.weak (Hp w [] [.blk p14 [.int .i64 (eb.toNat : Int), .int .u64 (v : Int)] 38, .row A23 9 c24 5 1 (by8 (putB eb.toNat 1 ++ putB v 8)), .blk p35 [.int .u8 (eb.toNat : Int)] 5, .row A48 8 c49 5 1 (by8 (putB v 8)), .blk p72 [.int .i64 (((paA (putB eb.toNat 1 ++ putB v 8)) : Nat) : Int), .int .u64 (((paV (putB eb.toNat 1 ++ putB v 8)) : Nat) : Int)] 38, .blk p139 [.int .i64 (((paA bs) : Nat) : Int), .int .u64 (((paV bs) : Nat) : Int)] 38, .row A160 9 c161 5 1 (by8 (putB (paA bs) 1 ++ putB (paV bs) 8))]) (fun w_ h_ => h_.sub (List.Sublist.cons_cons _ (List.Sublist.cons_cons _ (List.Sublist.cons_cons _ (List.Sublist.cons_cons _ (List.Sublist.cons_cons _ (List.Sublist.cons_cons _ (List.Sublist.cons _ (List.Sublist.slnil))))))))) ?_
                have hS166 : Hp w [] [.blk p14 [.int .i64 (eb.toNat : Int), .int .u64 (v : Int)] 38, .row A23 9 c24 5 1 (by8 (putB eb.toNat 1 ++ putB v 8)), .blk p35 [.int .u8 (eb.toNat : Int)] 5, .row A48 8 c49 5 1 (by8 (putB v 8)), .blk p72 [.int .i64 (((paA (putB eb.toNat 1 ++ putB v 8)) : Nat) : Int), .int .u64 (((paV (putB eb.toNat 1 ++ putB v 8)) : Nat) : Int)] 38, .blk p139 [.int .i64 (((paA bs) : Nat) : Int), .int .u64 (((paV bs) : Nat) : Int)] 38, .row A160 9 c161 5 1 (by8 (putB (paA bs) 1 ++ putB (paV bs) 8))] w164 := H162.sub (List.Sublist.cons_cons _ (List.Sublist.cons_cons _ (List.Sublist.cons_cons _ (List.Sublist.cons_cons _ (List.Sublist.cons_cons _ (List.Sublist.cons_cons _ (List.Sublist.cons_cons _ (List.Sublist.slnil))))))))
                refine GP.sem 5 (fun w_ H_ => run_toStr (P := Try.prog) (src := 26) (dst := 9) (A := A160) (bs := (putB (paA bs) 1 ++ putB (paV bs) 8)) (n := 9) (c := c161) (by kernel_rfl) (by kernel_rfl) (H_.rdRow 6 rfl) (by first | rfl | omega | (simp only [List.length_cons, List.length_nil, List.length_drop, List.length_take, List.length_append] <;> omega))) [89, 92, 94] [(89, .bool true), (92, .string (strOf (putB (paA bs) 1 ++ putB (paV bs) 8))), (94, .string (strOf bs))] (by kernel_rfl) (by kernel_rfl) (by kernel_rfl) hS166 ?_
                refine GP.sem 8 (fun w_ H_ => run_str_eql (P := Try.prog) (t := 9) (putB (paA bs) 1 ++ putB (paV bs) 8) bs _) [89, 95] [(89, .bool true), (95, .bool ((putB (paA bs) 1 ++ putB (paV bs) 8) == bs))] (by kernel_rfl) (by kernel_rfl) (by kernel_rfl) hS166 ?_
                refine GP.run [9, 10] [6] [(6, .bool ((putB (paA bs) 1 ++ putB (paV bs) 8) == bs))] [0, 1, 2, 3, 6, 7, 4, 5, 8, 9, 10] (by kernel_rfl) rfl hS166 ?_
                refine GP.k (by kernel_rfl) hK155 (fun _ _ h => h) ?_
                refine G.ret ?_
                intro F_ hF_ hM_
                refine hRet _ _ (bodyPost_1 rfl (RV.tmp rfl) ?_ F_ hF_ hM_)
                have hb167 : ((putB (paA bs) 1 ++ putB (paV bs) 8) == bs) = true := by rw [hA1, hA2, ans_back hA3]; exact beq_self_eq_true _
                rw [hb167]
                exact ⟨rfl, H162.sub (List.nil_sublist _)⟩
            · skip
              have hb153f := of_decide_eq_true hb153
              have h9 : bs.length = 9 := by omega
              have hat1 := ans1_at h9 hat152
              have hA0 : paE bs = 2 ∧ paA bs = 0 ∧ paV bs = 0 := by omega
              obtain ⟨hA0, hA1, hA2⟩ := hA0
              refine G.yes rfl ?_
              refine G.seqK fun K168 hK169 => ?_
              refine G.region ?_
              refine GL.run (j := 3) 3 [11, 82] [(11, pt p139 0), (82, .bool ((((paE bs) : Nat) : Int) == 2))] (by kernel_rfl) rfl ?_
              cases hb170 : ((((paE bs) : Nat) : Int) == 2)
              · skip
                have hb170f := ne_of_beq_false hb170
                refine GL.run (j := 8) 5 [6] [(6, .bool false)] (by kernel_rfl) rfl ?_
                refine GL.k rfl hK169 (fun _ _ h => h) ?_
                refine G.ret ?_
                intro F_ hF_ hM_
                refine hRet _ _ (bodyPost_1 rfl (RV.tmp rfl) ?_ F_ hF_ hM_)
                exfalso
                omega
              · skip
                have hb170f := eq_of_beq hb170
                refine GL.sem (j := 4) (H145.ldA (o := 0) (ty := 38) (m := 2) (sub := [.int .i64 (((paA bs) : Nat) : Int), .int .u64 (((paV bs) : Nat) : Int)]) 5 rfl (by kernel_rfl) rfl rfl) [82, 83] [(82, .bool true), (83, .agg #[.int .i64 (((paA bs) : Nat) : Int), .int .u64 (((paV bs) : Nat) : Int)])] (by kernel_rfl) (by kernel_rfl) rfl ?_
                refine GL.run (j := 5) 1 [82, 83, 84] [(82, .bool true), (83, .agg #[.int .i64 (((paA bs) : Nat) : Int), .int .u64 (((paV bs) : Nat) : Int)]), (84, .agg #[.int .i64 0, .int .u64 0])] (by kernel_rfl) rfl ?_
                refine GL.sem (j := 6) (run_mx_eql (P := Try.prog) (t := 38) (n := 2) (x := (.tmp 83)) (y := (.tmp 84)) (by kernel_rfl) [.int .i64 (((paA bs) : Nat) : Int), .int .u64 (((paV bs) : Nat) : Int)] [.int .i64 0, .int .u64 0] rfl rfl rfl rfl _) [82, 85] [(82, .bool true), (85, .bool (decide (([(((paA bs) : Nat) : Int), (((paV bs) : Nat) : Int)] : List Int) = [0, 0])))] (by kernel_rfl) (by kernel_rfl) rfl ?_
                refine GL.run (j := 8) 2 [6] [(6, .bool (decide (([(((paA bs) : Nat) : Int), (((paV bs) : Nat) : Int)] : List Int) = [0, 0])))] (by kernel_rfl) rfl ?_
                refine GL.k rfl hK169 (fun _ _ h => h) ?_
                refine G.ret ?_
                intro F_ hF_ hM_
                refine hRet _ _ (bodyPost_1 rfl (RV.tmp rfl) ?_ F_ hF_ hM_)
                have hb171 : (decide (([(((paA bs) : Nat) : Int), (((paV bs) : Nat) : Int)] : List Int) = [0, 0])) = true := decide_eq_true (by rw [hA1, hA2] <;> rfl)
                rw [hb171]
                exact ⟨rfl, H145.sub (List.nil_sublist _)⟩
          · skip
            have hb150f : (bs.length : Int) ≠ 9 := bne_iff_ne.1 hb150
            have hP := pa_cases bs
            have hA0 : paE bs = 2 ∧ paA bs = 0 ∧ paV bs = 0 := by omega
            obtain ⟨hA0, hA1, hA2⟩ := hA0
            refine GL.run (j := 9) 5 [2, 11, 12, 79] [(2, .slice A bs.length c), (11, pt p139 0), (12, .int .i64 (((paE bs) : Nat) : Int)), (79, .bool true)] (by kernel_rfl) rfl ?_
            refine GL.k rfl hK149 (fun _ _ h => h) ?_
            refine G.yes rfl ?_
            refine G.seqK fun K172 hK173 => ?_
            refine G.region ?_
            refine GL.run (j := 3) 3 [11, 82] [(11, pt p139 0), (82, .bool ((((paE bs) : Nat) : Int) == 2))] (by kernel_rfl) rfl ?_
            cases hb174 : ((((paE bs) : Nat) : Int) == 2)
            · skip
              have hb174f := ne_of_beq_false hb174
              refine GL.run (j := 8) 5 [6] [(6, .bool false)] (by kernel_rfl) rfl ?_
              refine GL.k rfl hK173 (fun _ _ h => h) ?_
              refine G.ret ?_
              intro F_ hF_ hM_
              refine hRet _ _ (bodyPost_1 rfl (RV.tmp rfl) ?_ F_ hF_ hM_)
              exfalso
              omega
            · skip
              have hb174f := eq_of_beq hb174
              refine GL.sem (j := 4) (H145.ldA (o := 0) (ty := 38) (m := 2) (sub := [.int .i64 (((paA bs) : Nat) : Int), .int .u64 (((paV bs) : Nat) : Int)]) 5 rfl (by kernel_rfl) rfl rfl) [82, 83] [(82, .bool true), (83, .agg #[.int .i64 (((paA bs) : Nat) : Int), .int .u64 (((paV bs) : Nat) : Int)])] (by kernel_rfl) (by kernel_rfl) rfl ?_
              refine GL.run (j := 5) 1 [82, 83, 84] [(82, .bool true), (83, .agg #[.int .i64 (((paA bs) : Nat) : Int), .int .u64 (((paV bs) : Nat) : Int)]), (84, .agg #[.int .i64 0, .int .u64 0])] (by kernel_rfl) rfl ?_
              refine GL.sem (j := 6) (run_mx_eql (P := Try.prog) (t := 38) (n := 2) (x := (.tmp 83)) (y := (.tmp 84)) (by kernel_rfl) [.int .i64 (((paA bs) : Nat) : Int), .int .u64 (((paV bs) : Nat) : Int)] [.int .i64 0, .int .u64 0] rfl rfl rfl rfl _) [82, 85] [(82, .bool true), (85, .bool (decide (([(((paA bs) : Nat) : Int), (((paV bs) : Nat) : Int)] : List Int) = [0, 0])))] (by kernel_rfl) (by kernel_rfl) rfl ?_
              refine GL.run (j := 8) 2 [6] [(6, .bool (decide (([(((paA bs) : Nat) : Int), (((paV bs) : Nat) : Int)] : List Int) = [0, 0])))] (by kernel_rfl) rfl ?_
              refine GL.k rfl hK173 (fun _ _ h => h) ?_
              refine G.ret ?_
              intro F_ hF_ hM_
              refine hRet _ _ (bodyPost_1 rfl (RV.tmp rfl) ?_ F_ hF_ hM_)
              have hb175 : (decide (([(((paA bs) : Nat) : Int), (((paV bs) : Nat) : Int)] : List Int) = [0, 0])) = true := decide_eq_true (by rw [hA1, hA2] <;> rfl)
              rw [hb175]
              exact ⟨rfl, H145.sub (List.nil_sublist _)⟩
        · skip
          have hb131f : (((paE (putB eb.toNat 1 ++ putB v 8)) : Nat) : Int) ≠ 2 := bne_iff_ne.1 hb131
          refine GL.run (j := 24) 18 [2, 65] [(2, .slice A bs.length c), (65, .bool true)] (by kernel_rfl) rfl ?_
          refine GL.k rfl hK82 (fun _ _ h => h) ?_
          refine G.yes rfl ?_
          refine G.seqK fun K176 hK177 => ?_
          refine G.region ?_
          refine GL.run (j := 1) 1 [6] [(6, .bool false)] (by kernel_rfl) rfl ?_
          refine GL.k rfl hK177 (fun _ _ h => h) ?_
          refine G.ret ?_
          intro F_ hF_ hM_
          refine hRet _ _ (bodyPost_1 rfl (RV.tmp rfl) ?_ F_ hF_ hM_)
          exfalso
          omega
    have st62 : ∀ (wD_ : World) (p35 : Nat), Hp w [] [.blk p14 [.int .i64 (eb.toNat : Int), .int .u64 (v : Int)] 38, .row A23 9 c24 5 1 (by8 (putB eb.toNat 1 ++ putB v 8)), .blk p35 [.int .u8 (eb.toNat : Int)] 5] wD_ → X (Hp w [] [.blk p14 [.int .i64 (eb.toNat : Int), .int .u64 (v : Int)] 38, .row A23 9 c24 5 1 (by8 (putB eb.toNat 1 ++ putB v 8)), .blk p35 [.int .u8 (eb.toNat : Int)] 5]) [0, 1, 2, 5, 3, 4] [(0, .int .u8 (eb.toNat : Int)), (2, .slice A bs.length c), (7, pt p14 0), (8, .slice A23 9 c24), (28, .string (strOf (putB eb.toNat 1 ++ putB v 8))), (31, .string (strOf ([eb] : List UInt8))), (32, .int .u64 (v : Int))] wD_ := by
      intro wD_ p35 HD_
      rw [hX]
      have hS178 : Hp w [] [.blk p14 [.int .i64 (eb.toNat : Int), .int .u64 (v : Int)] 38, .row A23 9 c24 5 1 (by8 (putB eb.toNat 1 ++ putB v 8)), .blk p35 [.int .u8 (eb.toNat : Int)] 5] wD_ := HD_.sub (List.Sublist.cons_cons _ (List.Sublist.cons_cons _ (List.Sublist.cons_cons _ (List.Sublist.slnil))))
      refine GP.all1 6 (by kernel_rfl) ?_
      · skip
        have hS179 : Hp w [] [.blk p14 [.int .i64 (eb.toNat : Int), .int .u64 (v : Int)] 38, .row A23 9 c24 5 1 (by8 (putB eb.toNat 1 ++ putB v 8)), .blk p35 [.int .u8 (eb.toNat : Int)] 5] wD_ := HD_.sub (List.Sublist.cons_cons _ (List.Sublist.cons_cons _ (List.Sublist.cons_cons _ (List.Sublist.slnil))))
        refine GO.call (RPut_calls v 8 hv (by decide) wD_) (by kernel_rfl) (fun e_ w184 hR => ?_)
        obtain ⟨A180, c181, rfl, H183⟩ := hR
        have H182 : Hp w [] [.blk p14 [.int .i64 (eb.toNat : Int), .int .u64 (v : Int)] 38, .row A23 9 c24 5 1 (by8 (putB eb.toNat 1 ++ putB v 8)), .blk p35 [.int .u8 (eb.toNat : Int)] 5, .row A180 8 c181 5 1 (by8 (putB v 8))] w184 := HD_.callNew H183
        have hS185 : Hp w [] [.blk p14 [.int .i64 (eb.toNat : Int), .int .u64 (v : Int)] 38, .row A23 9 c24 5 1 (by8 (putB eb.toNat 1 ++ putB v 8)), .blk p35 [.int .u8 (eb.toNat : Int)] 5] w184 := H182.sub (List.Sublist.cons_cons _ (List.Sublist.cons_cons _ (List.Sublist.cons_cons _ (List.Sublist.cons _ (List.Sublist.slnil)))))
        refine ⟨_, rfl, hS185, [0, 2, 7, 8, 28, 31, 33], [(0, .int .u8 (eb.toNat : Int)), (2, .slice A bs.length c), (7, pt p14 0), (8, .slice A23 9 c24), (28, .string (strOf (putB eb.toNat 1 ++ putB v 8))), (31, .string (strOf ([eb] : List UInt8))), (33, .slice A180 8 c181)], by kernel_rfl, ?_⟩
        refine GP.weak (Hp w [] [.blk p14 [.int .i64 (eb.toNat : Int), .int .u64 (v : Int)] 38, .row A23 9 c24 5 1 (by8 (putB eb.toNat 1 ++ putB v 8)), .blk p35 [.int .u8 (eb.toNat : Int)] 5, .row A180 8 c181 5 1 (by8 (putB v 8))]) (fun w_ h_ => h_.sub (List.Sublist.cons_cons _ (List.Sublist.cons_cons _ (List.Sublist.cons_cons _ (List.Sublist.cons _ (List.Sublist.slnil)))))) ?_
        have hS186 : Hp w [] [.blk p14 [.int .i64 (eb.toNat : Int), .int .u64 (v : Int)] 38, .row A23 9 c24 5 1 (by8 (putB eb.toNat 1 ++ putB v 8)), .blk p35 [.int .u8 (eb.toNat : Int)] 5, .row A180 8 c181 5 1 (by8 (putB v 8))] w184 := H182.sub (List.Sublist.cons_cons _ (List.Sublist.cons_cons _ (List.Sublist.cons_cons _ (List.Sublist.cons_cons _ (List.Sublist.slnil)))))
        refine GP.sem 7 (fun w_ H_ => run_toStr (P := Try.prog) (src := 26) (dst := 9) (A := A180) (bs := (putB v 8)) (n := 8) (c := c181) (by kernel_rfl) (by kernel_rfl) (H_.rdRow 3 rfl) (by first | rfl | omega | (simp only [List.length_cons, List.length_nil, List.length_drop, List.length_take, List.length_append] <;> omega))) [0, 2, 7, 8, 28, 31, 34] [(0, .int .u8 (eb.toNat : Int)), (2, .slice A bs.length c), (7, pt p14 0), (8, .slice A23 9 c24), (28, .string (strOf (putB eb.toNat 1 ++ putB v 8))), (31, .string (strOf ([eb] : List UInt8))), (34, .string (strOf (putB v 8)))] (by kernel_rfl) (by kernel_rfl) (by kernel_rfl) hS186 ?_
        refine GP.sem 8 (fun w_ H_ => run_str_add (P := Try.prog) (t := 9) ([eb] : List UInt8) (putB v 8) (by first | omega | (simp only [List.length_cons, List.length_nil, List.length_append, putB_length] <;> omega)) _) [0, 2, 7, 8, 28, 35] [(0, .int .u8 (eb.toNat : Int)), (2, .slice A bs.length c), (7, pt p14 0), (8, .slice A23 9 c24), (28, .string (strOf (putB eb.toNat 1 ++ putB v 8))), (35, .string (strOf (([eb] : List UInt8) ++ (putB v 8))))] (by kernel_rfl) (by kernel_rfl) (by kernel_rfl) hS186 ?_
        refine GP.sem 9 (fun w_ H_ => run_str_neq (P := Try.prog) (t := 9) (putB eb.toNat 1 ++ putB v 8) (([eb] : List UInt8) ++ (putB v 8)) _) [0, 2, 7, 8, 36] [(0, .int .u8 (eb.toNat : Int)), (2, .slice A bs.length c), (7, pt p14 0), (8, .slice A23 9 c24), (36, .bool (!((putB eb.toNat 1 ++ putB v 8) == (([eb] : List UInt8) ++ (putB v 8)))))] (by kernel_rfl) (by kernel_rfl) (by kernel_rfl) hS186 ?_
        refine GP.perm [0, 1, 2, 5, 3, 4, 6, 7, 8, 9] (by kernel_rfl) rfl ?_
        rw [← hX]
        exact st64 _ p35 A180 c181 H182
    have st63 : ∀ (wD_ : World) (A41 : Option Addr) (c42 : Nat), Hp w [] [.blk p14 [.int .i64 (eb.toNat : Int), .int .u64 (v : Int)] 38, .row A23 9 c24 5 1 (by8 (putB eb.toNat 1 ++ putB v 8)), .row A41 8 c42 5 1 (by8 (putB v 8))] wD_ → X (Hp w [] [.blk p14 [.int .i64 (eb.toNat : Int), .int .u64 (v : Int)] 38, .row A23 9 c24 5 1 (by8 (putB eb.toNat 1 ++ putB v 8)), .row A41 8 c42 5 1 (by8 (putB v 8))]) [0, 1, 2, 5, 6, 7] [(0, .int .u8 (eb.toNat : Int)), (2, .slice A bs.length c), (7, pt p14 0), (8, .slice A23 9 c24), (28, .string (strOf (putB eb.toNat 1 ++ putB v 8))), (29, .int .u8 (eb.toNat : Int)), (34, .string (strOf (putB v 8)))] wD_ := by
      intro wD_ A41 c42 HD_
      rw [hX]
      have hS187 : Hp w [] [.blk p14 [.int .i64 (eb.toNat : Int), .int .u64 (v : Int)] 38, .row A23 9 c24 5 1 (by8 (putB eb.toNat 1 ++ putB v 8)), .row A41 8 c42 5 1 (by8 (putB v 8))] wD_ := HD_.sub (List.Sublist.cons_cons _ (List.Sublist.cons_cons _ (List.Sublist.cons_cons _ (List.Sublist.slnil))))
      refine GP.all1 3 (by kernel_rfl) ?_
      · skip
        have hS188 : Hp w [] [.blk p14 [.int .i64 (eb.toNat : Int), .int .u64 (v : Int)] 38, .row A23 9 c24 5 1 (by8 (putB eb.toNat 1 ++ putB v 8)), .row A41 8 c42 5 1 (by8 (putB v 8))] wD_ := HD_.sub (List.Sublist.cons_cons _ (List.Sublist.cons_cons _ (List.Sublist.cons_cons _ (List.Sublist.slnil))))
        obtain ⟨p189, w190, r191, H192⟩ := HD_.made (P := Try.prog) (Instr.buildSlice 26 1 #[(0, .int .u8 (eb.toNat : Int))]) (fun b_ => .slice (some ⟨b_, 0, none⟩) 1 1) [.int .u8 (eb.toNat : Int)] 5 (by kernel_rfl)
        have H192 : Hp w [] [.blk p14 [.int .i64 (eb.toNat : Int), .int .u64 (v : Int)] 38, .row A23 9 c24 5 1 (by8 (putB eb.toNat 1 ++ putB v 8)), .row A41 8 c42 5 1 (by8 (putB v 8)), .blk p189 [.int .u8 (eb.toNat : Int)] 5] w190 := H192
        have hS193 : Hp w [] [.blk p14 [.int .i64 (eb.toNat : Int), .int .u64 (v : Int)] 38, .row A23 9 c24 5 1 (by8 (putB eb.toNat 1 ++ putB v 8)), .row A41 8 c42 5 1 (by8 (putB v 8))] w190 := H192.sub (List.Sublist.cons_cons _ (List.Sublist.cons_cons _ (List.Sublist.cons_cons _ (List.Sublist.cons _ (List.Sublist.slnil)))))
        refine GO.made r191 [0, 2, 7, 8, 28, 30, 34] [(0, .int .u8 (eb.toNat : Int)), (2, .slice A bs.length c), (7, pt p14 0), (8, .slice A23 9 c24), (28, .string (strOf (putB eb.toNat 1 ++ putB v 8))), (30, .slice (some ⟨p189, 0, none⟩) 1 1), (34, .string (strOf (putB v 8)))] (by kernel_rfl) (by kernel_rfl) hS193 ?_
        refine GP.weak (Hp w [] [.blk p14 [.int .i64 (eb.toNat : Int), .int .u64 (v : Int)] 38, .row A23 9 c24 5 1 (by8 (putB eb.toNat 1 ++ putB v 8)), .row A41 8 c42 5 1 (by8 (putB v 8)), .blk p189 [.int .u8 (eb.toNat : Int)] 5]) (fun w_ h_ => h_.sub (List.Sublist.cons_cons _ (List.Sublist.cons_cons _ (List.Sublist.cons_cons _ (List.Sublist.cons _ (List.Sublist.slnil)))))) ?_
        have hS194 : Hp w [] [.blk p14 [.int .i64 (eb.toNat : Int), .int .u64 (v : Int)] 38, .row A23 9 c24 5 1 (by8 (putB eb.toNat 1 ++ putB v 8)), .row A41 8 c42 5 1 (by8 (putB v 8)), .blk p189 [.int .u8 (eb.toNat : Int)] 5] w190 := H192.sub (List.Sublist.cons_cons _ (List.Sublist.cons_cons _ (List.Sublist.cons_cons _ (List.Sublist.cons_cons _ (List.Sublist.slnil)))))
        refine GP.sem 4 (fun w_ H_ => run_toStr (P := Try.prog) (src := 26) (dst := 9) (A := some ⟨p189, 0, none⟩) (bs := ([eb] : List UInt8)) (n := 1) (c := 1) (by kernel_rfl) (by kernel_rfl) (H_.rdBlk (o := 0) (xs := by8 ([eb] : List UInt8)) 3 1 rfl rfl) (by first | rfl | omega | (simp only [List.length_cons, List.length_nil, List.length_drop, List.length_take, List.length_append] <;> omega))) [0, 2, 7, 8, 28, 31, 34] [(0, .int .u8 (eb.toNat : Int)), (2, .slice A bs.length c), (7, pt p14 0), (8, .slice A23 9 c24), (28, .string (strOf (putB eb.toNat 1 ++ putB v 8))), (31, .string (strOf ([eb] : List UInt8))), (34, .string (strOf (putB v 8)))] (by kernel_rfl) (by kernel_rfl) (by kernel_rfl) hS194 ?_
        refine GP.sem 8 (fun w_ H_ => run_str_add (P := Try.prog) (t := 9) ([eb] : List UInt8) (putB v 8) (by first | omega | (simp only [List.length_cons, List.length_nil, List.length_append, putB_length] <;> omega)) _) [0, 2, 7, 8, 28, 35] [(0, .int .u8 (eb.toNat : Int)), (2, .slice A bs.length c), (7, pt p14 0), (8, .slice A23 9 c24), (28, .string (strOf (putB eb.toNat 1 ++ putB v 8))), (35, .string (strOf (([eb] : List UInt8) ++ (putB v 8))))] (by kernel_rfl) (by kernel_rfl) (by kernel_rfl) hS194 ?_
        refine GP.sem 9 (fun w_ H_ => run_str_neq (P := Try.prog) (t := 9) (putB eb.toNat 1 ++ putB v 8) (([eb] : List UInt8) ++ (putB v 8)) _) [0, 2, 7, 8, 36] [(0, .int .u8 (eb.toNat : Int)), (2, .slice A bs.length c), (7, pt p14 0), (8, .slice A23 9 c24), (36, .bool (!((putB eb.toNat 1 ++ putB v 8) == (([eb] : List UInt8) ++ (putB v 8)))))] (by kernel_rfl) (by kernel_rfl) (by kernel_rfl) hS194 ?_
        have H195 := (Hp.reorder (L' := [.blk p14 [.int .i64 (eb.toNat : Int), .int .u64 (v : Int)] 38, .row A23 9 c24 5 1 (by8 (putB eb.toNat 1 ++ putB v 8)), .blk p189 [.int .u8 (eb.toNat : Int)] 5, .row A41 8 c42 5 1 (by8 (putB v 8))]) H192 (List.Perm.cons _ (List.Perm.cons _ (List.Perm.trans (List.Perm.swap _ _ _) (List.Perm.refl _)))))
        refine GP.perm [0, 1, 2, 5, 3, 4, 6, 7, 8, 9] (by kernel_rfl) rfl ?_
        refine GP.weak (Hp w [] [.blk p14 [.int .i64 (eb.toNat : Int), .int .u64 (v : Int)] 38, .row A23 9 c24 5 1 (by8 (putB eb.toNat 1 ++ putB v 8)), .blk p189 [.int .u8 (eb.toNat : Int)] 5, .row A41 8 c42 5 1 (by8 (putB v 8))]) (fun w_ h_ => (Hp.reorder (L' := [.blk p14 [.int .i64 (eb.toNat : Int), .int .u64 (v : Int)] 38, .row A23 9 c24 5 1 (by8 (putB eb.toNat 1 ++ putB v 8)), .row A41 8 c42 5 1 (by8 (putB v 8)), .blk p189 [.int .u8 (eb.toNat : Int)] 5]) h_ (List.Perm.cons _ (List.Perm.cons _ (List.Perm.trans (List.Perm.swap _ _ _) (List.Perm.refl _))))).sub (List.Sublist.cons_cons _ (List.Sublist.cons_cons _ (List.Sublist.cons_cons _ (List.Sublist.cons_cons _ (List.Sublist.slnil)))))) ?_
        rw [← hX]
        exact st64 _ p189 A41 c42 H195
    have st61 : ∀ (wD_ : World), Hp w [] [.blk p14 [.int .i64 (eb.toNat : Int), .int .u64 (v : Int)] 38, .row A23 9 c24 5 1 (by8 (putB eb.toNat 1 ++ putB v 8))] wD_ → X (Hp w [] [.blk p14 [.int .i64 (eb.toNat : Int), .int .u64 (v : Int)] 38, .row A23 9 c24 5 1 (by8 (putB eb.toNat 1 ++ putB v 8))]) [0, 1, 2, 5] [(0, .int .u8 (eb.toNat : Int)), (2, .slice A bs.length c), (7, pt p14 0), (8, .slice A23 9 c24), (28, .string (strOf (putB eb.toNat 1 ++ putB v 8))), (29, .int .u8 (eb.toNat : Int)), (32, .int .u64 (v : Int))] wD_ := by
      intro wD_ HD_
      rw [hX]
      have hS196 : Hp w [] [.blk p14 [.int .i64 (eb.toNat : Int), .int .u64 (v : Int)] 38, .row A23 9 c24 5 1 (by8 (putB eb.toNat 1 ++ putB v 8))] wD_ := HD_.sub (List.Sublist.cons_cons _ (List.Sublist.cons_cons _ (List.Sublist.slnil)))
      refine GP.all2 3 6 (by kernel_rfl) ?_ ?_
      · skip
        have hS197 : Hp w [] [.blk p14 [.int .i64 (eb.toNat : Int), .int .u64 (v : Int)] 38, .row A23 9 c24 5 1 (by8 (putB eb.toNat 1 ++ putB v 8))] wD_ := HD_.sub (List.Sublist.cons_cons _ (List.Sublist.cons_cons _ (List.Sublist.slnil)))
        obtain ⟨p198, w199, r200, H201⟩ := HD_.made (P := Try.prog) (Instr.buildSlice 26 1 #[(0, .int .u8 (eb.toNat : Int))]) (fun b_ => .slice (some ⟨b_, 0, none⟩) 1 1) [.int .u8 (eb.toNat : Int)] 5 (by kernel_rfl)
        have H201 : Hp w [] [.blk p14 [.int .i64 (eb.toNat : Int), .int .u64 (v : Int)] 38, .row A23 9 c24 5 1 (by8 (putB eb.toNat 1 ++ putB v 8)), .blk p198 [.int .u8 (eb.toNat : Int)] 5] w199 := H201
        have hS202 : Hp w [] [.blk p14 [.int .i64 (eb.toNat : Int), .int .u64 (v : Int)] 38, .row A23 9 c24 5 1 (by8 (putB eb.toNat 1 ++ putB v 8))] w199 := H201.sub (List.Sublist.cons_cons _ (List.Sublist.cons_cons _ (List.Sublist.cons _ (List.Sublist.slnil))))
        refine GO.made r200 [0, 2, 7, 8, 28, 30, 32] [(0, .int .u8 (eb.toNat : Int)), (2, .slice A bs.length c), (7, pt p14 0), (8, .slice A23 9 c24), (28, .string (strOf (putB eb.toNat 1 ++ putB v 8))), (30, .slice (some ⟨p198, 0, none⟩) 1 1), (32, .int .u64 (v : Int))] (by kernel_rfl) (by kernel_rfl) hS202 ?_
        refine GP.weak (Hp w [] [.blk p14 [.int .i64 (eb.toNat : Int), .int .u64 (v : Int)] 38, .row A23 9 c24 5 1 (by8 (putB eb.toNat 1 ++ putB v 8)), .blk p198 [.int .u8 (eb.toNat : Int)] 5]) (fun w_ h_ => h_.sub (List.Sublist.cons_cons _ (List.Sublist.cons_cons _ (List.Sublist.cons _ (List.Sublist.slnil))))) ?_
        have hS203 : Hp w [] [.blk p14 [.int .i64 (eb.toNat : Int), .int .u64 (v : Int)] 38, .row A23 9 c24 5 1 (by8 (putB eb.toNat 1 ++ putB v 8)), .blk p198 [.int .u8 (eb.toNat : Int)] 5] w199 := H201.sub (List.Sublist.cons_cons _ (List.Sublist.cons_cons _ (List.Sublist.cons_cons _ (List.Sublist.slnil))))
        refine GP.sem 4 (fun w_ H_ => run_toStr (P := Try.prog) (src := 26) (dst := 9) (A := some ⟨p198, 0, none⟩) (bs := ([eb] : List UInt8)) (n := 1) (c := 1) (by kernel_rfl) (by kernel_rfl) (H_.rdBlk (o := 0) (xs := by8 ([eb] : List UInt8)) 2 1 rfl rfl) (by first | rfl | omega | (simp only [List.length_cons, List.length_nil, List.length_drop, List.length_take, List.length_append] <;> omega))) [0, 2, 7, 8, 28, 31, 32] [(0, .int .u8 (eb.toNat : Int)), (2, .slice A bs.length c), (7, pt p14 0), (8, .slice A23 9 c24), (28, .string (strOf (putB eb.toNat 1 ++ putB v 8))), (31, .string (strOf ([eb] : List UInt8))), (32, .int .u64 (v : Int))] (by kernel_rfl) (by kernel_rfl) (by kernel_rfl) hS203 ?_
        refine GP.perm [0, 1, 2, 5, 3, 4] (by kernel_rfl) rfl ?_
        rw [← hX]
        exact st62 _ p198 H201
      · skip
        have hS204 : Hp w [] [.blk p14 [.int .i64 (eb.toNat : Int), .int .u64 (v : Int)] 38, .row A23 9 c24 5 1 (by8 (putB eb.toNat 1 ++ putB v 8))] wD_ := HD_.sub (List.Sublist.cons_cons _ (List.Sublist.cons_cons _ (List.Sublist.slnil)))
        refine GO.call (RPut_calls v 8 hv (by decide) wD_) (by kernel_rfl) (fun e_ w209 hR => ?_)
        obtain ⟨A205, c206, rfl, H208⟩ := hR
        have H207 : Hp w [] [.blk p14 [.int .i64 (eb.toNat : Int), .int .u64 (v : Int)] 38, .row A23 9 c24 5 1 (by8 (putB eb.toNat 1 ++ putB v 8)), .row A205 8 c206 5 1 (by8 (putB v 8))] w209 := HD_.callNew H208
        have hS210 : Hp w [] [.blk p14 [.int .i64 (eb.toNat : Int), .int .u64 (v : Int)] 38, .row A23 9 c24 5 1 (by8 (putB eb.toNat 1 ++ putB v 8))] w209 := H207.sub (List.Sublist.cons_cons _ (List.Sublist.cons_cons _ (List.Sublist.cons _ (List.Sublist.slnil))))
        refine ⟨_, rfl, hS210, [0, 2, 7, 8, 28, 29, 33], [(0, .int .u8 (eb.toNat : Int)), (2, .slice A bs.length c), (7, pt p14 0), (8, .slice A23 9 c24), (28, .string (strOf (putB eb.toNat 1 ++ putB v 8))), (29, .int .u8 (eb.toNat : Int)), (33, .slice A205 8 c206)], by kernel_rfl, ?_⟩
        refine GP.weak (Hp w [] [.blk p14 [.int .i64 (eb.toNat : Int), .int .u64 (v : Int)] 38, .row A23 9 c24 5 1 (by8 (putB eb.toNat 1 ++ putB v 8)), .row A205 8 c206 5 1 (by8 (putB v 8))]) (fun w_ h_ => h_.sub (List.Sublist.cons_cons _ (List.Sublist.cons_cons _ (List.Sublist.cons _ (List.Sublist.slnil))))) ?_
        have hS211 : Hp w [] [.blk p14 [.int .i64 (eb.toNat : Int), .int .u64 (v : Int)] 38, .row A23 9 c24 5 1 (by8 (putB eb.toNat 1 ++ putB v 8)), .row A205 8 c206 5 1 (by8 (putB v 8))] w209 := H207.sub (List.Sublist.cons_cons _ (List.Sublist.cons_cons _ (List.Sublist.cons_cons _ (List.Sublist.slnil))))
        refine GP.sem 7 (fun w_ H_ => run_toStr (P := Try.prog) (src := 26) (dst := 9) (A := A205) (bs := (putB v 8)) (n := 8) (c := c206) (by kernel_rfl) (by kernel_rfl) (H_.rdRow 2 rfl) (by first | rfl | omega | (simp only [List.length_cons, List.length_nil, List.length_drop, List.length_take, List.length_append] <;> omega))) [0, 2, 7, 8, 28, 29, 34] [(0, .int .u8 (eb.toNat : Int)), (2, .slice A bs.length c), (7, pt p14 0), (8, .slice A23 9 c24), (28, .string (strOf (putB eb.toNat 1 ++ putB v 8))), (29, .int .u8 (eb.toNat : Int)), (34, .string (strOf (putB v 8)))] (by kernel_rfl) (by kernel_rfl) (by kernel_rfl) hS211 ?_
        refine GP.perm [0, 1, 2, 5, 6, 7] (by kernel_rfl) rfl ?_
        rw [← hX]
        exact st63 _ A205 c206 H207
    rw [hX]
    rw [← hX]
    exact st61 _ H32
  · skip
    have hb10f := of_decide_eq_true hb10
    refine G.yes rfl ?_
    refine G.seqK fun K212 hK213 => ?_
    refine G.region ?_
    refine GL.call (j := 1) (lives_calls w7) (by kernel_rfl) rfl (fun e_ w214 hR => ?_)
    obtain ⟨rfl, H216⟩ := hR
    have H215 : Hp w [] [] w214 := H8.callNil H216
    refine ⟨_, rfl, [20], [(20, .bool true)], by kernel_rfl, ?_⟩
    refine GL.run (j := 2) 1 [6] [(6, .bool true)] (by kernel_rfl) rfl ?_
    refine GL.k rfl hK213 (fun _ _ h => h) ?_
    refine G.ret ?_
    intro F_ hF_ hM_
    refine hRet _ _ (bodyPost_1 rfl (RV.tmp rfl) ?_ F_ hF_ hM_)
    exact ⟨rfl, H215.sub (List.nil_sublist _)⟩
end Go.Proofs.Ytkfhcogdpmndkaa
