/- The contracts of package wide: bits. -/
import Derived.Test.YtljfofnpjmlobaaWide
namespace Go.Proofs.Ytljfofnpjmlobaa
open Go.RowKit
theorem Len64_calls (x : Nat) (hx : x < K) (w : World) : Calls Try.prog 34 #[.int .u64 (x : Int)] w fun e w' => e = .returned (.int .i64 ((bl x : Nat) : Int)) ∧ Hp w [] [] w' := by
  have hx0 : x < 18446744073709551616 := hx
  refine calls_G (args := [.int .u64 (x : Int)]) Try.func34 rfl Try.ntmps34 rfl ?_
  intro Q0 hRet hNor hPan
  have H := Hp.start w
  have H : Hp w [] [] w := H
  refine G.seqK fun K1 hK2 => ?_
  refine G.region ?_
  refine GL.run (j := 1) 1 [0, 2] [(0, .int .u64 (x : Int)), (2, .int .i64 0)] (by kernel_rfl) rfl ?_
  refine GL.k rfl hK2 (fun _ _ h => h) ?_
  refine G.seqK fun K3 hK4 => ?_
  refine G.seqK fun K5 hK6 => ?_
  refine G.region ?_
  refine GL.run (j := 2) 2 [0, 2, 4] [(0, .int .u64 (x : Int)), (2, .int .i64 0), (4, .bool (decide (4294967296 ≤ (x : Int))))] (by kernel_rfl) rfl ?_
  refine GL.k rfl hK6 (fun _ _ h => h) ?_
  cases hb7 : (decide (4294967296 ≤ (x : Int)))
  · skip
    have hb7f := of_decide_eq_false hb7
    refine G.no rfl ?_
    refine G.skipK hK4 (fun _ _ h => h) ?_
    refine G.seqK fun K8 hK9 => ?_
    refine G.seqK fun K10 hK11 => ?_
    refine G.region ?_
    refine GL.run (j := 2) 2 [0, 2, 8] [(0, .int .u64 (x : Int)), (2, .int .i64 0), (8, .bool (decide (65536 ≤ (x : Int))))] (by kernel_rfl) rfl ?_
    refine GL.k rfl hK11 (fun _ _ h => h) ?_
    cases hb12 : (decide (65536 ≤ (x : Int)))
    · skip
      have hb12f := of_decide_eq_false hb12
      refine G.no rfl ?_
      refine G.skipK hK9 (fun _ _ h => h) ?_
      refine G.seqK fun K13 hK14 => ?_
      refine G.seqK fun K15 hK16 => ?_
      refine G.region ?_
      refine GL.run (j := 2) 2 [0, 2, 14] [(0, .int .u64 (x : Int)), (2, .int .i64 0), (14, .bool (decide (256 ≤ (x : Int))))] (by kernel_rfl) rfl ?_
      refine GL.k rfl hK16 (fun _ _ h => h) ?_
      cases hb17 : (decide (256 ≤ (x : Int)))
      · skip
        have hb17f := of_decide_eq_false hb17
        refine G.no rfl ?_
        refine G.skipK hK14 (fun _ _ h => h) ?_
        refine G.seqK fun K18 hK19 => ?_
        refine G.region ?_
        refine GL.run (j := 3) 3 [19, 21] [(19, .int .i64 0), (21, .int .u8 (IntKind.u8.wrap (x : Int)))] (by kernel_rfl) rfl ?_
        have e20 : (IntKind.u8.wrap (x : Int)) = (x : Int) := in_u8 (by omega)
        refine GL.eq (M' := [(19, .int .i64 0), (21, .int .u8 (x : Int))]) (by rw [e20]) ?_
        clear e20
        refine GL.sem (j := 4) (run_strIdx (P := Try.prog) (k := .u8) (t := 9) (s := tab8) (by kernel_rfl) (tab8_bl x (by omega)) _) [19, 22] [(19, .int .i64 0), (22, .int .u8 ((UInt8.ofNat (bl x)).toNat : Int))] (by kernel_rfl) (by kernel_rfl) rfl ?_
        have e21 : ((UInt8.ofNat (bl x)).toNat : Int) = ((bl x : Nat) : Int) := by rw [bl_w (by omega)]
        refine GL.eq (M' := [(19, .int .i64 0), (22, .int .u8 ((bl x : Nat) : Int))]) (by rw [e21]) ?_
        have e21b := bl_le (k := 8) (show x < 2 ^ 8 by omega)
        refine GL.run (j := 7) 3 [2] [(2, .int .i64 (IntKind.i64.wrap (0 + (IntKind.i64.wrap ((bl x : Nat) : Int)))))] (by kernel_rfl) rfl ?_
        have e22 : (IntKind.i64.wrap ((bl x : Nat) : Int)) = ((bl x : Nat) : Int) := in_i64 (by omega)
        have e23 : (IntKind.i64.wrap (0 + ((bl x : Nat) : Int))) = ((0 + (bl x) : Nat) : Int) := by rw [in_i64 (by omega)]; omega
        refine GL.eq (M' := [(2, .int .i64 ((0 + (bl x) : Nat) : Int))]) (by rw [e22, e23]) ?_
        clear e22 e23
        refine GL.k rfl hK19 (fun _ _ h => h) ?_
        refine G.ret ?_
        intro F_ hF_ hM_
        refine hRet _ _ (bodyPost_1 rfl (RV.tmp rfl) ?_ F_ hF_ hM_)
        have e0 : (((0 + (bl x) : Nat) : Int) : Int) = ((bl x : Nat) : Int) := by
          first | done | omega
        rw [e0]
        exact ⟨rfl, H.sub (List.nil_sublist _)⟩
      · skip
        have hb17f := of_decide_eq_true hb17
        refine G.yes rfl ?_
        refine G.seqK fun K24 hK25 => ?_
        refine G.region ?_
        refine GL.run (j := 3) 3 [0, 2] [(0, .int .u64 (Int.fdiv (x : Int) (2 ^ 8))), (2, .int .i64 0)] (by kernel_rfl) rfl ?_
        have e26 : (Int.fdiv (x : Int) (2 ^ 8)) = ((x / 256 : Nat) : Int) := n_shr _ 8
        refine GL.eq (M' := [(0, .int .u64 ((x / 256 : Nat) : Int)), (2, .int .i64 0)]) (by rw [e26]) ?_
        clear e26
        refine GL.k rfl hK25 (fun _ _ h => h) ?_
        refine G.region ?_
        refine GL.run (j := 3) 3 [0, 2] [(0, .int .u64 ((x / 256 : Nat) : Int)), (2, .int .i64 8)] (by kernel_rfl) rfl ?_
        refine GL.k rfl hK14 (fun _ _ h => h) ?_
        refine G.seqK fun K27 hK28 => ?_
        refine G.region ?_
        refine GL.run (j := 3) 3 [19, 21] [(19, .int .i64 8), (21, .int .u8 (IntKind.u8.wrap ((x / 256 : Nat) : Int)))] (by kernel_rfl) rfl ?_
        have e29 : (IntKind.u8.wrap ((x / 256 : Nat) : Int)) = ((x / 256 : Nat) : Int) := in_u8 (by omega)
        refine GL.eq (M' := [(19, .int .i64 8), (21, .int .u8 ((x / 256 : Nat) : Int))]) (by rw [e29]) ?_
        clear e29
        refine GL.sem (j := 4) (run_strIdx (P := Try.prog) (k := .u8) (t := 9) (s := tab8) (by kernel_rfl) (tab8_bl (x / 256) (by omega)) _) [19, 22] [(19, .int .i64 8), (22, .int .u8 ((UInt8.ofNat (bl (x / 256))).toNat : Int))] (by kernel_rfl) (by kernel_rfl) rfl ?_
        have e30 : ((UInt8.ofNat (bl (x / 256))).toNat : Int) = ((bl (x / 256) : Nat) : Int) := by rw [bl_w (by omega)]
        refine GL.eq (M' := [(19, .int .i64 8), (22, .int .u8 ((bl (x / 256) : Nat) : Int))]) (by rw [e30]) ?_
        have e30b := bl_le (k := 8) (show x / 256 < 2 ^ 8 by omega)
        refine GL.run (j := 7) 3 [2] [(2, .int .i64 (IntKind.i64.wrap (8 + (IntKind.i64.wrap ((bl (x / 256) : Nat) : Int)))))] (by kernel_rfl) rfl ?_
        have e31 : (IntKind.i64.wrap ((bl (x / 256) : Nat) : Int)) = ((bl (x / 256) : Nat) : Int) := in_i64 (by omega)
        have e32 : (IntKind.i64.wrap (8 + ((bl (x / 256) : Nat) : Int))) = ((8 + (bl (x / 256)) : Nat) : Int) := by rw [in_i64 (by omega)]; omega
        refine GL.eq (M' := [(2, .int .i64 ((8 + (bl (x / 256)) : Nat) : Int))]) (by rw [e31, e32]) ?_
        clear e31 e32
        refine GL.k rfl hK28 (fun _ _ h => h) ?_
        refine G.ret ?_
        intro F_ hF_ hM_
        refine hRet _ _ (bodyPost_1 rfl (RV.tmp rfl) ?_ F_ hF_ hM_)
        have e0 : (((8 + (bl (x / 256)) : Nat) : Int) : Int) = ((bl x : Nat) : Int) := by
          rw [bl_shr (x := x) 8 (by omega)]
          try simp only [show (2 : Nat) ^ 8 = 256 from rfl]
          first | done | omega
        rw [e0]
        exact ⟨rfl, H.sub (List.nil_sublist _)⟩
    · skip
      have hb12f := of_decide_eq_true hb12
      refine G.yes rfl ?_
      refine G.seqK fun K33 hK34 => ?_
      refine G.region ?_
      refine GL.run (j := 3) 3 [0, 2] [(0, .int .u64 (Int.fdiv (x : Int) (2 ^ 16))), (2, .int .i64 0)] (by kernel_rfl) rfl ?_
      have e35 : (Int.fdiv (x : Int) (2 ^ 16)) = ((x / 65536 : Nat) : Int) := n_shr _ 16
      refine GL.eq (M' := [(0, .int .u64 ((x / 65536 : Nat) : Int)), (2, .int .i64 0)]) (by rw [e35]) ?_
      clear e35
      refine GL.k rfl hK34 (fun _ _ h => h) ?_
      refine G.region ?_
      refine GL.run (j := 3) 3 [0, 2] [(0, .int .u64 ((x / 65536 : Nat) : Int)), (2, .int .i64 16)] (by kernel_rfl) rfl ?_
      refine GL.k rfl hK9 (fun _ _ h => h) ?_
      refine G.seqK fun K36 hK37 => ?_
      refine G.seqK fun K38 hK39 => ?_
      refine G.region ?_
      refine GL.run (j := 2) 2 [0, 2, 14] [(0, .int .u64 ((x / 65536 : Nat) : Int)), (2, .int .i64 16), (14, .bool (decide (256 ≤ ((x / 65536 : Nat) : Int))))] (by kernel_rfl) rfl ?_
      refine GL.k rfl hK39 (fun _ _ h => h) ?_
      cases hb40 : (decide (256 ≤ ((x / 65536 : Nat) : Int)))
      · skip
        have hb40f := of_decide_eq_false hb40
        refine G.no rfl ?_
        refine G.skipK hK37 (fun _ _ h => h) ?_
        refine G.seqK fun K41 hK42 => ?_
        refine G.region ?_
        refine GL.run (j := 3) 3 [19, 21] [(19, .int .i64 16), (21, .int .u8 (IntKind.u8.wrap ((x / 65536 : Nat) : Int)))] (by kernel_rfl) rfl ?_
        have e43 : (IntKind.u8.wrap ((x / 65536 : Nat) : Int)) = ((x / 65536 : Nat) : Int) := in_u8 (by omega)
        refine GL.eq (M' := [(19, .int .i64 16), (21, .int .u8 ((x / 65536 : Nat) : Int))]) (by rw [e43]) ?_
        clear e43
        refine GL.sem (j := 4) (run_strIdx (P := Try.prog) (k := .u8) (t := 9) (s := tab8) (by kernel_rfl) (tab8_bl (x / 65536) (by omega)) _) [19, 22] [(19, .int .i64 16), (22, .int .u8 ((UInt8.ofNat (bl (x / 65536))).toNat : Int))] (by kernel_rfl) (by kernel_rfl) rfl ?_
        have e44 : ((UInt8.ofNat (bl (x / 65536))).toNat : Int) = ((bl (x / 65536) : Nat) : Int) := by rw [bl_w (by omega)]
        refine GL.eq (M' := [(19, .int .i64 16), (22, .int .u8 ((bl (x / 65536) : Nat) : Int))]) (by rw [e44]) ?_
        have e44b := bl_le (k := 8) (show x / 65536 < 2 ^ 8 by omega)
        refine GL.run (j := 7) 3 [2] [(2, .int .i64 (IntKind.i64.wrap (16 + (IntKind.i64.wrap ((bl (x / 65536) : Nat) : Int)))))] (by kernel_rfl) rfl ?_
        have e45 : (IntKind.i64.wrap ((bl (x / 65536) : Nat) : Int)) = ((bl (x / 65536) : Nat) : Int) := in_i64 (by omega)
        have e46 : (IntKind.i64.wrap (16 + ((bl (x / 65536) : Nat) : Int))) = ((16 + (bl (x / 65536)) : Nat) : Int) := by rw [in_i64 (by omega)]; omega
        refine GL.eq (M' := [(2, .int .i64 ((16 + (bl (x / 65536)) : Nat) : Int))]) (by rw [e45, e46]) ?_
        clear e45 e46
        refine GL.k rfl hK42 (fun _ _ h => h) ?_
        refine G.ret ?_
        intro F_ hF_ hM_
        refine hRet _ _ (bodyPost_1 rfl (RV.tmp rfl) ?_ F_ hF_ hM_)
        have e0 : (((16 + (bl (x / 65536)) : Nat) : Int) : Int) = ((bl x : Nat) : Int) := by
          rw [bl_shr (x := x) 16 (by omega)]
          try simp only [show (2 : Nat) ^ 16 = 65536 from rfl]
          first | done | omega
        rw [e0]
        exact ⟨rfl, H.sub (List.nil_sublist _)⟩
      · skip
        have hb40f := of_decide_eq_true hb40
        refine G.yes rfl ?_
        refine G.seqK fun K47 hK48 => ?_
        refine G.region ?_
        refine GL.run (j := 3) 3 [0, 2] [(0, .int .u64 (Int.fdiv ((x / 65536 : Nat) : Int) (2 ^ 8))), (2, .int .i64 16)] (by kernel_rfl) rfl ?_
        have e49 : (Int.fdiv ((x / 65536 : Nat) : Int) (2 ^ 8)) = (((x / 65536) / 256 : Nat) : Int) := n_shr _ 8
        refine GL.eq (M' := [(0, .int .u64 (((x / 65536) / 256 : Nat) : Int)), (2, .int .i64 16)]) (by rw [e49]) ?_
        clear e49
        refine GL.k rfl hK48 (fun _ _ h => h) ?_
        refine G.region ?_
        refine GL.run (j := 3) 3 [0, 2] [(0, .int .u64 (((x / 65536) / 256 : Nat) : Int)), (2, .int .i64 24)] (by kernel_rfl) rfl ?_
        refine GL.k rfl hK37 (fun _ _ h => h) ?_
        refine G.seqK fun K50 hK51 => ?_
        refine G.region ?_
        refine GL.run (j := 3) 3 [19, 21] [(19, .int .i64 24), (21, .int .u8 (IntKind.u8.wrap (((x / 65536) / 256 : Nat) : Int)))] (by kernel_rfl) rfl ?_
        have e52 : (IntKind.u8.wrap (((x / 65536) / 256 : Nat) : Int)) = (((x / 65536) / 256 : Nat) : Int) := in_u8 (by omega)
        refine GL.eq (M' := [(19, .int .i64 24), (21, .int .u8 (((x / 65536) / 256 : Nat) : Int))]) (by rw [e52]) ?_
        clear e52
        refine GL.sem (j := 4) (run_strIdx (P := Try.prog) (k := .u8) (t := 9) (s := tab8) (by kernel_rfl) (tab8_bl ((x / 65536) / 256) (by omega)) _) [19, 22] [(19, .int .i64 24), (22, .int .u8 ((UInt8.ofNat (bl ((x / 65536) / 256))).toNat : Int))] (by kernel_rfl) (by kernel_rfl) rfl ?_
        have e53 : ((UInt8.ofNat (bl ((x / 65536) / 256))).toNat : Int) = ((bl ((x / 65536) / 256) : Nat) : Int) := by rw [bl_w (by omega)]
        refine GL.eq (M' := [(19, .int .i64 24), (22, .int .u8 ((bl ((x / 65536) / 256) : Nat) : Int))]) (by rw [e53]) ?_
        have e53b := bl_le (k := 8) (show (x / 65536) / 256 < 2 ^ 8 by omega)
        refine GL.run (j := 7) 3 [2] [(2, .int .i64 (IntKind.i64.wrap (24 + (IntKind.i64.wrap ((bl ((x / 65536) / 256) : Nat) : Int)))))] (by kernel_rfl) rfl ?_
        have e54 : (IntKind.i64.wrap ((bl ((x / 65536) / 256) : Nat) : Int)) = ((bl ((x / 65536) / 256) : Nat) : Int) := in_i64 (by omega)
        have e55 : (IntKind.i64.wrap (24 + ((bl ((x / 65536) / 256) : Nat) : Int))) = ((24 + (bl ((x / 65536) / 256)) : Nat) : Int) := by rw [in_i64 (by omega)]; omega
        refine GL.eq (M' := [(2, .int .i64 ((24 + (bl ((x / 65536) / 256)) : Nat) : Int))]) (by rw [e54, e55]) ?_
        clear e54 e55
        refine GL.k rfl hK51 (fun _ _ h => h) ?_
        refine G.ret ?_
        intro F_ hF_ hM_
        refine hRet _ _ (bodyPost_1 rfl (RV.tmp rfl) ?_ F_ hF_ hM_)
        have e0 : (((24 + (bl ((x / 65536) / 256)) : Nat) : Int) : Int) = ((bl x : Nat) : Int) := by
          rw [bl_shr (x := x) 16 (by omega)]
          try simp only [show (2 : Nat) ^ 16 = 65536 from rfl]
          rw [bl_shr (x := x / 65536) 8 (by omega)]
          try simp only [show (2 : Nat) ^ 8 = 256 from rfl]
          first | done | omega
        rw [e0]
        exact ⟨rfl, H.sub (List.nil_sublist _)⟩
  · skip
    have hb7f := of_decide_eq_true hb7
    refine G.yes rfl ?_
    refine G.seqK fun K56 hK57 => ?_
    refine G.region ?_
    refine GL.run (j := 3) 3 [0] [(0, .int .u64 (Int.fdiv (x : Int) (2 ^ 32)))] (by kernel_rfl) rfl ?_
    have e58 : (Int.fdiv (x : Int) (2 ^ 32)) = ((x / 4294967296 : Nat) : Int) := n_shr _ 32
    refine GL.eq (M' := [(0, .int .u64 ((x / 4294967296 : Nat) : Int))]) (by rw [e58]) ?_
    clear e58
    refine GL.k rfl hK57 (fun _ _ h => h) ?_
    refine G.region ?_
    refine GL.run (j := 1) 1 [0, 2] [(0, .int .u64 ((x / 4294967296 : Nat) : Int)), (2, .int .i64 32)] (by kernel_rfl) rfl ?_
    refine GL.k rfl hK4 (fun _ _ h => h) ?_
    refine G.seqK fun K59 hK60 => ?_
    refine G.seqK fun K61 hK62 => ?_
    refine G.region ?_
    refine GL.run (j := 2) 2 [0, 2, 8] [(0, .int .u64 ((x / 4294967296 : Nat) : Int)), (2, .int .i64 32), (8, .bool (decide (65536 ≤ ((x / 4294967296 : Nat) : Int))))] (by kernel_rfl) rfl ?_
    refine GL.k rfl hK62 (fun _ _ h => h) ?_
    cases hb63 : (decide (65536 ≤ ((x / 4294967296 : Nat) : Int)))
    · skip
      have hb63f := of_decide_eq_false hb63
      refine G.no rfl ?_
      refine G.skipK hK60 (fun _ _ h => h) ?_
      refine G.seqK fun K64 hK65 => ?_
      refine G.seqK fun K66 hK67 => ?_
      refine G.region ?_
      refine GL.run (j := 2) 2 [0, 2, 14] [(0, .int .u64 ((x / 4294967296 : Nat) : Int)), (2, .int .i64 32), (14, .bool (decide (256 ≤ ((x / 4294967296 : Nat) : Int))))] (by kernel_rfl) rfl ?_
      refine GL.k rfl hK67 (fun _ _ h => h) ?_
      cases hb68 : (decide (256 ≤ ((x / 4294967296 : Nat) : Int)))
      · skip
        have hb68f := of_decide_eq_false hb68
        refine G.no rfl ?_
        refine G.skipK hK65 (fun _ _ h => h) ?_
        refine G.seqK fun K69 hK70 => ?_
        refine G.region ?_
        refine GL.run (j := 3) 3 [19, 21] [(19, .int .i64 32), (21, .int .u8 (IntKind.u8.wrap ((x / 4294967296 : Nat) : Int)))] (by kernel_rfl) rfl ?_
        have e71 : (IntKind.u8.wrap ((x / 4294967296 : Nat) : Int)) = ((x / 4294967296 : Nat) : Int) := in_u8 (by omega)
        refine GL.eq (M' := [(19, .int .i64 32), (21, .int .u8 ((x / 4294967296 : Nat) : Int))]) (by rw [e71]) ?_
        clear e71
        refine GL.sem (j := 4) (run_strIdx (P := Try.prog) (k := .u8) (t := 9) (s := tab8) (by kernel_rfl) (tab8_bl (x / 4294967296) (by omega)) _) [19, 22] [(19, .int .i64 32), (22, .int .u8 ((UInt8.ofNat (bl (x / 4294967296))).toNat : Int))] (by kernel_rfl) (by kernel_rfl) rfl ?_
        have e72 : ((UInt8.ofNat (bl (x / 4294967296))).toNat : Int) = ((bl (x / 4294967296) : Nat) : Int) := by rw [bl_w (by omega)]
        refine GL.eq (M' := [(19, .int .i64 32), (22, .int .u8 ((bl (x / 4294967296) : Nat) : Int))]) (by rw [e72]) ?_
        have e72b := bl_le (k := 8) (show x / 4294967296 < 2 ^ 8 by omega)
        refine GL.run (j := 7) 3 [2] [(2, .int .i64 (IntKind.i64.wrap (32 + (IntKind.i64.wrap ((bl (x / 4294967296) : Nat) : Int)))))] (by kernel_rfl) rfl ?_
        have e73 : (IntKind.i64.wrap ((bl (x / 4294967296) : Nat) : Int)) = ((bl (x / 4294967296) : Nat) : Int) := in_i64 (by omega)
        have e74 : (IntKind.i64.wrap (32 + ((bl (x / 4294967296) : Nat) : Int))) = ((32 + (bl (x / 4294967296)) : Nat) : Int) := by rw [in_i64 (by omega)]; omega
        refine GL.eq (M' := [(2, .int .i64 ((32 + (bl (x / 4294967296)) : Nat) : Int))]) (by rw [e73, e74]) ?_
        clear e73 e74
        refine GL.k rfl hK70 (fun _ _ h => h) ?_
        refine G.ret ?_
        intro F_ hF_ hM_
        refine hRet _ _ (bodyPost_1 rfl (RV.tmp rfl) ?_ F_ hF_ hM_)
        have e0 : (((32 + (bl (x / 4294967296)) : Nat) : Int) : Int) = ((bl x : Nat) : Int) := by
          rw [bl_shr (x := x) 32 (by omega)]
          try simp only [show (2 : Nat) ^ 32 = 4294967296 from rfl]
          first | done | omega
        rw [e0]
        exact ⟨rfl, H.sub (List.nil_sublist _)⟩
      · skip
        have hb68f := of_decide_eq_true hb68
        refine G.yes rfl ?_
        refine G.seqK fun K75 hK76 => ?_
        refine G.region ?_
        refine GL.run (j := 3) 3 [0, 2] [(0, .int .u64 (Int.fdiv ((x / 4294967296 : Nat) : Int) (2 ^ 8))), (2, .int .i64 32)] (by kernel_rfl) rfl ?_
        have e77 : (Int.fdiv ((x / 4294967296 : Nat) : Int) (2 ^ 8)) = (((x / 4294967296) / 256 : Nat) : Int) := n_shr _ 8
        refine GL.eq (M' := [(0, .int .u64 (((x / 4294967296) / 256 : Nat) : Int)), (2, .int .i64 32)]) (by rw [e77]) ?_
        clear e77
        refine GL.k rfl hK76 (fun _ _ h => h) ?_
        refine G.region ?_
        refine GL.run (j := 3) 3 [0, 2] [(0, .int .u64 (((x / 4294967296) / 256 : Nat) : Int)), (2, .int .i64 40)] (by kernel_rfl) rfl ?_
        refine GL.k rfl hK65 (fun _ _ h => h) ?_
        refine G.seqK fun K78 hK79 => ?_
        refine G.region ?_
        refine GL.run (j := 3) 3 [19, 21] [(19, .int .i64 40), (21, .int .u8 (IntKind.u8.wrap (((x / 4294967296) / 256 : Nat) : Int)))] (by kernel_rfl) rfl ?_
        have e80 : (IntKind.u8.wrap (((x / 4294967296) / 256 : Nat) : Int)) = (((x / 4294967296) / 256 : Nat) : Int) := in_u8 (by omega)
        refine GL.eq (M' := [(19, .int .i64 40), (21, .int .u8 (((x / 4294967296) / 256 : Nat) : Int))]) (by rw [e80]) ?_
        clear e80
        refine GL.sem (j := 4) (run_strIdx (P := Try.prog) (k := .u8) (t := 9) (s := tab8) (by kernel_rfl) (tab8_bl ((x / 4294967296) / 256) (by omega)) _) [19, 22] [(19, .int .i64 40), (22, .int .u8 ((UInt8.ofNat (bl ((x / 4294967296) / 256))).toNat : Int))] (by kernel_rfl) (by kernel_rfl) rfl ?_
        have e81 : ((UInt8.ofNat (bl ((x / 4294967296) / 256))).toNat : Int) = ((bl ((x / 4294967296) / 256) : Nat) : Int) := by rw [bl_w (by omega)]
        refine GL.eq (M' := [(19, .int .i64 40), (22, .int .u8 ((bl ((x / 4294967296) / 256) : Nat) : Int))]) (by rw [e81]) ?_
        have e81b := bl_le (k := 8) (show (x / 4294967296) / 256 < 2 ^ 8 by omega)
        refine GL.run (j := 7) 3 [2] [(2, .int .i64 (IntKind.i64.wrap (40 + (IntKind.i64.wrap ((bl ((x / 4294967296) / 256) : Nat) : Int)))))] (by kernel_rfl) rfl ?_
        have e82 : (IntKind.i64.wrap ((bl ((x / 4294967296) / 256) : Nat) : Int)) = ((bl ((x / 4294967296) / 256) : Nat) : Int) := in_i64 (by omega)
        have e83 : (IntKind.i64.wrap (40 + ((bl ((x / 4294967296) / 256) : Nat) : Int))) = ((40 + (bl ((x / 4294967296) / 256)) : Nat) : Int) := by rw [in_i64 (by omega)]; omega
        refine GL.eq (M' := [(2, .int .i64 ((40 + (bl ((x / 4294967296) / 256)) : Nat) : Int))]) (by rw [e82, e83]) ?_
        clear e82 e83
        refine GL.k rfl hK79 (fun _ _ h => h) ?_
        refine G.ret ?_
        intro F_ hF_ hM_
        refine hRet _ _ (bodyPost_1 rfl (RV.tmp rfl) ?_ F_ hF_ hM_)
        have e0 : (((40 + (bl ((x / 4294967296) / 256)) : Nat) : Int) : Int) = ((bl x : Nat) : Int) := by
          rw [bl_shr (x := x) 32 (by omega)]
          try simp only [show (2 : Nat) ^ 32 = 4294967296 from rfl]
          rw [bl_shr (x := x / 4294967296) 8 (by omega)]
          try simp only [show (2 : Nat) ^ 8 = 256 from rfl]
          first | done | omega
        rw [e0]
        exact ⟨rfl, H.sub (List.nil_sublist _)⟩
    · skip
      have hb63f := of_decide_eq_true hb63
      refine G.yes rfl ?_
      refine G.seqK fun K84 hK85 => ?_
      refine G.region ?_
      refine GL.run (j := 3) 3 [0, 2] [(0, .int .u64 (Int.fdiv ((x / 4294967296 : Nat) : Int) (2 ^ 16))), (2, .int .i64 32)] (by kernel_rfl) rfl ?_
      have e86 : (Int.fdiv ((x / 4294967296 : Nat) : Int) (2 ^ 16)) = (((x / 4294967296) / 65536 : Nat) : Int) := n_shr _ 16
      refine GL.eq (M' := [(0, .int .u64 (((x / 4294967296) / 65536 : Nat) : Int)), (2, .int .i64 32)]) (by rw [e86]) ?_
      clear e86
      refine GL.k rfl hK85 (fun _ _ h => h) ?_
      refine G.region ?_
      refine GL.run (j := 3) 3 [0, 2] [(0, .int .u64 (((x / 4294967296) / 65536 : Nat) : Int)), (2, .int .i64 48)] (by kernel_rfl) rfl ?_
      refine GL.k rfl hK60 (fun _ _ h => h) ?_
      refine G.seqK fun K87 hK88 => ?_
      refine G.seqK fun K89 hK90 => ?_
      refine G.region ?_
      refine GL.run (j := 2) 2 [0, 2, 14] [(0, .int .u64 (((x / 4294967296) / 65536 : Nat) : Int)), (2, .int .i64 48), (14, .bool (decide (256 ≤ (((x / 4294967296) / 65536 : Nat) : Int))))] (by kernel_rfl) rfl ?_
      refine GL.k rfl hK90 (fun _ _ h => h) ?_
      cases hb91 : (decide (256 ≤ (((x / 4294967296) / 65536 : Nat) : Int)))
      · skip
        have hb91f := of_decide_eq_false hb91
        refine G.no rfl ?_
        refine G.skipK hK88 (fun _ _ h => h) ?_
        refine G.seqK fun K92 hK93 => ?_
        refine G.region ?_
        refine GL.run (j := 3) 3 [19, 21] [(19, .int .i64 48), (21, .int .u8 (IntKind.u8.wrap (((x / 4294967296) / 65536 : Nat) : Int)))] (by kernel_rfl) rfl ?_
        have e94 : (IntKind.u8.wrap (((x / 4294967296) / 65536 : Nat) : Int)) = (((x / 4294967296) / 65536 : Nat) : Int) := in_u8 (by omega)
        refine GL.eq (M' := [(19, .int .i64 48), (21, .int .u8 (((x / 4294967296) / 65536 : Nat) : Int))]) (by rw [e94]) ?_
        clear e94
        refine GL.sem (j := 4) (run_strIdx (P := Try.prog) (k := .u8) (t := 9) (s := tab8) (by kernel_rfl) (tab8_bl ((x / 4294967296) / 65536) (by omega)) _) [19, 22] [(19, .int .i64 48), (22, .int .u8 ((UInt8.ofNat (bl ((x / 4294967296) / 65536))).toNat : Int))] (by kernel_rfl) (by kernel_rfl) rfl ?_
        have e95 : ((UInt8.ofNat (bl ((x / 4294967296) / 65536))).toNat : Int) = ((bl ((x / 4294967296) / 65536) : Nat) : Int) := by rw [bl_w (by omega)]
        refine GL.eq (M' := [(19, .int .i64 48), (22, .int .u8 ((bl ((x / 4294967296) / 65536) : Nat) : Int))]) (by rw [e95]) ?_
        have e95b := bl_le (k := 8) (show (x / 4294967296) / 65536 < 2 ^ 8 by omega)
        refine GL.run (j := 7) 3 [2] [(2, .int .i64 (IntKind.i64.wrap (48 + (IntKind.i64.wrap ((bl ((x / 4294967296) / 65536) : Nat) : Int)))))] (by kernel_rfl) rfl ?_
        have e96 : (IntKind.i64.wrap ((bl ((x / 4294967296) / 65536) : Nat) : Int)) = ((bl ((x / 4294967296) / 65536) : Nat) : Int) := in_i64 (by omega)
        have e97 : (IntKind.i64.wrap (48 + ((bl ((x / 4294967296) / 65536) : Nat) : Int))) = ((48 + (bl ((x / 4294967296) / 65536)) : Nat) : Int) := by rw [in_i64 (by omega)]; omega
        refine GL.eq (M' := [(2, .int .i64 ((48 + (bl ((x / 4294967296) / 65536)) : Nat) : Int))]) (by rw [e96, e97]) ?_
        clear e96 e97
        refine GL.k rfl hK93 (fun _ _ h => h) ?_
        refine G.ret ?_
        intro F_ hF_ hM_
        refine hRet _ _ (bodyPost_1 rfl (RV.tmp rfl) ?_ F_ hF_ hM_)
        have e0 : (((48 + (bl ((x / 4294967296) / 65536)) : Nat) : Int) : Int) = ((bl x : Nat) : Int) := by
          rw [bl_shr (x := x) 32 (by omega)]
          try simp only [show (2 : Nat) ^ 32 = 4294967296 from rfl]
          rw [bl_shr (x := x / 4294967296) 16 (by omega)]
          try simp only [show (2 : Nat) ^ 16 = 65536 from rfl]
          first | done | omega
        rw [e0]
        exact ⟨rfl, H.sub (List.nil_sublist _)⟩
      · skip
        have hb91f := of_decide_eq_true hb91
        refine G.yes rfl ?_
        refine G.seqK fun K98 hK99 => ?_
        refine G.region ?_
        refine GL.run (j := 3) 3 [0, 2] [(0, .int .u64 (Int.fdiv (((x / 4294967296) / 65536 : Nat) : Int) (2 ^ 8))), (2, .int .i64 48)] (by kernel_rfl) rfl ?_
        have e100 : (Int.fdiv (((x / 4294967296) / 65536 : Nat) : Int) (2 ^ 8)) = ((((x / 4294967296) / 65536) / 256 : Nat) : Int) := n_shr _ 8
        refine GL.eq (M' := [(0, .int .u64 ((((x / 4294967296) / 65536) / 256 : Nat) : Int)), (2, .int .i64 48)]) (by rw [e100]) ?_
        clear e100
        refine GL.k rfl hK99 (fun _ _ h => h) ?_
        refine G.region ?_
        refine GL.run (j := 3) 3 [0, 2] [(0, .int .u64 ((((x / 4294967296) / 65536) / 256 : Nat) : Int)), (2, .int .i64 56)] (by kernel_rfl) rfl ?_
        refine GL.k rfl hK88 (fun _ _ h => h) ?_
        refine G.seqK fun K101 hK102 => ?_
        refine G.region ?_
        refine GL.run (j := 3) 3 [19, 21] [(19, .int .i64 56), (21, .int .u8 (IntKind.u8.wrap ((((x / 4294967296) / 65536) / 256 : Nat) : Int)))] (by kernel_rfl) rfl ?_
        have e103 : (IntKind.u8.wrap ((((x / 4294967296) / 65536) / 256 : Nat) : Int)) = ((((x / 4294967296) / 65536) / 256 : Nat) : Int) := in_u8 (by omega)
        refine GL.eq (M' := [(19, .int .i64 56), (21, .int .u8 ((((x / 4294967296) / 65536) / 256 : Nat) : Int))]) (by rw [e103]) ?_
        clear e103
        refine GL.sem (j := 4) (run_strIdx (P := Try.prog) (k := .u8) (t := 9) (s := tab8) (by kernel_rfl) (tab8_bl (((x / 4294967296) / 65536) / 256) (by omega)) _) [19, 22] [(19, .int .i64 56), (22, .int .u8 ((UInt8.ofNat (bl (((x / 4294967296) / 65536) / 256))).toNat : Int))] (by kernel_rfl) (by kernel_rfl) rfl ?_
        have e104 : ((UInt8.ofNat (bl (((x / 4294967296) / 65536) / 256))).toNat : Int) = ((bl (((x / 4294967296) / 65536) / 256) : Nat) : Int) := by rw [bl_w (by omega)]
        refine GL.eq (M' := [(19, .int .i64 56), (22, .int .u8 ((bl (((x / 4294967296) / 65536) / 256) : Nat) : Int))]) (by rw [e104]) ?_
        have e104b := bl_le (k := 8) (show ((x / 4294967296) / 65536) / 256 < 2 ^ 8 by omega)
        refine GL.run (j := 7) 3 [2] [(2, .int .i64 (IntKind.i64.wrap (56 + (IntKind.i64.wrap ((bl (((x / 4294967296) / 65536) / 256) : Nat) : Int)))))] (by kernel_rfl) rfl ?_
        have e105 : (IntKind.i64.wrap ((bl (((x / 4294967296) / 65536) / 256) : Nat) : Int)) = ((bl (((x / 4294967296) / 65536) / 256) : Nat) : Int) := in_i64 (by omega)
        have e106 : (IntKind.i64.wrap (56 + ((bl (((x / 4294967296) / 65536) / 256) : Nat) : Int))) = ((56 + (bl (((x / 4294967296) / 65536) / 256)) : Nat) : Int) := by rw [in_i64 (by omega)]; omega
        refine GL.eq (M' := [(2, .int .i64 ((56 + (bl (((x / 4294967296) / 65536) / 256)) : Nat) : Int))]) (by rw [e105, e106]) ?_
        clear e105 e106
        refine GL.k rfl hK102 (fun _ _ h => h) ?_
        refine G.ret ?_
        intro F_ hF_ hM_
        refine hRet _ _ (bodyPost_1 rfl (RV.tmp rfl) ?_ F_ hF_ hM_)
        have e0 : (((56 + (bl (((x / 4294967296) / 65536) / 256)) : Nat) : Int) : Int) = ((bl x : Nat) : Int) := by
          rw [bl_shr (x := x) 32 (by omega)]
          try simp only [show (2 : Nat) ^ 32 = 4294967296 from rfl]
          rw [bl_shr (x := x / 4294967296) 16 (by omega)]
          try simp only [show (2 : Nat) ^ 16 = 65536 from rfl]
          rw [bl_shr (x := (x / 4294967296) / 65536) 8 (by omega)]
          try simp only [show (2 : Nat) ^ 8 = 256 from rfl]
          first | done | omega
        rw [e0]
        exact ⟨rfl, H.sub (List.nil_sublist _)⟩
theorem Bits_calls (x : Nat) (hx : x < K4) (w : World) : Calls Try.prog 27 #[wv x] w fun e w' => e = .returned (.int .i64 ((bl x : Nat) : Int)) ∧ Hp w [] [] w' := by
  refine calls_G (args := [wv x]) Try.func27 rfl Try.ntmps27 rfl ?_
  intro Q0 hRet hNor hPan
  have H := Hp.start w
  have H : Hp w [] [] w := H
  refine G.seqK fun K1 hK2 => ?_
  refine G.region ?_
  obtain ⟨p3, w4, r5, H6⟩ := H.box (P := Try.prog) 55 [.int .u64 (wd x 0 : Int), .int .u64 (wd x 1 : Int), .int .u64 (wd x 2 : Int), .int .u64 (wd x 3 : Int)] (wv x) rfl
  have H6 : Hp w [] [.blk p3 [.int .u64 (wd x 0 : Int), .int .u64 (wd x 1 : Int), .int .u64 (wd x 2 : Int), .int .u64 (wd x 3 : Int)] 55] w4 := H6
  refine GL.sem (j := 1) (r5) [1] [(1, pt p3 0)] (by kernel_rfl) (by kernel_rfl) rfl ?_
  refine GL.run (j := 2) 1 [1] [(1, pt p3 0)] (by kernel_rfl) rfl ?_
  refine GL.k rfl hK2 (fun _ _ h => h) ?_
  refine G.seqK fun K7 hK8 => ?_
  refine G.seqK fun K9 hK10 => ?_
  refine G.region ?_
  refine GL.run (j := 1) 1 [1, 3] [(1, pt p3 0), (3, .int .i64 3)] (by kernel_rfl) rfl ?_
  refine GL.k rfl hK10 (fun _ _ h => h) ?_
  refine G.block ?_
  refine G.unroll 5 ?_
  refine G.seqK fun K11 hK12 => ?_
  refine G.seqK fun K13 hK14 => ?_
  refine G.region ?_
  refine GL.run (j := 2) 2 [1, 3, 5] [(1, pt p3 0), (3, .int .i64 3), (5, .bool true)] (by kernel_rfl) rfl ?_
  refine GL.k rfl hK14 (fun _ _ h => h) ?_
  refine G.yes rfl ?_
  refine G.skipK hK12 (fun _ _ h => h) ?_
  refine G.seqK fun K15 hK16 => ?_
  refine G.block ?_
  refine G.seqK fun K17 hK18 => ?_
  refine G.region ?_
  refine GL.run (j := 2) 2 [1, 3, 9] [(1, pt p3 0), (3, .int .i64 3), (9, pt p3 3)] (by kernel_rfl) rfl ?_
  refine GL.sem (j := 3) (H6.ld (o := 3) (ty := 22) (v := .int .u64 (wd x 3 : Int)) 0 rfl (by kernel_rfl) rfl) [1, 3, 10] [(1, pt p3 0), (3, .int .i64 3), (10, .int .u64 (wd x 3 : Int))] (by kernel_rfl) (by kernel_rfl) rfl ?_
  refine GL.run (j := 4) 1 [1, 3, 11] [(1, pt p3 0), (3, .int .i64 3), (11, .bool (decide (0 < (wd x 3 : Int))))] (by kernel_rfl) rfl ?_
  refine GL.k rfl hK18 (fun _ _ h => h) ?_
  cases hb19 : (decide (0 < (wd x 3 : Int)))
  · skip
    have hb19f := of_decide_eq_false hb19
    refine G.no rfl ?_
    refine G.skipK hK16 (fun _ _ h => h) ?_
    refine G.region ?_
    refine GL.run (j := 3) 3 [1, 3] [(1, pt p3 0), (3, .int .i64 2)] (by kernel_rfl) rfl ?_
    refine GL.round rfl ?_
    refine G.seqK fun K20 hK21 => ?_
    refine G.seqK fun K22 hK23 => ?_
    refine G.region ?_
    refine GL.run (j := 2) 2 [1, 3, 5] [(1, pt p3 0), (3, .int .i64 2), (5, .bool true)] (by kernel_rfl) rfl ?_
    refine GL.k rfl hK23 (fun _ _ h => h) ?_
    refine G.yes rfl ?_
    refine G.skipK hK21 (fun _ _ h => h) ?_
    refine G.seqK fun K24 hK25 => ?_
    refine G.block ?_
    refine G.seqK fun K26 hK27 => ?_
    refine G.region ?_
    refine GL.run (j := 2) 2 [1, 3, 9] [(1, pt p3 0), (3, .int .i64 2), (9, pt p3 2)] (by kernel_rfl) rfl ?_
    refine GL.sem (j := 3) (H6.ld (o := 2) (ty := 22) (v := .int .u64 (wd x 2 : Int)) 0 rfl (by kernel_rfl) rfl) [1, 3, 10] [(1, pt p3 0), (3, .int .i64 2), (10, .int .u64 (wd x 2 : Int))] (by kernel_rfl) (by kernel_rfl) rfl ?_
    refine GL.run (j := 4) 1 [1, 3, 11] [(1, pt p3 0), (3, .int .i64 2), (11, .bool (decide (0 < (wd x 2 : Int))))] (by kernel_rfl) rfl ?_
    refine GL.k rfl hK27 (fun _ _ h => h) ?_
    cases hb28 : (decide (0 < (wd x 2 : Int)))
    · skip
      have hb28f := of_decide_eq_false hb28
      refine G.no rfl ?_
      refine G.skipK hK25 (fun _ _ h => h) ?_
      refine G.region ?_
      refine GL.run (j := 3) 3 [1, 3] [(1, pt p3 0), (3, .int .i64 1)] (by kernel_rfl) rfl ?_
      refine GL.round rfl ?_
      refine G.seqK fun K29 hK30 => ?_
      refine G.seqK fun K31 hK32 => ?_
      refine G.region ?_
      refine GL.run (j := 2) 2 [1, 3, 5] [(1, pt p3 0), (3, .int .i64 1), (5, .bool true)] (by kernel_rfl) rfl ?_
      refine GL.k rfl hK32 (fun _ _ h => h) ?_
      refine G.yes rfl ?_
      refine G.skipK hK30 (fun _ _ h => h) ?_
      refine G.seqK fun K33 hK34 => ?_
      refine G.block ?_
      refine G.seqK fun K35 hK36 => ?_
      refine G.region ?_
      refine GL.run (j := 2) 2 [1, 3, 9] [(1, pt p3 0), (3, .int .i64 1), (9, pt p3 1)] (by kernel_rfl) rfl ?_
      refine GL.sem (j := 3) (H6.ld (o := 1) (ty := 22) (v := .int .u64 (wd x 1 : Int)) 0 rfl (by kernel_rfl) rfl) [1, 3, 10] [(1, pt p3 0), (3, .int .i64 1), (10, .int .u64 (wd x 1 : Int))] (by kernel_rfl) (by kernel_rfl) rfl ?_
      refine GL.run (j := 4) 1 [1, 3, 11] [(1, pt p3 0), (3, .int .i64 1), (11, .bool (decide (0 < (wd x 1 : Int))))] (by kernel_rfl) rfl ?_
      refine GL.k rfl hK36 (fun _ _ h => h) ?_
      cases hb37 : (decide (0 < (wd x 1 : Int)))
      · skip
        have hb37f := of_decide_eq_false hb37
        refine G.no rfl ?_
        refine G.skipK hK34 (fun _ _ h => h) ?_
        refine G.region ?_
        refine GL.run (j := 3) 3 [1, 3] [(1, pt p3 0), (3, .int .i64 0)] (by kernel_rfl) rfl ?_
        refine GL.round rfl ?_
        refine G.seqK fun K38 hK39 => ?_
        refine G.seqK fun K40 hK41 => ?_
        refine G.region ?_
        refine GL.run (j := 2) 2 [1, 3, 5] [(1, pt p3 0), (3, .int .i64 0), (5, .bool true)] (by kernel_rfl) rfl ?_
        refine GL.k rfl hK41 (fun _ _ h => h) ?_
        refine G.yes rfl ?_
        refine G.skipK hK39 (fun _ _ h => h) ?_
        refine G.seqK fun K42 hK43 => ?_
        refine G.block ?_
        refine G.seqK fun K44 hK45 => ?_
        refine G.region ?_
        refine GL.run (j := 2) 2 [1, 3, 9] [(1, pt p3 0), (3, .int .i64 0), (9, pt p3 0)] (by kernel_rfl) rfl ?_
        refine GL.sem (j := 3) (H6.ld (o := 0) (ty := 22) (v := .int .u64 (wd x 0 : Int)) 0 rfl (by kernel_rfl) rfl) [1, 3, 10] [(1, pt p3 0), (3, .int .i64 0), (10, .int .u64 (wd x 0 : Int))] (by kernel_rfl) (by kernel_rfl) rfl ?_
        refine GL.run (j := 4) 1 [1, 3, 11] [(1, pt p3 0), (3, .int .i64 0), (11, .bool (decide (0 < (wd x 0 : Int))))] (by kernel_rfl) rfl ?_
        refine GL.k rfl hK45 (fun _ _ h => h) ?_
        cases hb46 : (decide (0 < (wd x 0 : Int)))
        · skip
          have hb46f := of_decide_eq_false hb46
          refine G.no rfl ?_
          refine G.skipK hK43 (fun _ _ h => h) ?_
          refine G.region ?_
          refine GL.run (j := 3) 3 [1, 3] [(1, pt p3 0), (3, .int .i64 (-1))] (by kernel_rfl) rfl ?_
          refine GL.round rfl ?_
          refine G.seqK fun K47 hK48 => ?_
          refine G.seqK fun K49 hK50 => ?_
          refine G.region ?_
          refine GL.run (j := 2) 2 [1, 3, 5] [(1, pt p3 0), (3, .int .i64 (-1)), (5, .bool false)] (by kernel_rfl) rfl ?_
          refine GL.k rfl hK50 (fun _ _ h => h) ?_
          refine G.no rfl ?_
          refine G.exitK hK8 (fun _ _ h => h) ?_
          refine G.seqK fun K51 hK52 => ?_
          refine G.region ?_
          refine GL.run (j := 1) 1 [2] [(2, .int .i64 0)] (by kernel_rfl) rfl ?_
          refine GL.k rfl hK52 (fun _ _ h => h) ?_
          refine G.ret ?_
          intro F_ hF_ hM_
          refine hRet _ _ (bodyPost_1 rfl (RV.tmp rfl) ?_ F_ hF_ hM_)
          have e0 : (0 : Int) = ((bl x : Nat) : Int) := by
            rw [wd_top0 (by omega : wd x 3 = 0) (by omega : wd x 2 = 0) (by omega : wd x 1 = 0) hx, show wd x 0 = 0 from by omega]; rfl
          rw [e0]
          exact ⟨rfl, H6.sub (List.nil_sublist _)⟩
        · skip
          have hb46f := of_decide_eq_true hb46
          refine G.yes rfl ?_
          refine G.seqK fun K53 hK54 => ?_
          refine G.region ?_
          refine GL.run (j := 4) 4 [13, 15] [(13, .int .i64 0), (15, pt p3 0)] (by kernel_rfl) rfl ?_
          refine GL.sem (j := 5) (H6.ld (o := 0) (ty := 22) (v := .int .u64 (wd x 0 : Int)) 0 rfl (by kernel_rfl) rfl) [13, 16] [(13, .int .i64 0), (16, .int .u64 (wd x 0 : Int))] (by kernel_rfl) (by kernel_rfl) rfl ?_
          have hbl := bl_le (k := 64) (wd_lt x 0)
          refine GL.call (j := 6) (Len64_calls (wd x 0) (wd_lt _ _) w4) (by kernel_rfl) rfl (fun e_ w55 hR => ?_)
          obtain ⟨rfl, H57⟩ := hR
          have H56 : Hp w [] [.blk p3 [.int .u64 (wd x 0 : Int), .int .u64 (wd x 1 : Int), .int .u64 (wd x 2 : Int), .int .u64 (wd x 3 : Int)] 55] w55 := H6.callNil H57
          refine ⟨_, rfl, [13, 17], [(13, .int .i64 0), (17, .int .i64 ((bl (wd x 0) : Nat) : Int))], by kernel_rfl, ?_⟩
          refine GL.run (j := 8) 2 [2] [(2, .int .i64 (IntKind.i64.wrap (0 + ((bl (wd x 0) : Nat) : Int))))] (by kernel_rfl) rfl ?_
          have e58 : (IntKind.i64.wrap (0 + ((bl (wd x 0) : Nat) : Int))) = ((0 + (bl (wd x 0)) : Nat) : Int) := by rw [in_i64 (by omega)]; omega
          refine GL.eq (M' := [(2, .int .i64 ((0 + (bl (wd x 0)) : Nat) : Int))]) (by rw [e58]) ?_
          clear e58
          refine GL.k rfl hK54 (fun _ _ h => h) ?_
          refine G.ret ?_
          intro F_ hF_ hM_
          refine hRet _ _ (bodyPost_1 rfl (RV.tmp rfl) ?_ F_ hF_ hM_)
          have e0 : (((0 + (bl (wd x 0)) : Nat) : Int) : Int) = ((bl x : Nat) : Int) := by
            rw [← wd_top0 (by omega : wd x 3 = 0) (by omega : wd x 2 = 0) (by omega : wd x 1 = 0) hx] <;> omega
          rw [e0]
          exact ⟨rfl, H56.sub (List.nil_sublist _)⟩
      · skip
        have hb37f := of_decide_eq_true hb37
        refine G.yes rfl ?_
        refine G.seqK fun K59 hK60 => ?_
        refine G.region ?_
        refine GL.run (j := 4) 4 [13, 15] [(13, .int .i64 64), (15, pt p3 1)] (by kernel_rfl) rfl ?_
        refine GL.sem (j := 5) (H6.ld (o := 1) (ty := 22) (v := .int .u64 (wd x 1 : Int)) 0 rfl (by kernel_rfl) rfl) [13, 16] [(13, .int .i64 64), (16, .int .u64 (wd x 1 : Int))] (by kernel_rfl) (by kernel_rfl) rfl ?_
        have hbl := bl_le (k := 64) (wd_lt x 1)
        refine GL.call (j := 6) (Len64_calls (wd x 1) (wd_lt _ _) w4) (by kernel_rfl) rfl (fun e_ w61 hR => ?_)
        obtain ⟨rfl, H63⟩ := hR
        have H62 : Hp w [] [.blk p3 [.int .u64 (wd x 0 : Int), .int .u64 (wd x 1 : Int), .int .u64 (wd x 2 : Int), .int .u64 (wd x 3 : Int)] 55] w61 := H6.callNil H63
        refine ⟨_, rfl, [13, 17], [(13, .int .i64 64), (17, .int .i64 ((bl (wd x 1) : Nat) : Int))], by kernel_rfl, ?_⟩
        refine GL.run (j := 8) 2 [2] [(2, .int .i64 (IntKind.i64.wrap (64 + ((bl (wd x 1) : Nat) : Int))))] (by kernel_rfl) rfl ?_
        have e64 : (IntKind.i64.wrap (64 + ((bl (wd x 1) : Nat) : Int))) = ((64 + (bl (wd x 1)) : Nat) : Int) := by rw [in_i64 (by omega)]; omega
        refine GL.eq (M' := [(2, .int .i64 ((64 + (bl (wd x 1)) : Nat) : Int))]) (by rw [e64]) ?_
        clear e64
        refine GL.k rfl hK60 (fun _ _ h => h) ?_
        refine G.ret ?_
        intro F_ hF_ hM_
        refine hRet _ _ (bodyPost_1 rfl (RV.tmp rfl) ?_ F_ hF_ hM_)
        have e0 : (((64 + (bl (wd x 1)) : Nat) : Int) : Int) = ((bl x : Nat) : Int) := by
          rw [wd_top1 (by omega : wd x 3 = 0) (by omega : wd x 2 = 0) (by omega) hx] <;> omega
        rw [e0]
        exact ⟨rfl, H62.sub (List.nil_sublist _)⟩
    · skip
      have hb28f := of_decide_eq_true hb28
      refine G.yes rfl ?_
      refine G.seqK fun K65 hK66 => ?_
      refine G.region ?_
      refine GL.run (j := 4) 4 [13, 15] [(13, .int .i64 128), (15, pt p3 2)] (by kernel_rfl) rfl ?_
      refine GL.sem (j := 5) (H6.ld (o := 2) (ty := 22) (v := .int .u64 (wd x 2 : Int)) 0 rfl (by kernel_rfl) rfl) [13, 16] [(13, .int .i64 128), (16, .int .u64 (wd x 2 : Int))] (by kernel_rfl) (by kernel_rfl) rfl ?_
      have hbl := bl_le (k := 64) (wd_lt x 2)
      refine GL.call (j := 6) (Len64_calls (wd x 2) (wd_lt _ _) w4) (by kernel_rfl) rfl (fun e_ w67 hR => ?_)
      obtain ⟨rfl, H69⟩ := hR
      have H68 : Hp w [] [.blk p3 [.int .u64 (wd x 0 : Int), .int .u64 (wd x 1 : Int), .int .u64 (wd x 2 : Int), .int .u64 (wd x 3 : Int)] 55] w67 := H6.callNil H69
      refine ⟨_, rfl, [13, 17], [(13, .int .i64 128), (17, .int .i64 ((bl (wd x 2) : Nat) : Int))], by kernel_rfl, ?_⟩
      refine GL.run (j := 8) 2 [2] [(2, .int .i64 (IntKind.i64.wrap (128 + ((bl (wd x 2) : Nat) : Int))))] (by kernel_rfl) rfl ?_
      have e70 : (IntKind.i64.wrap (128 + ((bl (wd x 2) : Nat) : Int))) = ((128 + (bl (wd x 2)) : Nat) : Int) := by rw [in_i64 (by omega)]; omega
      refine GL.eq (M' := [(2, .int .i64 ((128 + (bl (wd x 2)) : Nat) : Int))]) (by rw [e70]) ?_
      clear e70
      refine GL.k rfl hK66 (fun _ _ h => h) ?_
      refine G.ret ?_
      intro F_ hF_ hM_
      refine hRet _ _ (bodyPost_1 rfl (RV.tmp rfl) ?_ F_ hF_ hM_)
      have e0 : (((128 + (bl (wd x 2)) : Nat) : Int) : Int) = ((bl x : Nat) : Int) := by
        rw [wd_top2 (by omega : wd x 3 = 0) (by omega) hx] <;> omega
      rw [e0]
      exact ⟨rfl, H68.sub (List.nil_sublist _)⟩
  · skip
    have hb19f := of_decide_eq_true hb19
    refine G.yes rfl ?_
    refine G.seqK fun K71 hK72 => ?_
    refine G.region ?_
    refine GL.run (j := 4) 4 [13, 15] [(13, .int .i64 192), (15, pt p3 3)] (by kernel_rfl) rfl ?_
    refine GL.sem (j := 5) (H6.ld (o := 3) (ty := 22) (v := .int .u64 (wd x 3 : Int)) 0 rfl (by kernel_rfl) rfl) [13, 16] [(13, .int .i64 192), (16, .int .u64 (wd x 3 : Int))] (by kernel_rfl) (by kernel_rfl) rfl ?_
    have hbl := bl_le (k := 64) (wd_lt x 3)
    refine GL.call (j := 6) (Len64_calls (wd x 3) (wd_lt _ _) w4) (by kernel_rfl) rfl (fun e_ w73 hR => ?_)
    obtain ⟨rfl, H75⟩ := hR
    have H74 : Hp w [] [.blk p3 [.int .u64 (wd x 0 : Int), .int .u64 (wd x 1 : Int), .int .u64 (wd x 2 : Int), .int .u64 (wd x 3 : Int)] 55] w73 := H6.callNil H75
    refine ⟨_, rfl, [13, 17], [(13, .int .i64 192), (17, .int .i64 ((bl (wd x 3) : Nat) : Int))], by kernel_rfl, ?_⟩
    refine GL.run (j := 8) 2 [2] [(2, .int .i64 (IntKind.i64.wrap (192 + ((bl (wd x 3) : Nat) : Int))))] (by kernel_rfl) rfl ?_
    have e76 : (IntKind.i64.wrap (192 + ((bl (wd x 3) : Nat) : Int))) = ((192 + (bl (wd x 3)) : Nat) : Int) := by rw [in_i64 (by omega)]; omega
    refine GL.eq (M' := [(2, .int .i64 ((192 + (bl (wd x 3)) : Nat) : Int))]) (by rw [e76]) ?_
    clear e76
    refine GL.k rfl hK72 (fun _ _ h => h) ?_
    refine G.ret ?_
    intro F_ hF_ hM_
    refine hRet _ _ (bodyPost_1 rfl (RV.tmp rfl) ?_ F_ hF_ hM_)
    have e0 : (((192 + (bl (wd x 3)) : Nat) : Int) : Int) = ((bl x : Nat) : Int) := by
      rw [wd_top3  (by omega) hx] <;> omega
    rw [e0]
    exact ⟨rfl, H74.sub (List.nil_sublist _)⟩
theorem Uint_calls (x : Nat) (hx : x < K4) (w : World) : Calls Try.prog 22 #[wv x] w fun e w' => e = .returned (.tuple #[.int .u64 ((oneW x : Nat) : Int), .bool (decide (x < K))]) ∧ Hp w [] [] w' := by
  refine calls_G (args := [wv x]) Try.func22 rfl Try.ntmps22 rfl ?_
  intro Q0 hRet hNor hPan
  have H := Hp.start w
  have H : Hp w [] [] w := H
  refine G.seqK fun K1 hK2 => ?_
  refine G.region ?_
  obtain ⟨p3, w4, r5, H6⟩ := H.box (P := Try.prog) 55 [.int .u64 (wd x 0 : Int), .int .u64 (wd x 1 : Int), .int .u64 (wd x 2 : Int), .int .u64 (wd x 3 : Int)] (wv x) rfl
  have H6 : Hp w [] [.blk p3 [.int .u64 (wd x 0 : Int), .int .u64 (wd x 1 : Int), .int .u64 (wd x 2 : Int), .int .u64 (wd x 3 : Int)] 55] w4 := H6
  refine GL.sem (j := 1) (r5) [1] [(1, pt p3 0)] (by kernel_rfl) (by kernel_rfl) rfl ?_
  refine GL.run (j := 3) 2 [1] [(1, pt p3 0)] (by kernel_rfl) rfl ?_
  refine GL.k rfl hK2 (fun _ _ h => h) ?_
  refine G.seqK fun K7 hK8 => ?_
  refine G.seqK fun K9 hK10 => ?_
  refine G.region ?_
  refine GL.sem (j := 1) (H6.ldA (o := 0) (ty := 55) (m := 4) (sub := [.int .u64 (wd x 0 : Int), .int .u64 (wd x 1 : Int), .int .u64 (wd x 2 : Int), .int .u64 (wd x 3 : Int)]) 0 rfl (by kernel_rfl) rfl rfl) [1, 4] [(1, pt p3 0), (4, wv x)] (by kernel_rfl) (by kernel_rfl) rfl ?_
  refine GL.call (j := 2) (Bits_calls x hx w4) (by kernel_rfl) rfl (fun e_ w11 hR => ?_)
  obtain ⟨rfl, H13⟩ := hR
  have H12 : Hp w [] [.blk p3 [.int .u64 (wd x 0 : Int), .int .u64 (wd x 1 : Int), .int .u64 (wd x 2 : Int), .int .u64 (wd x 3 : Int)] 55] w11 := H6.callNil H13
  refine ⟨_, rfl, [1, 5], [(1, pt p3 0), (5, .int .i64 (((bl x) : Nat) : Int))], by kernel_rfl, ?_⟩
  refine GL.run (j := 3) 1 [1, 6] [(1, pt p3 0), (6, .bool (decide (64 < (((bl x) : Nat) : Int))))] (by kernel_rfl) rfl ?_
  refine GL.k rfl hK10 (fun _ _ h => h) ?_
  cases hb14 : (decide (64 < (((bl x) : Nat) : Int)))
  · skip
    have hb14f := of_decide_eq_false hb14
    refine G.no rfl ?_
    refine G.skipK hK8 (fun _ _ h => h) ?_
    refine G.seqK fun K15 hK16 => ?_
    refine G.region ?_
    refine GL.run (j := 1) 1 [7] [(7, pt p3 0)] (by kernel_rfl) rfl ?_
    refine GL.sem (j := 2) (H12.ld (o := 0) (ty := 22) (v := .int .u64 (wd x 0 : Int)) 0 rfl (by kernel_rfl) rfl) [8] [(8, .int .u64 (wd x 0 : Int))] (by kernel_rfl) (by kernel_rfl) rfl ?_
    refine GL.run (j := 4) 2 [2, 3] [(2, .int .u64 (wd x 0 : Int)), (3, .bool true)] (by kernel_rfl) rfl ?_
    refine GL.k rfl hK16 (fun _ _ h => h) ?_
    refine G.ret ?_
    intro F_ hF_ hM_
    refine hRet _ _ (bodyPost_2 rfl (RV.tmp rfl) (RV.tmp rfl) ?_ F_ hF_ hM_)
    have hk : x < K := Nat.lt_of_lt_of_le (bl_lt x) (Nat.pow_le_pow_right (by decide) (show bl x ≤ 64 by omega))
    rw [show oneW x = wd x 0 from (if_pos hk).trans (Nat.mod_eq_of_lt hk).symm, decide_eq_true hk]
    exact ⟨rfl, H12.sub (List.nil_sublist _)⟩
  · skip
    have hb14f := of_decide_eq_true hb14
    refine G.yes rfl ?_
    refine G.seqK fun K17 hK18 => ?_
    refine G.region ?_
    refine GL.run (j := 2) 2 [2, 3] [(2, .int .u64 0), (3, .bool false)] (by kernel_rfl) rfl ?_
    refine GL.k rfl hK18 (fun _ _ h => h) ?_
    refine G.ret ?_
    intro F_ hF_ hM_
    refine hRet _ _ (bodyPost_2 rfl (RV.tmp rfl) (RV.tmp rfl) ?_ F_ hF_ hM_)
    have hk : ¬ x < K := fun h => by have := bl_le (k := 64) (show x < 2 ^ 64 from h); omega
    rw [show oneW x = 0 from if_neg hk, decide_eq_false hk]
    exact ⟨rfl, H12.sub (List.nil_sublist _)⟩
end Go.Proofs.Ytljfofnpjmlobaa
