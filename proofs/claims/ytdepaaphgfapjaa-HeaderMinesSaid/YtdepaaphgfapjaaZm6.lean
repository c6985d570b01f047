/- Part 6 of what headerMines_proved stands on. -/
import Derived.Test.YtdepaaphgfapjaaZm5
set_option linter.unusedVariables false
namespace Go.Proofs.Ytdepaaphgfapjaa
open Go.RowKit
def preZ (L : List Nat) (i n : Nat) : List Nat := L.take i ++ List.replicate (n - i) 0
theorem preZ_length {L : List Nat} {i n : Nat} (h : L.length = n) : (preZ L i n).length = n := by
 rw [preZ, List.length_append, List.length_take, List.length_replicate]
 omega
theorem preZ_set {L : List Nat} {i n v : Nat} (h : i < n) (hL : L.length = n) (hv : v = L.getD i 0) : (preZ L i n).set i v = preZ L (i + 1) n := by
 subst hv
 unfold preZ
 have hl : (L.take i).length = i := by rw [List.length_take]; omega
 rw [List.set_append_right _ _ (by rw [hl]; exact Nat.le_refl _), hl, Nat.sub_self, show n - i = (n - (i + 1)) + 1 by omega, List.replicate_succ, List.set_cons_zero, List.take_add_one, getD_at (show i < L.length by omega), List.append_assoc]
 rfl
theorem preZ_over {L : List Nat} {i n : Nat} (h : n ≤ i) (hL : L.length = n) : preZ L (i + 1) n = preZ L i n := by
 unfold preZ
 rw [List.take_of_length_le (by omega), List.take_of_length_le (by omega), show n - (i + 1) = 0 by omega, show n - i = 0 by omega]
theorem wsN_stable (p : List UInt8) {j i : Nat} (h : j < i) : ∀ d, (wsN p (i + d)).getD j 0 = (wsN p i).getD j 0
 | 0 => rfl
 | d + 1 => by
   rw [← wsN_stable p h d, ← Nat.add_assoc, wsN, List.getD_eq_getElem?_getD, List.getD_eq_getElem?_getD, List.getElem?_append_left (by rw [wsN_length]; omega), ← List.getD_eq_getElem?_getD]
theorem be4 (p : List UInt8) (o : Nat) : beF p o 4 = (p.getD o 0).toNat * 16777216 + (p.getD (o + 1) 0).toNat * 65536 + (p.getD (o + 2) 0).toNat * 256 + (p.getD (o + 3) 0).toNat := by
 simp only [beF, Nat.add_zero]
 omega
theorem part_at {m : List UInt8} {l n k : Nat} (hk : k < n) : ((m.drop l).take n).getD k 0 = m.getD (l + k) 0 := by
 rw [List.getD_eq_getElem?_getD, List.getD_eq_getElem?_getD, List.getElem?_take_of_lt hk, List.getElem?_drop]
theorem w_shlB {b : Nat} (r m : Nat) (hr : 2 ^ r = m) (hb : b * m < W32) : IntKind.u32.wrap ((b : Int) * 2 ^ r) = ((b * m : Nat) : Int) := by
 subst hr
 rw [w_shl, Nat.mod_eq_of_lt hb]
theorem w_orA {x y : Nat} (r m : Nat) (hr : 2 ^ r = m) (hy : y < m) (hx : x * m + y < W32) : Go.bits .or .u32 ((x * m : Nat) : Int) (y : Int) = ((x * m + y : Nat) : Int) := by
 subst hr
 rw [w_or (by omega) (by omega), Nat.mul_comm x, ← Nat.two_pow_add_eq_or_of_lt hy]
set_option maxRecDepth 100000 in
set_option maxHeartbeats 4000000 in
theorem RefSum_calls (A : Option Addr) (n c : Nat) (b : List UInt8) (w : World) (hx : RdS w A (by8 b)) (hn : n = b.length) (hb : b.length ≤ 1000000) : Calls Try.prog 42 #[.slice A n c] w fun e w' => e = .returned (.agg (by8 (sha b)).toArray) ∧ Hp w [] [] w' := by
 subst hn
 refine calls_G (args := [.slice A b.length c]) Try.func42 rfl Try.ntmps42 rfl ?_
 intro Q0 hRet hNor hPan
 have H := Hp.start w
 refine G.sr fun K1 hK2 => ?_
 obtain ⟨p3, w4, r5, H6⟩ := H.alloc (P := Try.prog) 23 (by8 (bsP (outB (blocks (padM b) ((padM b).length / 64))) 32 0)) (by kernel_rfl)
 refine GL.s 1 (r5) [(0, .slice A b.length c), (2, pt p3 0)] ?_
 refine GL.q hK2 ?_
 refine G.sr fun K7 hK8 => ?_
 refine GL.r 2 2 [(0, .slice A b.length c), (2, pt p3 0), (18, .agg (u32s (preZ KT 0 64)).toArray), (19, .agg (u32s (preZ H0L 0 8)).toArray)] ?_
 obtain ⟨p9, w10, r11, H12⟩ := H6.alloc (P := Try.prog) 96 (u32s (preZ KT 0 64)) (by kernel_rfl)
 refine GL.s 3 (r11) [(0, .slice A b.length c), (2, pt p3 0), (3, pt p9 0), (18, .agg (u32s (preZ KT 0 64)).toArray), (19, .agg (u32s (preZ H0L 0 8)).toArray)] ?_
 obtain ⟨p13, w14, r15, H16⟩ := H12.alloc (P := Try.prog) 97 (u32s (preZ H0L 0 8)) (by kernel_rfl)
 refine GL.s 4 (r15) [(0, .slice A b.length c), (2, pt p3 0), (3, pt p9 0), (4, pt p13 0), (18, .agg (u32s (preZ KT 0 64)).toArray), (19, .agg (u32s (preZ H0L 0 8)).toArray)] ?_
 obtain ⟨w17, r18, H19⟩ := H16.stA (P := Try.prog) (o := 0) (vs := u32s (preZ KT 0 64)) (ty := 96) (m := 64) 1 rfl (by kernel_rfl) rfl (by rw [u32s_length, preZ_length KT_length]; omega) (u32s_one _)
 rw [st_whole (by rw [u32s_length, preZ_length KT_length])] at H19
 have H19 : Hp w [] [.blk p3 (by8 (bsP (outB (blocks (padM b) ((padM b).length / 64))) 32 0)) 23, .blk p9 (u32s (preZ KT 0 64)) 96, .blk p13 (u32s (preZ H0L 0 8)) 97] w17 := H19
 refine GL.u 5 r18 [(0, .slice A b.length c), (2, pt p3 0), (3, pt p9 0), (4, pt p13 0), (19, .agg (u32s (preZ H0L 0 8)).toArray)] ?_
 obtain ⟨w20, r21, H22⟩ := H19.stA (P := Try.prog) (o := 0) (vs := u32s (preZ H0L 0 8)) (ty := 97) (m := 8) 2 rfl (by kernel_rfl) rfl (by rw [u32s_length, preZ_length (L := H0L) (n := 8) rfl]; omega) (u32s_one _)
 rw [st_whole (by rw [u32s_length, preZ_length (L := H0L) (n := 8) rfl])] at H22
 have H22 : Hp w [] [.blk p3 (by8 (bsP (outB (blocks (padM b) ((padM b).length / 64))) 32 0)) 23, .blk p9 (u32s (preZ KT 0 64)) 96, .blk p13 (u32s (preZ H0L 0 8)) 97] w20 := H22
 refine GL.u 6 r21 [(0, .slice A b.length c), (2, pt p3 0), (3, pt p9 0), (4, pt p13 0)] ?_
 refine GL.q hK8 ?_
 refine G.seqK fun K23 hK24 => ?_
 refine G.sr fun K25 hK26 => ?_
 refine GL.call (j := 1) (Primes_calls w20) (by kernel_rfl) rfl (fun e_ w31 hR => ?_)
 obtain ⟨A27, c28, rfl, H30⟩ := hR
 have H29 : Hp w [] [.blk p3 (by8 (bsP (outB (blocks (padM b) ((padM b).length / 64))) 32 0)) 23, .blk p9 (u32s (preZ KT 0 64)) 96, .blk p13 (u32s (preZ H0L 0 8)) 97, .row A27 64 c28 31 1 (dg PR)] w31 := H22.callNew H30
 refine ⟨_, rfl, [0, 2, 3, 4, 20], [(0, .slice A b.length c), (2, pt p3 0), (3, pt p9 0), (4, pt p13 0), (20, .slice A27 64 c28)], by kernel_rfl, ?_⟩
 refine GL.r 3 2 [(0, .slice A b.length c), (2, pt p3 0), (3, pt p9 0), (4, pt p13 0), (20, .slice A27 64 c28), (21, li 64), (22, li 0)] ?_
 refine GL.q hK26 ?_
 refine G.block ?_
 have hPRl : PR.length = 64 := rfl
 refine G.fit [0, 2, 3, 4, 20, 21, 22] (M' := [(0, .slice A b.length c), (2, pt p3 0), (3, pt p9 0), (4, pt p13 0), (20, .slice A27 64 c28), (21, li 64), (22, li 0)]) (by kernel_rfl) ?_
 refine G.loop (X := Nat) (fun i => [(0, .slice A b.length c), (2, pt p3 0), (3, pt p9 0), (4, pt p13 0), (20, .slice A27 64 c28), (21, li 64), (22, vi i)]) (fun i w_ => (i ≤ 64) ∧ Hp w [] [.blk p3 (by8 (bsP (outB (blocks (padM b) ((padM b).length / 64))) 32 0)) 23, .blk p9 (u32s (preZ KT i 64)) 96, .blk p13 (u32s (preZ H0L i 8)) 97, .row A27 64 c28 31 1 (dg PR)] w_) (fun i => 64 - i) 0 [0, 2, 3, 4, 20, 21, 22] (by kernel_rfl) ⟨by omega, H29⟩ ?_
 rintro i w32 ⟨hi33, H34⟩
 refine G.eq (M' := [(0, .slice A b.length c), (2, pt p3 0), (3, pt p9 0), (4, pt p13 0), (20, .slice A27 64 c28), (21, li 64), (22, vi i)]) rfl ?_
 have hi64 := hi33
 refine G.sr fun K35 hK36 => ?_
 refine GL.r 1 1 [(0, .slice A b.length c), (2, pt p3 0), (3, pt p9 0), (4, pt p13 0), (20, .slice A27 64 c28), (21, li 64), (22, vi i), (23, .bool (decide ((i : Int) < 64)))] ?_
 refine GL.q hK36 ?_
 refine G.seqK fun K37 hK38 => ?_
 cases hb39 : (decide ((i : Int) < 64))
 · skip
   have hb39f := of_decide_eq_false hb39
   refine G.no rfl ?_
   refine G.exitK hK24 (fun _ _ h => h) ?_
   refine G.sr fun K40 hK41 => ?_
   obtain ⟨p42, w43, r44, H45⟩ := H34.madeRow (P := Try.prog) (Instr.buildSlice 28 0 #[]) (fun b_ => .slice (some ⟨b_, 0, none⟩) 0 0) [] 5 0 0 1 (by kernel_rfl) (by decide) (by decide) rfl
   refine GL.s 1 (r44) [(0, .slice A b.length c), (2, pt p3 0), (3, pt p9 0), (4, pt p13 0), (38, .slice (some ⟨p42, 0, none⟩) 0 0)] ?_
   refine GL.r 2 1 [(0, .slice A b.length c), (2, pt p3 0), (3, pt p9 0), (4, pt p13 0), (38, .slice (some ⟨p42, 0, none⟩) 0 0), (39, .slice A b.length c)] ?_
   obtain ⟨A46, c47, w48, r49, H50⟩ := H45.append (P := Try.prog) (e := 5) (sz := 1) (by_ := 1) (n := 0) (c := 0) (m := b.length) (d := c) (t := 28) (ty := 28) (xs := by8 ([] : List UInt8)) (news := by8 b) 4 rfl (by kernel_rfl) (hx.hp H45) (by first | (simp [by8_length]; done) | (rw [by8_length]; omega) | (rw [by8_length, putB_length])) (by8_one _) (by omega) (by simp only [maxLen]; omega)
   rw [Nat.zero_add] at r49 H50
   have H50 : Hp w [] [.blk p3 (by8 (bsP (outB (blocks (padM b) ((padM b).length / 64))) 32 0)) 23, .blk p9 (u32s (preZ KT i 64)) 96, .blk p13 (u32s (preZ H0L i 8)) 97, .row A27 64 c28 31 1 (dg PR), .row A46 b.length c47 5 1 (by8 b)] w48 := H50
   refine GL.s 3 (r49) [(0, .slice A b.length c), (2, pt p3 0), (3, pt p9 0), (4, pt p13 0), (40, .slice A46 b.length c47)] ?_
   refine GL.r 4 1 [(0, .slice A b.length c), (2, pt p3 0), (3, pt p9 0), (4, pt p13 0), (7, .slice A46 b.length c47)] ?_
   refine GL.q hK41 ?_
   refine G.sr fun K51 hK52 => ?_
   refine GL.r 1 1 [(0, .slice A b.length c), (2, pt p3 0), (3, pt p9 0), (4, pt p13 0), (41, .slice A46 b.length c47)] ?_
   obtain ⟨p53, w54, r55, H56⟩ := H50.madeRow (P := Try.prog) (Instr.buildSlice 28 1 #[(0, lb 128)]) (fun b_ => .slice (some ⟨b_, 0, none⟩) 1 1) [lb 128] 5 1 1 1 (by kernel_rfl) (by decide) (by decide) rfl
   refine GL.s 2 (r55) [(0, .slice A b.length c), (2, pt p3 0), (3, pt p9 0), (4, pt p13 0), (41, .slice A46 b.length c47), (42, .slice (some ⟨p53, 0, none⟩) 1 1)] ?_
   obtain ⟨A57, c58, w59, r60, H61⟩ := H56.append (P := Try.prog) (e := 5) (sz := 1) (by_ := 1) (n := b.length) (c := c47) (m := 1) (d := 1) (t := 28) (ty := 28) (xs := by8 b) (news := by8 ([128] : List UInt8)) 4 rfl (by kernel_rfl) (H56.rdRow 5 rfl) (by first | (simp [by8_length]; done) | (rw [by8_length]; omega) | (rw [by8_length, putB_length])) (by8_one _) (by omega) (by simp only [maxLen]; omega)
   rw [← by8_append] at H61
   have H61 : Hp w [] [.blk p3 (by8 (bsP (outB (blocks (padM b) ((padM b).length / 64))) 32 0)) 23, .blk p9 (u32s (preZ KT i 64)) 96, .blk p13 (u32s (preZ H0L i 8)) 97, .row A27 64 c28 31 1 (dg PR), .row A57 (b.length + 1) c58 5 1 (by8 (b ++ ([128] : List UInt8))), .row (some ⟨p53, 0, none⟩) 1 1 5 1 (by8 ([128] : List UInt8))] w59 := H61
   refine GL.s 3 (r60) [(0, .slice A b.length c), (2, pt p3 0), (3, pt p9 0), (4, pt p13 0), (43, .slice A57 (b.length + 1) c58)] ?_
   refine GL.r 4 1 [(0, .slice A b.length c), (2, pt p3 0), (3, pt p9 0), (4, pt p13 0), (7, .slice A57 (b.length + 1) c58)] ?_
   refine GL.q hK52 ?_
   refine G.seqK fun K62 hK63 => ?_
   refine G.block ?_
   obtain rfl : i = 64 := by omega
   have H64 : Hp w [] [.blk p3 (by8 (bsP (outB (blocks (padM b) ((padM b).length / 64))) 32 0)) 23, .blk p9 (u32s (preZ KT 64 64)) 96, .blk p13 (u32s (preZ H0L 64 8)) 97, .row A27 64 c28 31 1 (dg PR), .row A57 (b.length + 1 + 0) c58 5 1 (by8 (b ++ [128] ++ List.replicate 0 0)), .row (some ⟨p53, 0, none⟩) 1 1 5 1 (by8 ([128] : List UInt8))] w59 := by rw [show List.replicate 0 (0 : UInt8) = [] from rfl, List.append_nil]; exact H61
   refine G.fit [0, 2, 3, 4, 7] (M' := [(0, .slice A b.length c), (2, pt p3 0), (3, pt p9 0), (4, pt p13 0), (7, .slice A57 (b.length + 1 + 0) c58)]) (by kernel_rfl) ?_
   refine G.loop (X := Nat × Option Addr × Nat) (fun ⟨j, B_, C_⟩ => [(0, .slice A b.length c), (2, pt p3 0), (3, pt p9 0), (4, pt p13 0), (7, .slice B_ (b.length + 1 + j) C_)]) (fun ⟨j, B_, C_⟩ w_ => (j ≤ padZ b.length) ∧ Hp w [] [.blk p3 (by8 (bsP (outB (blocks (padM b) ((padM b).length / 64))) 32 0)) 23, .blk p9 (u32s (preZ KT 64 64)) 96, .blk p13 (u32s (preZ H0L 64 8)) 97, .row A27 64 c28 31 1 (dg PR), .row B_ (b.length + 1 + j) C_ 5 1 (by8 (b ++ [128] ++ List.replicate j 0)), .row (some ⟨p53, 0, none⟩) 1 1 5 1 (by8 ([128] : List UInt8))] w_) (fun ⟨j, B_, C_⟩ => padZ b.length - j) ⟨0, A57, c58⟩ [0, 2, 3, 4, 7] (by kernel_rfl) ⟨by omega, H64⟩ ?_
   rintro ⟨j, B_, C_⟩ w65 ⟨hi66, H67⟩
   refine G.eq (M' := [(0, .slice A b.length c), (2, pt p3 0), (3, pt p9 0), (4, pt p13 0), (7, .slice B_ (b.length + 1 + j) C_)]) rfl ?_
   have hj := hi66
   have hz : padZ b.length = (119 - b.length % 64) % 64 := rfl
   refine G.seqK fun K68 hK69 => ?_
   refine G.sr fun K70 hK71 => ?_
   refine GL.r 4 4 [(0, .slice A b.length c), (2, pt p3 0), (3, pt p9 0), (4, pt p13 0), (7, .slice B_ (b.length + 1 + j) C_), (47, .bool ((Int.tmod (((b.length + 1 + j) : Nat) : Int) 64) != 56))] ?_
   have e72 : (Int.tmod (((b.length + 1 + j) : Nat) : Int) 64) = (((b.length + 1 + j) % 64 : Nat) : Int) := n_rem _ 64
   rw [e72]
   clear e72
   refine GL.q hK71 ?_
   cases hb73 : ((((b.length + 1 + j) % 64 : Nat) : Int) != 56)
   · skip
     have hb73f : (((b.length + 1 + j) % 64 : Nat) : Int) = 56 := bne_eq_false_iff_eq.1 hb73
     refine G.no rfl ?_
     refine G.exitK hK63 (fun _ _ h => h) ?_
     refine G.seqK fun K74 hK75 => ?_
     refine G.sr fun K76 hK77 => ?_
     refine GL.r 1 1 [(0, .slice A b.length c), (2, pt p3 0), (3, pt p9 0), (4, pt p13 0), (7, .slice B_ (b.length + 1 + j) C_), (8, li 56)] ?_
     refine GL.q hK77 ?_
     refine G.block ?_
     obtain rfl : j = padZ b.length := by omega
     have H78 : Hp w [] [.blk p3 (by8 (bsP (outB (blocks (padM b) ((padM b).length / 64))) 32 0)) 23, .blk p9 (u32s (preZ KT 64 64)) 96, .blk p13 (u32s (preZ H0L 64 8)) 97, .row A27 64 c28 31 1 (dg PR), .row B_ (b.length + 1 + padZ b.length + 0) C_ 5 1 (by8 ((b ++ [128] ++ List.replicate (padZ b.length) 0) ++ lenB b.length 0)), .row (some ⟨p53, 0, none⟩) 1 1 5 1 (by8 ([128] : List UInt8))] w65 := by rw [show lenB b.length 0 = [] from rfl, List.append_nil]; exact H67
     refine G.fit [0, 2, 3, 4, 7, 8] (M' := [(0, .slice A b.length c), (2, pt p3 0), (3, pt p9 0), (4, pt p13 0), (7, .slice B_ (b.length + 1 + padZ b.length + 0) C_), (8, li 56)]) (by kernel_rfl) ?_
     refine G.eq (M' := [(0, .slice A b.length c), (2, pt p3 0), (3, pt p9 0), (4, pt p13 0), (7, .slice B_ (b.length + 1 + padZ b.length + 0) C_), (8, li (56 - 8 * ((0 : Nat) : Int)))]) (by rfl) ?_
     refine G.loop (X := Nat × Option Addr × Nat) (fun ⟨k, B_, C_⟩ => [(0, .slice A b.length c), (2, pt p3 0), (3, pt p9 0), (4, pt p13 0), (7, .slice B_ (b.length + 1 + padZ b.length + k) C_), (8, li (56 - 8 * (k : Int)))]) (fun ⟨k, B_, C_⟩ w_ => (k ≤ 8) ∧ Hp w [] [.blk p3 (by8 (bsP (outB (blocks (padM b) ((padM b).length / 64))) 32 0)) 23, .blk p9 (u32s (preZ KT 64 64)) 96, .blk p13 (u32s (preZ H0L 64 8)) 97, .row A27 64 c28 31 1 (dg PR), .row B_ (b.length + 1 + padZ b.length + k) C_ 5 1 (by8 ((b ++ [128] ++ List.replicate (padZ b.length) 0) ++ lenB b.length k)), .row (some ⟨p53, 0, none⟩) 1 1 5 1 (by8 ([128] : List UInt8))] w_) (fun ⟨k, B_, C_⟩ => 8 - k) ⟨0, B_, C_⟩ [0, 2, 3, 4, 7, 8] (by kernel_rfl) ⟨by omega, H78⟩ ?_
     rintro ⟨k, B_, C_⟩ w79 ⟨hi80, H81⟩
     refine G.eq (M' := [(0, .slice A b.length c), (2, pt p3 0), (3, pt p9 0), (4, pt p13 0), (7, .slice B_ (b.length + 1 + padZ b.length + k) C_), (8, li (56 - 8 * (k : Int)))]) rfl ?_
     have hk8 := hi80
     refine G.seqK fun K82 hK83 => ?_
     refine G.sr fun K84 hK85 => ?_
     refine GL.r 2 2 [(0, .slice A b.length c), (2, pt p3 0), (3, pt p9 0), (4, pt p13 0), (7, .slice B_ (b.length + 1 + padZ b.length + k) C_), (8, li (56 - 8 * (k : Int))), (52, .bool (decide (0 ≤ (56 - 8 * (k : Int)))))] ?_
     refine GL.q hK85 ?_
     cases hb86 : (decide (0 ≤ (56 - 8 * (k : Int))))
     · skip
       have hb86f := of_decide_eq_false hb86
       refine G.no rfl ?_
       refine G.exitK hK75 (fun _ _ h => h) ?_
       refine G.seqK fun K87 hK88 => ?_
       refine G.sr fun K89 hK90 => ?_
       refine GL.r 1 1 [(2, pt p3 0), (3, pt p9 0), (4, pt p13 0), (7, .slice B_ (b.length + 1 + padZ b.length + k) C_), (9, li 0)] ?_
       refine GL.q hK90 ?_
       refine G.block ?_
       obtain rfl : k = 8 := by omega
       have H91 : Hp w [] [.blk p3 (by8 (bsP (outB (blocks (padM b) ((padM b).length / 64))) 32 0)) 23, .blk p9 (u32s KT) 96, .blk p13 [lw 1779033703, lw 3144134277, lw 1013904242, lw 2773480762, lw 1359893119, lw 2600822924, lw 528734635, lw 1541459225] 97, .row A27 64 c28 31 1 (dg PR), .row B_ (b.length + 1 + padZ b.length + 8) C_ 5 1 (by8 (padM b)), .row (some ⟨p53, 0, none⟩) 1 1 5 1 (by8 ([128] : List UInt8))] w79 := H81
       have hMp : (padM b).length = b.length + 1 + padZ b.length + 8 := by unfold padM; simp only [List.length_append, List.length_replicate, lenB_length, List.length_cons, List.length_nil]
       have hML : b.length + 1 + padZ b.length + 8 = 64 * ((padM b).length / 64) := by have e1 := padM_length b; omega
       have hz2 : padZ b.length < 64 := Nat.mod_lt _ (by decide)
       refine G.fit [2, 3, 4, 7, 9] (M' := [(2, pt p3 0), (3, pt p9 0), (4, pt p13 0), (7, .slice B_ (b.length + 1 + padZ b.length + 8) C_), (9, li 0)]) (by kernel_rfl) ?_
       refine G.eq (M' := [(2, pt p3 0), (3, pt p9 0), (4, pt p13 0), (7, .slice B_ (b.length + 1 + padZ b.length + 8) C_), (9, vi (64 * 0))]) (by rfl) ?_
       refine G.loop (X := Nat × Nat × Nat × Nat × Nat × Nat × Nat × Nat × Nat) (fun ⟨j, h0, h1, h2, h3, h4, h5, h6, h7⟩ => [(2, pt p3 0), (3, pt p9 0), (4, pt p13 0), (7, .slice B_ (b.length + 1 + padZ b.length + 8) C_), (9, vi (64 * j))]) (fun ⟨j, h0, h1, h2, h3, h4, h5, h6, h7⟩ w_ => (j ≤ ((padM b).length / 64) ∧ (h0, h1, h2, h3, h4, h5, h6, h7) = blocks (padM b) j) ∧ Hp w [] [.blk p3 (by8 (bsP (outB (blocks (padM b) ((padM b).length / 64))) 32 0)) 23, .blk p9 (u32s KT) 96, .blk p13 (c8 h0 h1 h2 h3 h4 h5 h6 h7) 97, .row A27 64 c28 31 1 (dg PR), .row B_ (b.length + 1 + padZ b.length + 8) C_ 5 1 (by8 (padM b)), .row (some ⟨p53, 0, none⟩) 1 1 5 1 (by8 ([128] : List UInt8))] w_) (fun ⟨j, h0, h1, h2, h3, h4, h5, h6, h7⟩ => ((padM b).length / 64) - j) ⟨0, 1779033703, 3144134277, 1013904242, 2773480762, 1359893119, 2600822924, 528734635, 1541459225⟩ [2, 3, 4, 7, 9] (by kernel_rfl) ⟨⟨Nat.zero_le _, rfl⟩, H91⟩ ?_
       rintro ⟨j, h0, h1, h2, h3, h4, h5, h6, h7⟩ w92 ⟨hi93, H94⟩
       refine G.eq (M' := [(2, pt p3 0), (3, pt p9 0), (4, pt p13 0), (7, .slice B_ (b.length + 1 + padZ b.length + 8) C_), (9, vi (64 * j))]) rfl ?_
       obtain ⟨hjM, hhv⟩ := hi93
       have ho8 := ok8_blocks (padM b) j
       rw [← hhv] at ho8
       have ⟨k0, k1, k2, k3, k4, k5, k6, k7⟩ := ho8
       refine G.seqK fun K95 hK96 => ?_
       refine G.sr fun K97 hK98 => ?_
       refine GL.r 4 4 [(2, pt p3 0), (3, pt p9 0), (4, pt p13 0), (7, .slice B_ (b.length + 1 + padZ b.length + 8) C_), (9, vi (64 * j)), (68, .bool (decide ((((64 * j) : Nat) : Int) < (((b.length + 1 + padZ b.length + 8) : Nat) : Int))))] ?_
       refine GL.q hK98 ?_
       cases hb99 : (decide ((((64 * j) : Nat) : Int) < (((b.length + 1 + padZ b.length + 8) : Nat) : Int)))
       · skip
         have hb99f := of_decide_eq_false hb99
         refine G.no rfl ?_
         refine G.exitK hK88 (fun _ _ h => h) ?_
         refine G.sr fun K100 hK101 => ?_
         refine GL.r 1 1 [(2, pt p3 0), (4, pt p13 0), (266, .agg (by8 (bsP (outB (blocks (padM b) ((padM b).length / 64))) 32 0)).toArray)] ?_
         obtain ⟨p102, w103, r104, H105⟩ := H94.alloc (P := Try.prog) 23 (by8 (bsP (outB (blocks (padM b) ((padM b).length / 64))) 32 0)) (by kernel_rfl)
         refine GL.s 2 (r104) [(2, pt p3 0), (4, pt p13 0), (16, pt p102 0), (266, .agg (by8 (bsP (outB (blocks (padM b) ((padM b).length / 64))) 32 0)).toArray)] ?_
         obtain ⟨w106, r107, H108⟩ := H105.stA (P := Try.prog) (o := 0) (vs := by8 (bsP (outB (blocks (padM b) ((padM b).length / 64))) 32 0)) (ty := 23) (m := 32) 6 rfl (by kernel_rfl) (by rw [by8_length, bsP_length (by omega)]) (Nat.le_of_eq (by rw [Nat.zero_add]; exact ((show (by8 (bsP (outB (blocks (padM b) ((padM b).length / 64))) 32 0)).length = 32 from by rw [by8_length, bsP_length (by omega)])).symm)) (by8_one _)
         rw [st_whole (by rw [by8_length, bsP_length (by omega)])] at H108
         have H108 : Hp w [] [.blk p3 (by8 (bsP (outB (blocks (padM b) ((padM b).length / 64))) 32 0)) 23, .blk p9 (u32s KT) 96, .blk p13 (c8 h0 h1 h2 h3 h4 h5 h6 h7) 97, .row A27 64 c28 31 1 (dg PR), .row B_ (b.length + 1 + padZ b.length + 8) C_ 5 1 (by8 (padM b)), .row (some ⟨p53, 0, none⟩) 1 1 5 1 (by8 ([128] : List UInt8)), .blk p102 (by8 (bsP (outB (blocks (padM b) ((padM b).length / 64))) 32 0)) 23] w106 := H108
         refine GL.u 3 r107 [(2, pt p3 0), (4, pt p13 0), (16, pt p102 0)] ?_
         refine GL.q hK101 ?_
         refine G.seqK fun K109 hK110 => ?_
         refine G.sr fun K111 hK112 => ?_
         refine GL.r 1 1 [(2, pt p3 0), (4, pt p13 0), (16, pt p102 0), (267, li 0)] ?_
         refine GL.q hK112 ?_
         refine G.block ?_
         have ej : j = ((padM b).length / 64) := by omega
         have hq : v8c (blocks (padM b) ((padM b).length / 64)) = v8c (h0, h1, h2, h3, h4, h5, h6, h7) := by rw [← ej, ← hhv]
         have H113 : Hp w [] [.blk p3 (by8 (bsP (outB (blocks (padM b) ((padM b).length / 64))) 32 0)) 23, .blk p9 (u32s KT) 96, .blk p13 (v8c (blocks (padM b) ((padM b).length / 64))) 97, .row A27 64 c28 31 1 (dg PR), .row B_ (b.length + 1 + padZ b.length + 8) C_ 5 1 (by8 (padM b)), .row (some ⟨p53, 0, none⟩) 1 1 5 1 (by8 ([128] : List UInt8)), .blk p102 (by8 (bsP (outB (blocks (padM b) ((padM b).length / 64))) 32 0)) 23] w106 := by rw [hq]; exact H108
         refine G.fit [2, 4, 16, 267] (M' := [(2, pt p3 0), (4, pt p13 0), (16, pt p102 0), (267, li 0)]) (by kernel_rfl) ?_
         refine G.loop (X := Nat) (fun i => [(2, pt p3 0), (4, pt p13 0), (16, pt p102 0), (267, vi i)]) (fun i w_ => (i ≤ 32) ∧ Hp w [] [.blk p3 (by8 (bsP (outB (blocks (padM b) ((padM b).length / 64))) 32 0)) 23, .blk p9 (u32s KT) 96, .blk p13 (v8c (blocks (padM b) ((padM b).length / 64))) 97, .row A27 64 c28 31 1 (dg PR), .row B_ (b.length + 1 + padZ b.length + 8) C_ 5 1 (by8 (padM b)), .row (some ⟨p53, 0, none⟩) 1 1 5 1 (by8 ([128] : List UInt8)), .blk p102 (by8 (bsP (outB (blocks (padM b) ((padM b).length / 64))) 32 i)) 23] w_) (fun i => 32 - i) 0 [2, 4, 16, 267] (by kernel_rfl) ⟨by omega, H113⟩ ?_
         rintro i w114 ⟨hi115, H116⟩
         refine G.eq (M' := [(2, pt p3 0), (4, pt p13 0), (16, pt p102 0), (267, vi i)]) rfl ?_
         have hi32 := hi115
         refine G.sr fun K117 hK118 => ?_
         refine GL.r 1 1 [(2, pt p3 0), (4, pt p13 0), (16, pt p102 0), (267, vi i), (268, .bool (decide ((i : Int) < 32)))] ?_
         refine GL.q hK118 ?_
         refine G.seqK fun K119 hK120 => ?_
         cases hb121 : (decide ((i : Int) < 32))
         · skip
           have hb121f := of_decide_eq_false hb121
           refine G.no rfl ?_
           refine G.exitK hK110 (fun _ _ h => h) ?_
           refine G.sr fun K122 hK123 => ?_
           refine GL.s 1 (H116.ldA (o := 0) (ty := 23) (m := 32) (sub := by8 (bsP (outB (blocks (padM b) ((padM b).length / 64))) 32 i)) 6 rfl (by kernel_rfl) (sub_whole (by rw [by8_length, bsP_length (by omega)])) (by rw [by8_length, bsP_length (by omega)])) [(2, pt p3 0), (283, .agg (by8 (bsP (outB (blocks (padM b) ((padM b).length / 64))) 32 i)).toArray)] ?_
           obtain ⟨w124, r125, H126⟩ := H116.stA (P := Try.prog) (o := 0) (vs := by8 (bsP (outB (blocks (padM b) ((padM b).length / 64))) 32 i)) (ty := 23) (m := 32) 0 rfl (by kernel_rfl) (by rw [by8_length, bsP_length (by omega)]) (Nat.le_of_eq (by rw [Nat.zero_add]; exact ((show (by8 (bsP (outB (blocks (padM b) ((padM b).length / 64))) 32 0)).length = 32 from by rw [by8_length, bsP_length (by omega)])).symm)) (by8_one _)
           rw [st_whole (by rw [by8_length, bsP_length (by omega)])] at H126
           have H126 : Hp w [] [.blk p3 (by8 (bsP (outB (blocks (padM b) ((padM b).length / 64))) 32 i)) 23, .blk p9 (u32s KT) 96, .blk p13 (v8c (blocks (padM b) ((padM b).length / 64))) 97, .row A27 64 c28 31 1 (dg PR), .row B_ (b.length + 1 + padZ b.length + 8) C_ 5 1 (by8 (padM b)), .row (some ⟨p53, 0, none⟩) 1 1 5 1 (by8 ([128] : List UInt8)), .blk p102 (by8 (bsP (outB (blocks (padM b) ((padM b).length / 64))) 32 i)) 23] w124 := H126
           refine GL.u 2 r125 [(2, pt p3 0)] ?_
           refine GL.q hK123 ?_
           refine G.ret fun F_ hF_ hM_ => hRet _ _ (bodyPost_1 rfl (RV.cell rfl (H126.ldA (o := 0) (ty := 23) (m := 32) (sub := by8 (bsP (outB (blocks (padM b) ((padM b).length / 64))) 32 i)) 0 rfl (by kernel_rfl) (sub_whole (by rw [by8_length, bsP_length (by omega)])) (by rw [by8_length, bsP_length (by omega)]))) ?_ F_ hF_ hM_)
           rw [show i = 32 by omega, bsP_all]
           exact ⟨rfl, H126.sub (List.nil_sublist _)⟩
         · skip
           have hb121f := of_decide_eq_true hb121
           refine G.yes rfl ?_
           refine G.skipK hK120 (fun _ _ h => h) ?_
           refine G.seqK fun K127 hK128 => ?_
           refine G.block ?_
           refine G.sr fun K129 hK130 => ?_
           refine GL.r 2 2 [(2, pt p3 0), (4, pt p13 0), (16, pt p102 0), (17, vi i), (267, vi i)] ?_
           refine GL.q hK130 ?_
           refine G.region ?_
           refine GL.r 3 3 [(2, pt p3 0), (4, pt p13 0), (16, pt p102 0), (17, vi i), (267, vi i), (270, vi i), (272, li (IntKind.i64.wrap (Int.tdiv (i : Int) 4)))] ?_
           have e131 : (IntKind.i64.wrap (Int.tdiv (i : Int) 4)) = ((i / 4 : Nat) : Int) := i_quo 4 (by omega)
           rw [e131]
           clear e131
           refine GL.s 4 (run_idxArr (P := Try.prog) (k := .i64) (t := 97) (len := 8) (sz := 1) (b := p13) (o := 0) (j := i / 4) (by kernel_rfl) rfl (by omega)) [(2, pt p3 0), (4, pt p13 0), (16, pt p102 0), (17, vi i), (267, vi i), (270, vi i), (273, pt p13 (0 + (i / 4) * 1))] ?_
           refine GL.s 5 (H116.ld (o := (0 + (i / 4) * 1)) (ty := 22) (v := vw (at8 (blocks (padM b) ((padM b).length / 64)) (i / 4))) 2 rfl (by kernel_rfl) (by rw [show (0 + (i / 4) * 1) = (i / 4) by omega]; exact v8c_at (by omega))) [(2, pt p3 0), (4, pt p13 0), (16, pt p102 0), (17, vi i), (267, vi i), (270, vi i), (274, vw (at8 (blocks (padM b) ((padM b).length / 64)) (i / 4)))] ?_
           refine GL.r 9 4 [(2, pt p3 0), (4, pt p13 0), (16, pt p102 0), (267, vi i), (270, vi i), (274, vw (at8 (blocks (padM b) ((padM b).length / 64)) (i / 4))), (278, li (IntKind.i64.wrap (24 - (IntKind.i64.wrap (8 * (Int.tmod (i : Int) 4))))))] ?_
           have e132 : (Int.tmod (i : Int) 4) = ((i % 4 : Nat) : Int) := n_rem _ 4
           have e133 : (IntKind.i64.wrap (8 * ((i % 4 : Nat) : Int))) = ((8 * (i % 4) : Nat) : Int) := by rw [in_i64 (by omega)]; omega
           have e134 : (IntKind.i64.wrap (24 - ((8 * (i % 4) : Nat) : Int))) = (((24 - 8 * (i % 4)) : Nat) : Int) := by rw [in_i64 (by omega)]; omega
           rw [e132, e133, e134]
           clear e132 e133 e134
           refine GL.s 10 (run_shr32 (P := Try.prog) (k' := .i64) (t := 22) (a := (at8 (blocks (padM b) ((padM b).length / 64)) (i / 4))) (r := (24 - 8 * (i % 4))) (by omega) _) [(2, pt p3 0), (4, pt p13 0), (16, pt p102 0), (267, vi i), (270, vi i), (279, vw ((at8 (blocks (padM b) ((padM b).length / 64)) (i / 4)) / 2 ^ (24 - 8 * (i % 4))))] ?_
           refine GL.r 11 1 [(2, pt p3 0), (4, pt p13 0), (16, pt p102 0), (267, vi i), (270, vi i), (280, lb (IntKind.u8.wrap ((((at8 (blocks (padM b) ((padM b).length / 64)) (i / 4)) / 2 ^ (24 - 8 * (i % 4))) : Nat) : Int)))] ?_
           have e135 : (IntKind.u8.wrap ((((at8 (blocks (padM b) ((padM b).length / 64)) (i / 4)) / 2 ^ (24 - 8 * (i % 4))) : Nat) : Int)) = (((UInt8.ofNat ((at8 (blocks (padM b) ((padM b).length / 64)) (i / 4)) / 2 ^ (24 - 8 * (i % 4)))).toNat : Nat) : Int) := n_byte _
           rw [e135]
           clear e135
           refine GL.s 12 (run_idxArr (P := Try.prog) (k := .i64) (t := 23) (len := 32) (sz := 1) (b := p102) (o := 0) (j := i) (by kernel_rfl) rfl (by omega)) [(2, pt p3 0), (4, pt p13 0), (16, pt p102 0), (267, vi i), (280, lb (((UInt8.ofNat ((at8 (blocks (padM b) ((padM b).length / 64)) (i / 4)) / 2 ^ (24 - 8 * (i % 4)))).toNat : Nat) : Int)), (281, pt p102 (0 + i * 1))] ?_
           obtain ⟨w136, r137, H138⟩ := H116.st (P := Try.prog) (o := (0 + i * 1)) (ty := 5) (v := .int .u8 (((UInt8.ofNat ((at8 (blocks (padM b) ((padM b).length / 64)) (i / 4)) / 2 ^ (24 - 8 * (i % 4)))).toNat : Nat) : Int)) 6 rfl (by kernel_rfl) (by rw [by8_length, bsP_length (by omega)]; omega) rfl
           rw [show (0 + i * 1) = i by omega, by8_set] at H138
           have H138 : Hp w [] [.blk p3 (by8 (bsP (outB (blocks (padM b) ((padM b).length / 64))) 32 0)) 23, .blk p9 (u32s KT) 96, .blk p13 (v8c (blocks (padM b) ((padM b).length / 64))) 97, .row A27 64 c28 31 1 (dg PR), .row B_ (b.length + 1 + padZ b.length + 8) C_ 5 1 (by8 (padM b)), .row (some ⟨p53, 0, none⟩) 1 1 5 1 (by8 ([128] : List UInt8)), .blk p102 (by8 (List.set (bsP (outB (blocks (padM b) ((padM b).length / 64))) 32 i) i (UInt8.ofNat ((at8 (blocks (padM b) ((padM b).length / 64)) (i / 4)) / 2 ^ (24 - 8 * (i % 4)))))) 23] w136 := H138
           refine GL.u 13 r137 [(2, pt p3 0), (4, pt p13 0), (16, pt p102 0), (267, vi i)] ?_
           refine GL.q hK128 ?_
           refine G.region ?_
           refine GL.r 2 2 [(2, pt p3 0), (4, pt p13 0), (16, pt p102 0), (267, li (IntKind.i64.wrap ((i : Int) + 1)))] ?_
           have e139 : (IntKind.i64.wrap ((i : Int) + 1)) = ((i + 1 : Nat) : Int) := by rw [in_i64 (by omega)]; omega
           rw [e139]
           clear e139
           have H140 : Hp w [] [.blk p3 (by8 (bsP (outB (blocks (padM b) ((padM b).length / 64))) 32 0)) 23, .blk p9 (u32s KT) 96, .blk p13 (v8c (blocks (padM b) ((padM b).length / 64))) 97, .row A27 64 c28 31 1 (dg PR), .row B_ (b.length + 1 + padZ b.length + 8) C_ 5 1 (by8 (padM b)), .row (some ⟨p53, 0, none⟩) 1 1 5 1 (by8 ([128] : List UInt8)), .blk p102 (by8 (bsP (outB (blocks (padM b) ((padM b).length / 64))) 32 (i + 1))) 23] w136 := by rw [← bsP_set (F := outB (blocks (padM b) ((padM b).length / 64))) (n := 32) (i := i) (v := (UInt8.ofNat ((at8 (blocks (padM b) ((padM b).length / 64)) (i / 4)) / 2 ^ (24 - 8 * (i % 4))))) (by omega) rfl]; exact H138
           refine GL.fit (ts := [2, 4, 16, 267]) (M' := [(2, pt p3 0), (4, pt p13 0), (16, pt p102 0), (267, vi (i + 1))]) (by kernel_rfl) ?_
           refine GL.eq (M' := [(2, pt p3 0), (4, pt p13 0), (16, pt p102 0), (267, vi (i + 1))]) (by rfl) ?_
           exact GL.again (i + 1) [2, 4, 16, 267] rfl (by kernel_rfl) (by show 32 - (i + 1) < 32 - i; omega) ⟨by omega, H140⟩
       · skip
         have hb99f := of_decide_eq_true hb99
         obtain ⟨p, hp⟩ : ∃ p, p = ((padM b).drop (64 * j)).take 64 := ⟨_, rfl⟩
         refine G.yes rfl ?_
         refine G.skipK hK96 (fun _ _ h => h) ?_
         refine G.seqK fun K141 hK142 => ?_
         refine G.block ?_
         refine G.sr fun K143 hK144 => ?_
         refine GL.r 1 1 [(2, pt p3 0), (3, pt p9 0), (4, pt p13 0), (7, .slice B_ (b.length + 1 + padZ b.length + 8) C_), (9, vi (64 * j)), (71, .agg (u32s (wsP p 0)).toArray)] ?_
         obtain ⟨p145, w146, r147, H148⟩ := H94.alloc (P := Try.prog) 96 (u32s (wsP p 0)) (by kernel_rfl)
         refine GL.s 2 (r147) [(2, pt p3 0), (3, pt p9 0), (4, pt p13 0), (7, .slice B_ (b.length + 1 + padZ b.length + 8) C_), (9, vi (64 * j)), (10, pt p145 0), (71, .agg (u32s (wsP p 0)).toArray)] ?_
         obtain ⟨w149, r150, H151⟩ := H148.stA (P := Try.prog) (o := 0) (vs := u32s (wsP p 0)) (ty := 96) (m := 64) 6 rfl (by kernel_rfl) rfl (by rw [u32s_length, wsP_length (by omega)]; omega) (u32s_one _)
         rw [st_whole (by rw [u32s_length, wsP_length (by omega)])] at H151
         have H151 : Hp w [] [.blk p3 (by8 (bsP (outB (blocks (padM b) ((padM b).length / 64))) 32 0)) 23, .blk p9 (u32s KT) 96, .blk p13 (c8 h0 h1 h2 h3 h4 h5 h6 h7) 97, .row A27 64 c28 31 1 (dg PR), .row B_ (b.length + 1 + padZ b.length + 8) C_ 5 1 (by8 (padM b)), .row (some ⟨p53, 0, none⟩) 1 1 5 1 (by8 ([128] : List UInt8)), .blk p145 (u32s (wsP p 0)) 96] w149 := H151
         refine GL.u 3 r150 [(2, pt p3 0), (3, pt p9 0), (4, pt p13 0), (7, .slice B_ (b.length + 1 + padZ b.length + 8) C_), (9, vi (64 * j)), (10, pt p145 0)] ?_
         refine GL.q hK144 ?_
         refine G.sr fun K152 hK153 => ?_
         refine GL.s 1 (H151.ldA (o := 0) (ty := 97) (m := 8) (sub := (c8 h0 h1 h2 h3 h4 h5 h6 h7)) 2 rfl (by kernel_rfl) rfl rfl) [(2, pt p3 0), (3, pt p9 0), (4, pt p13 0), (7, .slice B_ (b.length + 1 + padZ b.length + 8) C_), (9, vi (64 * j)), (10, pt p145 0), (72, .agg #[vw h0, vw h1, vw h2, vw h3, vw h4, vw h5, vw h6, vw h7])] ?_
         obtain ⟨p154, w155, r156, H157⟩ := H151.alloc (P := Try.prog) 97 lz2 (by kernel_rfl)
         refine GL.s 2 (r156) [(2, pt p3 0), (3, pt p9 0), (4, pt p13 0), (7, .slice B_ (b.length + 1 + padZ b.length + 8) C_), (9, vi (64 * j)), (10, pt p145 0), (11, pt p154 0), (72, .agg #[vw h0, vw h1, vw h2, vw h3, vw h4, vw h5, vw h6, vw h7])] ?_
         obtain ⟨w158, r159, H160⟩ := H157.stA (P := Try.prog) (o := 0) (vs := (c8 h0 h1 h2 h3 h4 h5 h6 h7)) (ty := 97) (m := 8) 7 rfl (by kernel_rfl) rfl (by exact Nat.le_refl _) (c8_one)
         refine GL.u 3 r159 [(2, pt p3 0), (3, pt p9 0), (4, pt p13 0), (7, .slice B_ (b.length + 1 + padZ b.length + 8) C_), (9, vi (64 * j)), (10, pt p145 0), (11, pt p154 0)] ?_
         refine GL.q hK153 ?_
         refine G.seqK fun K161 hK162 => ?_
         refine G.sr fun K163 hK164 => ?_
         refine GL.r 1 1 [(2, pt p3 0), (3, pt p9 0), (4, pt p13 0), (7, .slice B_ (b.length + 1 + padZ b.length + 8) C_), (9, vi (64 * j)), (10, pt p145 0), (11, pt p154 0), (12, li 0)] ?_
         refine GL.q hK164 ?_
         refine G.block ?_
         refine G.fit [2, 3, 4, 7, 9, 10, 11, 12] (M' := [(2, pt p3 0), (3, pt p9 0), (4, pt p13 0), (7, .slice B_ (b.length + 1 + padZ b.length + 8) C_), (9, vi (64 * j)), (10, pt p145 0), (11, pt p154 0), (12, li 0)]) (by kernel_rfl) ?_
         refine G.loop (X := Nat × Nat × Nat × Nat × Nat × Nat × Nat × Nat × Nat) (fun ⟨t, a, b_, c_, d, e, f, g, h⟩ => [(2, pt p3 0), (3, pt p9 0), (4, pt p13 0), (7, .slice B_ (b.length + 1 + padZ b.length + 8) C_), (9, vi (64 * j)), (10, pt p145 0), (11, pt p154 0), (12, vi t)]) (fun ⟨t, a, b_, c_, d, e, f, g, h⟩ w_ => (t ≤ 64 ∧ (a, b_, c_, d, e, f, g, h) = shaR p (h0, h1, h2, h3, h4, h5, h6, h7) t) ∧ Hp w [] [.blk p3 (by8 (bsP (outB (blocks (padM b) ((padM b).length / 64))) 32 0)) 23, .blk p9 (u32s KT) 96, .blk p13 (c8 h0 h1 h2 h3 h4 h5 h6 h7) 97, .row A27 64 c28 31 1 (dg PR), .row B_ (b.length + 1 + padZ b.length + 8) C_ 5 1 (by8 (padM b)), .row (some ⟨p53, 0, none⟩) 1 1 5 1 (by8 ([128] : List UInt8)), .blk p145 (u32s (wsP p t)) 96, .blk p154 (c8 a b_ c_ d e f g h) 97] w_) (fun ⟨t, a, b_, c_, d, e, f, g, h⟩ => 64 - t) ⟨0, h0, h1, h2, h3, h4, h5, h6, h7⟩ [2, 3, 4, 7, 9, 10, 11, 12] (by kernel_rfl) ⟨⟨by omega, rfl⟩, H160⟩ ?_
         rintro ⟨t, a, b_, c_, d, e, f, g, h⟩ w165 ⟨hi166, H167⟩
         refine G.eq (M' := [(2, pt p3 0), (3, pt p9 0), (4, pt p13 0), (7, .slice B_ (b.length + 1 + padZ b.length + 8) C_), (9, vi (64 * j)), (10, pt p145 0), (11, pt p154 0), (12, vi t)]) rfl ?_
         have ht64 := hi166.1
         have hv8 := hi166.2
         have hr8 := ok8_rounds (p := p) ho8 t
         rw [← hv8] at hr8
         obtain ⟨g0, g1, g2, g3, g4, g5, g6, g7⟩ := hr8
         refine G.seqK fun K168 hK169 => ?_
         refine G.sr fun K170 hK171 => ?_
         refine GL.r 2 2 [(2, pt p3 0), (3, pt p9 0), (4, pt p13 0), (7, .slice B_ (b.length + 1 + padZ b.length + 8) C_), (9, vi (64 * j)), (10, pt p145 0), (11, pt p154 0), (12, vi t), (74, .bool (decide ((t : Int) < 64)))] ?_
         refine GL.q hK171 ?_
         cases hb172 : (decide ((t : Int) < 64))
         · skip
           have hb172f := of_decide_eq_false hb172
           refine G.no rfl ?_
           refine G.exitK hK162 (fun _ _ h => h) ?_
           refine G.sr fun K173 hK174 => ?_
           refine GL.r 1 1 [(2, pt p3 0), (3, pt p9 0), (4, pt p13 0), (7, .slice B_ (b.length + 1 + padZ b.length + 8) C_), (9, vi (64 * j)), (11, pt p154 0), (253, li 0)] ?_
           refine GL.q hK174 ?_
           refine G.block ?_
           refine G.unroll 9 ?_
           refine G.sr fun K175 hK176 => ?_
           refine GL.r 1 1 [(2, pt p3 0), (3, pt p9 0), (4, pt p13 0), (7, .slice B_ (b.length + 1 + padZ b.length + 8) C_), (9, vi (64 * j)), (11, pt p154 0), (253, li 0), (254, .bool true)] ?_
           refine GL.q hK176 ?_
           refine G.seqK fun K177 hK178 => ?_
           refine G.yes rfl ?_
           refine G.skipK hK178 (fun _ _ h => h) ?_
           refine G.seqK fun K179 hK180 => ?_
           refine G.block ?_
           refine G.sr fun K181 hK182 => ?_
           refine GL.r 2 2 [(2, pt p3 0), (3, pt p9 0), (4, pt p13 0), (7, .slice B_ (b.length + 1 + padZ b.length + 8) C_), (9, vi (64 * j)), (11, pt p154 0), (15, li 0), (253, li 0)] ?_
           refine GL.q hK182 ?_
           refine G.tail 9 (by kernel_rfl) (by kernel_rfl) ?_
           have H183 := H167.drew
           generalize ({ w165 with drawn := w165.drawn + 1 } : World) = w184 at H183 ⊢
           refine GS.r 3 3 [(2, pt p3 0), (3, pt p9 0), (4, pt p13 0), (7, .slice B_ (b.length + 1 + padZ b.length + 8) C_), (9, vi (64 * j)), (11, pt p154 0), (15, li 0), (253, li 0), (256, li 0), (258, pt p13 0)] ?_
           refine GS.s 4 (H183.ld (o := 0) (ty := 22) (v := vw h0) 2 rfl (by kernel_rfl) rfl) [(2, pt p3 0), (3, pt p9 0), (4, pt p13 0), (7, .slice B_ (b.length + 1 + padZ b.length + 8) C_), (9, vi (64 * j)), (11, pt p154 0), (15, li 0), (253, li 0), (256, li 0), (259, vw h0)] ?_
           refine GS.r 6 2 [(2, pt p3 0), (3, pt p9 0), (4, pt p13 0), (7, .slice B_ (b.length + 1 + padZ b.length + 8) C_), (9, vi (64 * j)), (11, pt p154 0), (253, li 0), (256, li 0), (259, vw h0), (261, pt p154 0)] ?_
           refine GS.s 7 (H183.ld (o := 0) (ty := 22) (v := vw a) 7 rfl (by kernel_rfl) rfl) [(2, pt p3 0), (3, pt p9 0), (4, pt p13 0), (7, .slice B_ (b.length + 1 + padZ b.length + 8) C_), (9, vi (64 * j)), (11, pt p154 0), (253, li 0), (256, li 0), (259, vw h0), (262, vw a)] ?_
           refine GS.r 9 2 [(2, pt p3 0), (3, pt p9 0), (4, pt p13 0), (7, .slice B_ (b.length + 1 + padZ b.length + 8) C_), (9, vi (64 * j)), (11, pt p154 0), (253, li 0), (263, lw (IntKind.u32.wrap ((h0 : Int) + (a : Int)))), (264, pt p13 0)] ?_
           have e185 : (IntKind.u32.wrap ((h0 : Int) + (a : Int))) = (((h0 + a) % W32 : Nat) : Int) := w_add _ _
           rw [e185]
           clear e185
           refine GS.tail rfl ?_
           obtain ⟨w186, r187, H188⟩ := H183.st (P := Try.prog) (o := 0) (ty := 22) (v := vw ((h0 + a) % W32)) 2 rfl (by kernel_rfl) (by show 0 < 8; decide) rfl
           refine GL.u 10 r187 [(2, pt p3 0), (3, pt p9 0), (4, pt p13 0), (7, .slice B_ (b.length + 1 + padZ b.length + 8) C_), (9, vi (64 * j)), (11, pt p154 0), (253, li 0)] ?_
           refine GL.q hK180 ?_
           refine G.region ?_
           refine GL.r 2 2 [(2, pt p3 0), (3, pt p9 0), (4, pt p13 0), (7, .slice B_ (b.length + 1 + padZ b.length + 8) C_), (9, vi (64 * j)), (11, pt p154 0), (253, li 1)] ?_
           refine GL.round rfl ?_
           refine G.sr fun K189 hK190 => ?_
           refine GL.r 1 1 [(2, pt p3 0), (3, pt p9 0), (4, pt p13 0), (7, .slice B_ (b.length + 1 + padZ b.length + 8) C_), (9, vi (64 * j)), (11, pt p154 0), (253, li 1), (254, .bool true)] ?_
           refine GL.q hK190 ?_
           refine G.seqK fun K191 hK192 => ?_
           refine G.yes rfl ?_
           refine G.skipK hK192 (fun _ _ h => h) ?_
           refine G.seqK fun K193 hK194 => ?_
           refine G.block ?_
           refine G.sr fun K195 hK196 => ?_
           refine GL.r 2 2 [(2, pt p3 0), (3, pt p9 0), (4, pt p13 0), (7, .slice B_ (b.length + 1 + padZ b.length + 8) C_), (9, vi (64 * j)), (11, pt p154 0), (15, li 1), (253, li 1)] ?_
           refine GL.q hK196 ?_
           refine G.tail 9 (by kernel_rfl) (by kernel_rfl) ?_
           have H197 := H188.drew
           generalize ({ w186 with drawn := w186.drawn + 1 } : World) = w198 at H197 ⊢
           refine GS.r 3 3 [(2, pt p3 0), (3, pt p9 0), (4, pt p13 0), (7, .slice B_ (b.length + 1 + padZ b.length + 8) C_), (9, vi (64 * j)), (11, pt p154 0), (15, li 1), (253, li 1), (256, li 1), (258, pt p13 1)] ?_
           refine GS.s 4 (H197.ld (o := 1) (ty := 22) (v := vw h1) 2 rfl (by kernel_rfl) rfl) [(2, pt p3 0), (3, pt p9 0), (4, pt p13 0), (7, .slice B_ (b.length + 1 + padZ b.length + 8) C_), (9, vi (64 * j)), (11, pt p154 0), (15, li 1), (253, li 1), (256, li 1), (259, vw h1)] ?_
           refine GS.r 6 2 [(2, pt p3 0), (3, pt p9 0), (4, pt p13 0), (7, .slice B_ (b.length + 1 + padZ b.length + 8) C_), (9, vi (64 * j)), (11, pt p154 0), (253, li 1), (256, li 1), (259, vw h1), (261, pt p154 1)] ?_
           refine GS.s 7 (H197.ld (o := 1) (ty := 22) (v := vw b_) 7 rfl (by kernel_rfl) rfl) [(2, pt p3 0), (3, pt p9 0), (4, pt p13 0), (7, .slice B_ (b.length + 1 + padZ b.length + 8) C_), (9, vi (64 * j)), (11, pt p154 0), (253, li 1), (256, li 1), (259, vw h1), (262, vw b_)] ?_
           refine GS.r 9 2 [(2, pt p3 0), (3, pt p9 0), (4, pt p13 0), (7, .slice B_ (b.length + 1 + padZ b.length + 8) C_), (9, vi (64 * j)), (11, pt p154 0), (253, li 1), (263, lw (IntKind.u32.wrap ((h1 : Int) + (b_ : Int)))), (264, pt p13 1)] ?_
           have e199 : (IntKind.u32.wrap ((h1 : Int) + (b_ : Int))) = (((h1 + b_) % W32 : Nat) : Int) := w_add _ _
           rw [e199]
           clear e199
           refine GS.tail rfl ?_
           obtain ⟨w200, r201, H202⟩ := H197.st (P := Try.prog) (o := 1) (ty := 22) (v := vw ((h1 + b_) % W32)) 2 rfl (by kernel_rfl) (by show 1 < 8; decide) rfl
           refine GL.u 10 r201 [(2, pt p3 0), (3, pt p9 0), (4, pt p13 0), (7, .slice B_ (b.length + 1 + padZ b.length + 8) C_), (9, vi (64 * j)), (11, pt p154 0), (253, li 1)] ?_
           refine GL.q hK194 ?_
           refine G.region ?_
           refine GL.r 2 2 [(2, pt p3 0), (3, pt p9 0), (4, pt p13 0), (7, .slice B_ (b.length + 1 + padZ b.length + 8) C_), (9, vi (64 * j)), (11, pt p154 0), (253, li 2)] ?_
           refine GL.round rfl ?_
           refine G.sr fun K203 hK204 => ?_
           refine GL.r 1 1 [(2, pt p3 0), (3, pt p9 0), (4, pt p13 0), (7, .slice B_ (b.length + 1 + padZ b.length + 8) C_), (9, vi (64 * j)), (11, pt p154 0), (253, li 2), (254, .bool true)] ?_
           refine GL.q hK204 ?_
           refine G.seqK fun K205 hK206 => ?_
           refine G.yes rfl ?_
           refine G.skipK hK206 (fun _ _ h => h) ?_
           refine G.seqK fun K207 hK208 => ?_
           refine G.block ?_
           refine G.sr fun K209 hK210 => ?_
           refine GL.r 2 2 [(2, pt p3 0), (3, pt p9 0), (4, pt p13 0), (7, .slice B_ (b.length + 1 + padZ b.length + 8) C_), (9, vi (64 * j)), (11, pt p154 0), (15, li 2), (253, li 2)] ?_
           refine GL.q hK210 ?_
           refine G.tail 9 (by kernel_rfl) (by kernel_rfl) ?_
           have H211 := H202.drew
           generalize ({ w200 with drawn := w200.drawn + 1 } : World) = w212 at H211 ⊢
           refine GS.r 3 3 [(2, pt p3 0), (3, pt p9 0), (4, pt p13 0), (7, .slice B_ (b.length + 1 + padZ b.length + 8) C_), (9, vi (64 * j)), (11, pt p154 0), (15, li 2), (253, li 2), (256, li 2), (258, pt p13 2)] ?_
           refine GS.s 4 (H211.ld (o := 2) (ty := 22) (v := vw h2) 2 rfl (by kernel_rfl) rfl) [(2, pt p3 0), (3, pt p9 0), (4, pt p13 0), (7, .slice B_ (b.length + 1 + padZ b.length + 8) C_), (9, vi (64 * j)), (11, pt p154 0), (15, li 2), (253, li 2), (256, li 2), (259, vw h2)] ?_
           refine GS.r 6 2 [(2, pt p3 0), (3, pt p9 0), (4, pt p13 0), (7, .slice B_ (b.length + 1 + padZ b.length + 8) C_), (9, vi (64 * j)), (11, pt p154 0), (253, li 2), (256, li 2), (259, vw h2), (261, pt p154 2)] ?_
           refine GS.s 7 (H211.ld (o := 2) (ty := 22) (v := vw c_) 7 rfl (by kernel_rfl) rfl) [(2, pt p3 0), (3, pt p9 0), (4, pt p13 0), (7, .slice B_ (b.length + 1 + padZ b.length + 8) C_), (9, vi (64 * j)), (11, pt p154 0), (253, li 2), (256, li 2), (259, vw h2), (262, vw c_)] ?_
           refine GS.r 9 2 [(2, pt p3 0), (3, pt p9 0), (4, pt p13 0), (7, .slice B_ (b.length + 1 + padZ b.length + 8) C_), (9, vi (64 * j)), (11, pt p154 0), (253, li 2), (263, lw (IntKind.u32.wrap ((h2 : Int) + (c_ : Int)))), (264, pt p13 2)] ?_
           have e213 : (IntKind.u32.wrap ((h2 : Int) + (c_ : Int))) = (((h2 + c_) % W32 : Nat) : Int) := w_add _ _
           rw [e213]
           clear e213
           refine GS.tail rfl ?_
           obtain ⟨w214, r215, H216⟩ := H211.st (P := Try.prog) (o := 2) (ty := 22) (v := vw ((h2 + c_) % W32)) 2 rfl (by kernel_rfl) (by show 2 < 8; decide) rfl
           refine GL.u 10 r215 [(2, pt p3 0), (3, pt p9 0), (4, pt p13 0), (7, .slice B_ (b.length + 1 + padZ b.length + 8) C_), (9, vi (64 * j)), (11, pt p154 0), (253, li 2)] ?_
           refine GL.q hK208 ?_
           refine G.region ?_
           refine GL.r 2 2 [(2, pt p3 0), (3, pt p9 0), (4, pt p13 0), (7, .slice B_ (b.length + 1 + padZ b.length + 8) C_), (9, vi (64 * j)), (11, pt p154 0), (253, li 3)] ?_
           refine GL.round rfl ?_
           refine G.sr fun K217 hK218 => ?_
           refine GL.r 1 1 [(2, pt p3 0), (3, pt p9 0), (4, pt p13 0), (7, .slice B_ (b.length + 1 + padZ b.length + 8) C_), (9, vi (64 * j)), (11, pt p154 0), (253, li 3), (254, .bool true)] ?_
           refine GL.q hK218 ?_
           refine G.seqK fun K219 hK220 => ?_
           refine G.yes rfl ?_
           refine G.skipK hK220 (fun _ _ h => h) ?_
           refine G.seqK fun K221 hK222 => ?_
           refine G.block ?_
           refine G.sr fun K223 hK224 => ?_
           refine GL.r 2 2 [(2, pt p3 0), (3, pt p9 0), (4, pt p13 0), (7, .slice B_ (b.length + 1 + padZ b.length + 8) C_), (9, vi (64 * j)), (11, pt p154 0), (15, li 3), (253, li 3)] ?_
           refine GL.q hK224 ?_
           refine G.tail 9 (by kernel_rfl) (by kernel_rfl) ?_
           have H225 := H216.drew
           generalize ({ w214 with drawn := w214.drawn + 1 } : World) = w226 at H225 ⊢
           refine GS.r 3 3 [(2, pt p3 0), (3, pt p9 0), (4, pt p13 0), (7, .slice B_ (b.length + 1 + padZ b.length + 8) C_), (9, vi (64 * j)), (11, pt p154 0), (15, li 3), (253, li 3), (256, li 3), (258, pt p13 3)] ?_
           refine GS.s 4 (H225.ld (o := 3) (ty := 22) (v := vw h3) 2 rfl (by kernel_rfl) rfl) [(2, pt p3 0), (3, pt p9 0), (4, pt p13 0), (7, .slice B_ (b.length + 1 + padZ b.length + 8) C_), (9, vi (64 * j)), (11, pt p154 0), (15, li 3), (253, li 3), (256, li 3), (259, vw h3)] ?_
           refine GS.r 6 2 [(2, pt p3 0), (3, pt p9 0), (4, pt p13 0), (7, .slice B_ (b.length + 1 + padZ b.length + 8) C_), (9, vi (64 * j)), (11, pt p154 0), (253, li 3), (256, li 3), (259, vw h3), (261, pt p154 3)] ?_
           refine GS.s 7 (H225.ld (o := 3) (ty := 22) (v := vw d) 7 rfl (by kernel_rfl) rfl) [(2, pt p3 0), (3, pt p9 0), (4, pt p13 0), (7, .slice B_ (b.length + 1 + padZ b.length + 8) C_), (9, vi (64 * j)), (11, pt p154 0), (253, li 3), (256, li 3), (259, vw h3), (262, vw d)] ?_
           refine GS.r 9 2 [(2, pt p3 0), (3, pt p9 0), (4, pt p13 0), (7, .slice B_ (b.length + 1 + padZ b.length + 8) C_), (9, vi (64 * j)), (11, pt p154 0), (253, li 3), (263, lw (IntKind.u32.wrap ((h3 : Int) + (d : Int)))), (264, pt p13 3)] ?_
           have e227 : (IntKind.u32.wrap ((h3 : Int) + (d : Int))) = (((h3 + d) % W32 : Nat) : Int) := w_add _ _
           rw [e227]
           clear e227
           refine GS.tail rfl ?_
           obtain ⟨w228, r229, H230⟩ := H225.st (P := Try.prog) (o := 3) (ty := 22) (v := vw ((h3 + d) % W32)) 2 rfl (by kernel_rfl) (by show 3 < 8; decide) rfl
           refine GL.u 10 r229 [(2, pt p3 0), (3, pt p9 0), (4, pt p13 0), (7, .slice B_ (b.length + 1 + padZ b.length + 8) C_), (9, vi (64 * j)), (11, pt p154 0), (253, li 3)] ?_
           refine GL.q hK222 ?_
           refine G.region ?_
           refine GL.r 2 2 [(2, pt p3 0), (3, pt p9 0), (4, pt p13 0), (7, .slice B_ (b.length + 1 + padZ b.length + 8) C_), (9, vi (64 * j)), (11, pt p154 0), (253, li 4)] ?_
           refine GL.round rfl ?_
           refine G.sr fun K231 hK232 => ?_
           refine GL.r 1 1 [(2, pt p3 0), (3, pt p9 0), (4, pt p13 0), (7, .slice B_ (b.length + 1 + padZ b.length + 8) C_), (9, vi (64 * j)), (11, pt p154 0), (253, li 4), (254, .bool true)] ?_
           refine GL.q hK232 ?_
           refine G.seqK fun K233 hK234 => ?_
           refine G.yes rfl ?_
           refine G.skipK hK234 (fun _ _ h => h) ?_
           refine G.seqK fun K235 hK236 => ?_
           refine G.block ?_
           refine G.sr fun K237 hK238 => ?_
           refine GL.r 2 2 [(2, pt p3 0), (3, pt p9 0), (4, pt p13 0), (7, .slice B_ (b.length + 1 + padZ b.length + 8) C_), (9, vi (64 * j)), (11, pt p154 0), (15, li 4), (253, li 4)] ?_
           refine GL.q hK238 ?_
           refine G.tail 9 (by kernel_rfl) (by kernel_rfl) ?_
           have H239 := H230.drew
           generalize ({ w228 with drawn := w228.drawn + 1 } : World) = w240 at H239 ⊢
           refine GS.r 3 3 [(2, pt p3 0), (3, pt p9 0), (4, pt p13 0), (7, .slice B_ (b.length + 1 + padZ b.length + 8) C_), (9, vi (64 * j)), (11, pt p154 0), (15, li 4), (253, li 4), (256, li 4), (258, pt p13 4)] ?_
           refine GS.s 4 (H239.ld (o := 4) (ty := 22) (v := vw h4) 2 rfl (by kernel_rfl) rfl) [(2, pt p3 0), (3, pt p9 0), (4, pt p13 0), (7, .slice B_ (b.length + 1 + padZ b.length + 8) C_), (9, vi (64 * j)), (11, pt p154 0), (15, li 4), (253, li 4), (256, li 4), (259, vw h4)] ?_
           refine GS.r 6 2 [(2, pt p3 0), (3, pt p9 0), (4, pt p13 0), (7, .slice B_ (b.length + 1 + padZ b.length + 8) C_), (9, vi (64 * j)), (11, pt p154 0), (253, li 4), (256, li 4), (259, vw h4), (261, pt p154 4)] ?_
           refine GS.s 7 (H239.ld (o := 4) (ty := 22) (v := vw e) 7 rfl (by kernel_rfl) rfl) [(2, pt p3 0), (3, pt p9 0), (4, pt p13 0), (7, .slice B_ (b.length + 1 + padZ b.length + 8) C_), (9, vi (64 * j)), (11, pt p154 0), (253, li 4), (256, li 4), (259, vw h4), (262, vw e)] ?_
           refine GS.r 9 2 [(2, pt p3 0), (3, pt p9 0), (4, pt p13 0), (7, .slice B_ (b.length + 1 + padZ b.length + 8) C_), (9, vi (64 * j)), (11, pt p154 0), (253, li 4), (263, lw (IntKind.u32.wrap ((h4 : Int) + (e : Int)))), (264, pt p13 4)] ?_
           have e241 : (IntKind.u32.wrap ((h4 : Int) + (e : Int))) = (((h4 + e) % W32 : Nat) : Int) := w_add _ _
           rw [e241]
           clear e241
           refine GS.tail rfl ?_
           obtain ⟨w242, r243, H244⟩ := H239.st (P := Try.prog) (o := 4) (ty := 22) (v := vw ((h4 + e) % W32)) 2 rfl (by kernel_rfl) (by show 4 < 8; decide) rfl
           refine GL.u 10 r243 [(2, pt p3 0), (3, pt p9 0), (4, pt p13 0), (7, .slice B_ (b.length + 1 + padZ b.length + 8) C_), (9, vi (64 * j)), (11, pt p154 0), (253, li 4)] ?_
           refine GL.q hK236 ?_
           refine G.region ?_
           refine GL.r 2 2 [(2, pt p3 0), (3, pt p9 0), (4, pt p13 0), (7, .slice B_ (b.length + 1 + padZ b.length + 8) C_), (9, vi (64 * j)), (11, pt p154 0), (253, li 5)] ?_
           refine GL.round rfl ?_
           refine G.sr fun K245 hK246 => ?_
           refine GL.r 1 1 [(2, pt p3 0), (3, pt p9 0), (4, pt p13 0), (7, .slice B_ (b.length + 1 + padZ b.length + 8) C_), (9, vi (64 * j)), (11, pt p154 0), (253, li 5), (254, .bool true)] ?_
           refine GL.q hK246 ?_
           refine G.seqK fun K247 hK248 => ?_
           refine G.yes rfl ?_
           refine G.skipK hK248 (fun _ _ h => h) ?_
           refine G.seqK fun K249 hK250 => ?_
           refine G.block ?_
           refine G.sr fun K251 hK252 => ?_
           refine GL.r 2 2 [(2, pt p3 0), (3, pt p9 0), (4, pt p13 0), (7, .slice B_ (b.length + 1 + padZ b.length + 8) C_), (9, vi (64 * j)), (11, pt p154 0), (15, li 5), (253, li 5)] ?_
           refine GL.q hK252 ?_
           refine G.tail 9 (by kernel_rfl) (by kernel_rfl) ?_
           have H253 := H244.drew
           generalize ({ w242 with drawn := w242.drawn + 1 } : World) = w254 at H253 ⊢
           refine GS.r 3 3 [(2, pt p3 0), (3, pt p9 0), (4, pt p13 0), (7, .slice B_ (b.length + 1 + padZ b.length + 8) C_), (9, vi (64 * j)), (11, pt p154 0), (15, li 5), (253, li 5), (256, li 5), (258, pt p13 5)] ?_
           refine GS.s 4 (H253.ld (o := 5) (ty := 22) (v := vw h5) 2 rfl (by kernel_rfl) rfl) [(2, pt p3 0), (3, pt p9 0), (4, pt p13 0), (7, .slice B_ (b.length + 1 + padZ b.length + 8) C_), (9, vi (64 * j)), (11, pt p154 0), (15, li 5), (253, li 5), (256, li 5), (259, vw h5)] ?_
           refine GS.r 6 2 [(2, pt p3 0), (3, pt p9 0), (4, pt p13 0), (7, .slice B_ (b.length + 1 + padZ b.length + 8) C_), (9, vi (64 * j)), (11, pt p154 0), (253, li 5), (256, li 5), (259, vw h5), (261, pt p154 5)] ?_
           refine GS.s 7 (H253.ld (o := 5) (ty := 22) (v := vw f) 7 rfl (by kernel_rfl) rfl) [(2, pt p3 0), (3, pt p9 0), (4, pt p13 0), (7, .slice B_ (b.length + 1 + padZ b.length + 8) C_), (9, vi (64 * j)), (11, pt p154 0), (253, li 5), (256, li 5), (259, vw h5), (262, vw f)] ?_
           refine GS.r 9 2 [(2, pt p3 0), (3, pt p9 0), (4, pt p13 0), (7, .slice B_ (b.length + 1 + padZ b.length + 8) C_), (9, vi (64 * j)), (11, pt p154 0), (253, li 5), (263, lw (IntKind.u32.wrap ((h5 : Int) + (f : Int)))), (264, pt p13 5)] ?_
           have e255 : (IntKind.u32.wrap ((h5 : Int) + (f : Int))) = (((h5 + f) % W32 : Nat) : Int) := w_add _ _
           rw [e255]
           clear e255
           refine GS.tail rfl ?_
           obtain ⟨w256, r257, H258⟩ := H253.st (P := Try.prog) (o := 5) (ty := 22) (v := vw ((h5 + f) % W32)) 2 rfl (by kernel_rfl) (by show 5 < 8; decide) rfl
           refine GL.u 10 r257 [(2, pt p3 0), (3, pt p9 0), (4, pt p13 0), (7, .slice B_ (b.length + 1 + padZ b.length + 8) C_), (9, vi (64 * j)), (11, pt p154 0), (253, li 5)] ?_
           refine GL.q hK250 ?_
           refine G.region ?_
           refine GL.r 2 2 [(2, pt p3 0), (3, pt p9 0), (4, pt p13 0), (7, .slice B_ (b.length + 1 + padZ b.length + 8) C_), (9, vi (64 * j)), (11, pt p154 0), (253, li 6)] ?_
           refine GL.round rfl ?_
           refine G.sr fun K259 hK260 => ?_
           refine GL.r 1 1 [(2, pt p3 0), (3, pt p9 0), (4, pt p13 0), (7, .slice B_ (b.length + 1 + padZ b.length + 8) C_), (9, vi (64 * j)), (11, pt p154 0), (253, li 6), (254, .bool true)] ?_
           refine GL.q hK260 ?_
           refine G.seqK fun K261 hK262 => ?_
           refine G.yes rfl ?_
           refine G.skipK hK262 (fun _ _ h => h) ?_
           refine G.seqK fun K263 hK264 => ?_
           refine G.block ?_
           refine G.sr fun K265 hK266 => ?_
           refine GL.r 2 2 [(2, pt p3 0), (3, pt p9 0), (4, pt p13 0), (7, .slice B_ (b.length + 1 + padZ b.length + 8) C_), (9, vi (64 * j)), (11, pt p154 0), (15, li 6), (253, li 6)] ?_
           refine GL.q hK266 ?_
           refine G.tail 9 (by kernel_rfl) (by kernel_rfl) ?_
           have H267 := H258.drew
           generalize ({ w256 with drawn := w256.drawn + 1 } : World) = w268 at H267 ⊢
           refine GS.r 3 3 [(2, pt p3 0), (3, pt p9 0), (4, pt p13 0), (7, .slice B_ (b.length + 1 + padZ b.length + 8) C_), (9, vi (64 * j)), (11, pt p154 0), (15, li 6), (253, li 6), (256, li 6), (258, pt p13 6)] ?_
           refine GS.s 4 (H267.ld (o := 6) (ty := 22) (v := vw h6) 2 rfl (by kernel_rfl) rfl) [(2, pt p3 0), (3, pt p9 0), (4, pt p13 0), (7, .slice B_ (b.length + 1 + padZ b.length + 8) C_), (9, vi (64 * j)), (11, pt p154 0), (15, li 6), (253, li 6), (256, li 6), (259, vw h6)] ?_
           refine GS.r 6 2 [(2, pt p3 0), (3, pt p9 0), (4, pt p13 0), (7, .slice B_ (b.length + 1 + padZ b.length + 8) C_), (9, vi (64 * j)), (11, pt p154 0), (253, li 6), (256, li 6), (259, vw h6), (261, pt p154 6)] ?_
           refine GS.s 7 (H267.ld (o := 6) (ty := 22) (v := vw g) 7 rfl (by kernel_rfl) rfl) [(2, pt p3 0), (3, pt p9 0), (4, pt p13 0), (7, .slice B_ (b.length + 1 + padZ b.length + 8) C_), (9, vi (64 * j)), (11, pt p154 0), (253, li 6), (256, li 6), (259, vw h6), (262, vw g)] ?_
           refine GS.r 9 2 [(2, pt p3 0), (3, pt p9 0), (4, pt p13 0), (7, .slice B_ (b.length + 1 + padZ b.length + 8) C_), (9, vi (64 * j)), (11, pt p154 0), (253, li 6), (263, lw (IntKind.u32.wrap ((h6 : Int) + (g : Int)))), (264, pt p13 6)] ?_
           have e269 : (IntKind.u32.wrap ((h6 : Int) + (g : Int))) = (((h6 + g) % W32 : Nat) : Int) := w_add _ _
           rw [e269]
           clear e269
           refine GS.tail rfl ?_
           obtain ⟨w270, r271, H272⟩ := H267.st (P := Try.prog) (o := 6) (ty := 22) (v := vw ((h6 + g) % W32)) 2 rfl (by kernel_rfl) (by show 6 < 8; decide) rfl
           refine GL.u 10 r271 [(2, pt p3 0), (3, pt p9 0), (4, pt p13 0), (7, .slice B_ (b.length + 1 + padZ b.length + 8) C_), (9, vi (64 * j)), (11, pt p154 0), (253, li 6)] ?_
           refine GL.q hK264 ?_
           refine G.region ?_
           refine GL.r 2 2 [(2, pt p3 0), (3, pt p9 0), (4, pt p13 0), (7, .slice B_ (b.length + 1 + padZ b.length + 8) C_), (9, vi (64 * j)), (11, pt p154 0), (253, li 7)] ?_
           refine GL.round rfl ?_
           refine G.sr fun K273 hK274 => ?_
           refine GL.r 1 1 [(2, pt p3 0), (3, pt p9 0), (4, pt p13 0), (7, .slice B_ (b.length + 1 + padZ b.length + 8) C_), (9, vi (64 * j)), (11, pt p154 0), (253, li 7), (254, .bool true)] ?_
           refine GL.q hK274 ?_
           refine G.seqK fun K275 hK276 => ?_
           refine G.yes rfl ?_
           refine G.skipK hK276 (fun _ _ h => h) ?_
           refine G.seqK fun K277 hK278 => ?_
           refine G.block ?_
           refine G.sr fun K279 hK280 => ?_
           refine GL.r 2 2 [(2, pt p3 0), (3, pt p9 0), (4, pt p13 0), (7, .slice B_ (b.length + 1 + padZ b.length + 8) C_), (9, vi (64 * j)), (11, pt p154 0), (15, li 7), (253, li 7)] ?_
           refine GL.q hK280 ?_
           refine G.tail 9 (by kernel_rfl) (by kernel_rfl) ?_
           have H281 := H272.drew
           generalize ({ w270 with drawn := w270.drawn + 1 } : World) = w282 at H281 ⊢
           refine GS.r 3 3 [(2, pt p3 0), (3, pt p9 0), (4, pt p13 0), (7, .slice B_ (b.length + 1 + padZ b.length + 8) C_), (9, vi (64 * j)), (11, pt p154 0), (15, li 7), (253, li 7), (256, li 7), (258, pt p13 7)] ?_
           refine GS.s 4 (H281.ld (o := 7) (ty := 22) (v := vw h7) 2 rfl (by kernel_rfl) rfl) [(2, pt p3 0), (3, pt p9 0), (4, pt p13 0), (7, .slice B_ (b.length + 1 + padZ b.length + 8) C_), (9, vi (64 * j)), (11, pt p154 0), (15, li 7), (253, li 7), (256, li 7), (259, vw h7)] ?_
           refine GS.r 6 2 [(2, pt p3 0), (3, pt p9 0), (4, pt p13 0), (7, .slice B_ (b.length + 1 + padZ b.length + 8) C_), (9, vi (64 * j)), (11, pt p154 0), (253, li 7), (256, li 7), (259, vw h7), (261, pt p154 7)] ?_
           refine GS.s 7 (H281.ld (o := 7) (ty := 22) (v := vw h) 7 rfl (by kernel_rfl) rfl) [(2, pt p3 0), (3, pt p9 0), (4, pt p13 0), (7, .slice B_ (b.length + 1 + padZ b.length + 8) C_), (9, vi (64 * j)), (11, pt p154 0), (253, li 7), (256, li 7), (259, vw h7), (262, vw h)] ?_
           refine GS.r 9 2 [(2, pt p3 0), (3, pt p9 0), (4, pt p13 0), (7, .slice B_ (b.length + 1 + padZ b.length + 8) C_), (9, vi (64 * j)), (11, pt p154 0), (253, li 7), (263, lw (IntKind.u32.wrap ((h7 : Int) + (h : Int)))), (264, pt p13 7)] ?_
           have e283 : (IntKind.u32.wrap ((h7 : Int) + (h : Int))) = (((h7 + h) % W32 : Nat) : Int) := w_add _ _
           rw [e283]
           clear e283
           refine GS.tail rfl ?_
           obtain ⟨w284, r285, H286⟩ := H281.st (P := Try.prog) (o := 7) (ty := 22) (v := vw ((h7 + h) % W32)) 2 rfl (by kernel_rfl) (by show 7 < 8; decide) rfl
           refine GL.u 10 r285 [(2, pt p3 0), (3, pt p9 0), (4, pt p13 0), (7, .slice B_ (b.length + 1 + padZ b.length + 8) C_), (9, vi (64 * j)), (11, pt p154 0), (253, li 7)] ?_
           refine GL.q hK278 ?_
           refine G.region ?_
           refine GL.r 2 2 [(2, pt p3 0), (3, pt p9 0), (4, pt p13 0), (7, .slice B_ (b.length + 1 + padZ b.length + 8) C_), (9, vi (64 * j)), (11, pt p154 0), (253, li 8)] ?_
           refine GL.round rfl ?_
           refine G.sr fun K287 hK288 => ?_
           refine GL.r 1 1 [(2, pt p3 0), (3, pt p9 0), (4, pt p13 0), (7, .slice B_ (b.length + 1 + padZ b.length + 8) C_), (9, vi (64 * j)), (11, pt p154 0), (253, li 8), (254, .bool false)] ?_
           refine GL.q hK288 ?_
           refine G.seqK fun K289 hK290 => ?_
           refine G.no rfl ?_
           refine G.exitK hK142 (fun _ _ h => h) ?_
           refine G.region ?_
           refine GL.r 3 3 [(2, pt p3 0), (3, pt p9 0), (4, pt p13 0), (7, .slice B_ (b.length + 1 + padZ b.length + 8) C_), (9, li (IntKind.i64.wrap ((((64 * j) : Nat) : Int) + 64)))] ?_
           have e291 : (IntKind.i64.wrap ((((64 * j) : Nat) : Int) + 64)) = (((64 * j) + 64 : Nat) : Int) := by rw [in_i64 (by omega)]; omega
           rw [e291]
           clear e291
           have H292 : Hp w [] [.blk p3 (by8 (bsP (outB (blocks (padM b) ((padM b).length / 64))) 32 0)) 23, .blk p9 (u32s KT) 96, .blk p13 (c8 ((h0 + a) % W32) ((h1 + b_) % W32) ((h2 + c_) % W32) ((h3 + d) % W32) ((h4 + e) % W32) ((h5 + f) % W32) ((h6 + g) % W32) ((h7 + h) % W32)) 97, .row A27 64 c28 31 1 (dg PR), .row B_ (b.length + 1 + padZ b.length + 8) C_ 5 1 (by8 (padM b)), .row (some ⟨p53, 0, none⟩) 1 1 5 1 (by8 ([128] : List UInt8))] w284 := H286.sub (List.Sublist.cons_cons _ (List.Sublist.cons_cons _ (List.Sublist.cons_cons _ (List.Sublist.cons_cons _ (List.Sublist.cons_cons _ (List.Sublist.cons_cons _ (List.Sublist.cons _ (List.Sublist.cons _ (List.Sublist.slnil)))))))))
           have hnx : ((h0 + a) % W32, (h1 + b_) % W32, (h2 + c_) % W32, (h3 + d) % W32, (h4 + e) % W32, (h5 + f) % W32, (h6 + g) % W32, (h7 + h) % W32) = blocks (padM b) (j + 1) := by rw [blocks, ← hp, ← hhv, blockF, ← (show t = 64 by omega), ← hv8]; rfl
           refine GL.fit (ts := [2, 3, 4, 7, 9]) (M' := [(2, pt p3 0), (3, pt p9 0), (4, pt p13 0), (7, .slice B_ (b.length + 1 + padZ b.length + 8) C_), (9, vi ((64 * j) + 64))]) (by kernel_rfl) ?_
           refine GL.eq (M' := [(2, pt p3 0), (3, pt p9 0), (4, pt p13 0), (7, .slice B_ (b.length + 1 + padZ b.length + 8) C_), (9, vi (64 * (j + 1)))]) (by rw [show 64 * j + 64 = 64 * (j + 1) by omega]) ?_
           exact GL.again ⟨(j + 1), (h0 + a) % W32, (h1 + b_) % W32, (h2 + c_) % W32, (h3 + d) % W32, (h4 + e) % W32, (h5 + f) % W32, (h6 + g) % W32, (h7 + h) % W32⟩ [2, 3, 4, 7, 9] rfl (by kernel_rfl) (by show ((padM b).length / 64) - (j + 1) < ((padM b).length / 64) - j; omega) ⟨⟨by omega, hnx⟩, H292⟩
         · skip
           have hb172f := of_decide_eq_true hb172
           refine G.yes rfl ?_
           refine G.skipK hK169 (fun _ _ h => h) ?_
           refine G.seqK fun K293 hK294 => ?_
           refine G.block ?_
           refine G.seqJ (X := Unit) (fun u_ => [(2, pt p3 0), (3, pt p9 0), (4, pt p13 0), (7, .slice B_ (b.length + 1 + padZ b.length + 8) C_), (9, vi (64 * j)), (10, pt p145 0), (11, pt p154 0), (12, vi t)]) (fun u_ w_ => (True) ∧ Hp w [] [.blk p3 (by8 (bsP (outB (blocks (padM b) ((padM b).length / 64))) 32 0)) 23, .blk p9 (u32s KT) 96, .blk p13 (c8 h0 h1 h2 h3 h4 h5 h6 h7) 97, .row A27 64 c28 31 1 (dg PR), .row B_ (b.length + 1 + padZ b.length + 8) C_ 5 1 (by8 (padM b)), .row (some ⟨p53, 0, none⟩) 1 1 5 1 (by8 ([128] : List UInt8)), .blk p145 (u32s (wsP p (t + 1))) 96, .blk p154 (c8 a b_ c_ d e f g h) 97] w_) (fun J295 K296 hK297 => ?_) ?_
           · skip
             refine G.sr fun K298 hK299 => ?_
             refine GL.r 2 2 [(2, pt p3 0), (3, pt p9 0), (4, pt p13 0), (7, .slice B_ (b.length + 1 + padZ b.length + 8) C_), (9, vi (64 * j)), (10, pt p145 0), (11, pt p154 0), (12, vi t), (78, .bool (decide ((t : Int) < 16)))] ?_
             refine GL.q hK299 ?_
             cases hb300 : (decide ((t : Int) < 16))
             · skip
               have hb300f := of_decide_eq_false hb300
               have H301 : Hp w [] [.blk p3 (by8 (bsP (outB (blocks (padM b) ((padM b).length / 64))) 32 0)) 23, .blk p9 (u32s KT) 96, .blk p13 (c8 h0 h1 h2 h3 h4 h5 h6 h7) 97, .row A27 64 c28 31 1 (dg PR), .row B_ (b.length + 1 + padZ b.length + 8) C_ 5 1 (by8 (padM b)), .row (some ⟨p53, 0, none⟩) 1 1 5 1 (by8 ([128] : List UInt8)), .blk p145 (u32s (List.set (wsP p t) t 0)) 96, .blk p154 (c8 a b_ c_ d e f g h) 97] w165 := by rw [wsP_none (by omega)]; exact H167
               refine G.no rfl ?_
               refine G.heldP (fun w_ => ∃ z_ : Nat, Hp w [] [.blk p3 (by8 (bsP (outB (blocks (padM b) ((padM b).length / 64))) 32 0)) 23, .blk p9 (u32s KT) 96, .blk p13 (c8 h0 h1 h2 h3 h4 h5 h6 h7) 97, .row A27 64 c28 31 1 (dg PR), .row B_ (b.length + 1 + padZ b.length + 8) C_ 5 1 (by8 (padM b)), .row (some ⟨p53, 0, none⟩) 1 1 5 1 (by8 ([128] : List UInt8)), .blk p145 (u32s (List.set (wsP p t) t z_)) 96, .blk p154 (c8 a b_ c_ d e f g h) 97] w_) (by kernel_rfl) (by kernel_rfl) (fun c_ a_ d_ v_ w_ h_ => hPan c_ a_ d_ v_ w_ h_) ?_
               have H302 := H301.drew
               generalize ({ w165 with drawn := w165.drawn + 1 } : World) = w303 at H302 ⊢
               have hS304 : ∃ z_ : Nat, Hp w [] [.blk p3 (by8 (bsP (outB (blocks (padM b) ((padM b).length / 64))) 32 0)) 23, .blk p9 (u32s KT) 96, .blk p13 (c8 h0 h1 h2 h3 h4 h5 h6 h7) 97, .row A27 64 c28 31 1 (dg PR), .row B_ (b.length + 1 + padZ b.length + 8) C_ 5 1 (by8 (padM b)), .row (some ⟨p53, 0, none⟩) 1 1 5 1 (by8 ([128] : List UInt8)), .blk p145 (u32s (List.set (wsP p t) t z_)) 96, .blk p154 (c8 a b_ c_ d e f g h) 97] w303 := ⟨0, H302.sub (List.Sublist.cons_cons _ (List.Sublist.cons_cons _ (List.Sublist.cons_cons _ (List.Sublist.cons_cons _ (List.Sublist.cons_cons _ (List.Sublist.cons_cons _ (List.Sublist.cons_cons _ (List.Sublist.cons_cons _ (List.Sublist.slnil)))))))))⟩
               refine GP.r [0, 1, 2] [(2, pt p3 0), (3, pt p9 0), (4, pt p13 0), (7, .slice B_ (b.length + 1 + padZ b.length + 8) C_), (9, vi (64 * j)), (10, pt p145 0), (11, pt p154 0), (12, vi t), (122, vi t), (124, li (IntKind.i64.wrap ((t : Int) - 2)))] [0, 1, 2] hS304 ?_
               have e305 : (IntKind.i64.wrap ((t : Int) - 2)) = (((t - 2) : Nat) : Int) := by rw [in_i64 (by omega)]; omega
               refine GP.eq (M' := [(2, pt p3 0), (3, pt p9 0), (4, pt p13 0), (7, .slice B_ (b.length + 1 + padZ b.length + 8) C_), (9, vi (64 * j)), (10, pt p145 0), (11, pt p154 0), (12, vi t), (122, vi t), (124, vi (t - 2))]) (by rw [e305]) ?_
               clear e305
               refine GP.s 3 (fun w_ ⟨_, H_⟩ => run_idxArr (P := Try.prog) (k := .i64) (t := 96) (len := 64) (sz := 1) (b := p145) (o := 0) (j := (t - 2)) (by kernel_rfl) rfl (by omega)) [(2, pt p3 0), (3, pt p9 0), (4, pt p13 0), (7, .slice B_ (b.length + 1 + padZ b.length + 8) C_), (9, vi (64 * j)), (10, pt p145 0), (11, pt p154 0), (12, vi t), (122, vi t), (125, pt p145 (0 + (t - 2) * 1))] hS304 ?_
               refine GP.s 4 (fun w_ ⟨_, H_⟩ => H_.ld (o := (0 + (t - 2) * 1)) (ty := 22) (v := vw ((wsN p t).getD (t - 2) 0)) 6 rfl (by kernel_rfl) (by rw [show (0 + (t - 2) * 1) = (t - 2) by omega]; exact u32s_at ((List.getElem?_set_ne (by omega)).trans (wsP_at (by omega) (by omega))))) [(2, pt p3 0), (3, pt p9 0), (4, pt p13 0), (7, .slice B_ (b.length + 1 + padZ b.length + 8) C_), (9, vi (64 * j)), (10, pt p145 0), (11, pt p154 0), (12, vi t), (122, vi t), (126, vw ((wsN p t).getD (t - 2) 0))] hS304 ?_
               refine GP.r [6, 7] [(2, pt p3 0), (3, pt p9 0), (4, pt p13 0), (7, .slice B_ (b.length + 1 + padZ b.length + 8) C_), (9, vi (64 * j)), (10, pt p145 0), (11, pt p154 0), (12, vi t), (122, vi t), (126, vw ((wsN p t).getD (t - 2) 0)), (129, li (IntKind.i64.wrap ((t : Int) - 2)))] [0, 1, 2, 3, 4, 6, 7] hS304 ?_
               have e306 : (IntKind.i64.wrap ((t : Int) - 2)) = (((t - 2) : Nat) : Int) := by rw [in_i64 (by omega)]; omega
               refine GP.eq (M' := [(2, pt p3 0), (3, pt p9 0), (4, pt p13 0), (7, .slice B_ (b.length + 1 + padZ b.length + 8) C_), (9, vi (64 * j)), (10, pt p145 0), (11, pt p154 0), (12, vi t), (122, vi t), (126, vw ((wsN p t).getD (t - 2) 0)), (129, vi (t - 2))]) (by rw [e306]) ?_
               clear e306
               refine GP.s 8 (fun w_ ⟨_, H_⟩ => run_idxArr (P := Try.prog) (k := .i64) (t := 96) (len := 64) (sz := 1) (b := p145) (o := 0) (j := (t - 2)) (by kernel_rfl) rfl (by omega)) [(2, pt p3 0), (3, pt p9 0), (4, pt p13 0), (7, .slice B_ (b.length + 1 + padZ b.length + 8) C_), (9, vi (64 * j)), (10, pt p145 0), (11, pt p154 0), (12, vi t), (122, vi t), (126, vw ((wsN p t).getD (t - 2) 0)), (130, pt p145 (0 + (t - 2) * 1))] hS304 ?_
               refine GP.s 9 (fun w_ ⟨_, H_⟩ => H_.ld (o := (0 + (t - 2) * 1)) (ty := 22) (v := vw ((wsN p t).getD (t - 2) 0)) 6 rfl (by kernel_rfl) (by rw [show (0 + (t - 2) * 1) = (t - 2) by omega]; exact u32s_at ((List.getElem?_set_ne (by omega)).trans (wsP_at (by omega) (by omega))))) [(2, pt p3 0), (3, pt p9 0), (4, pt p13 0), (7, .slice B_ (b.length + 1 + padZ b.length + 8) C_), (9, vi (64 * j)), (10, pt p145 0), (11, pt p154 0), (12, vi t), (122, vi t), (126, vw ((wsN p t).getD (t - 2) 0)), (131, vw ((wsN p t).getD (t - 2) 0))] hS304 ?_
               refine GP.r [12, 13] [(2, pt p3 0), (3, pt p9 0), (4, pt p13 0), (7, .slice B_ (b.length + 1 + padZ b.length + 8) C_), (9, vi (64 * j)), (10, pt p145 0), (11, pt p154 0), (12, vi t), (122, vi t), (126, vw ((wsN p t).getD (t - 2) 0)), (131, vw ((wsN p t).getD (t - 2) 0)), (135, li (IntKind.i64.wrap ((t : Int) - 2)))] [0, 1, 2, 3, 4, 6, 7, 8, 9, 12, 13] hS304 ?_
               have e307 : (IntKind.i64.wrap ((t : Int) - 2)) = (((t - 2) : Nat) : Int) := by rw [in_i64 (by omega)]; omega
               refine GP.eq (M' := [(2, pt p3 0), (3, pt p9 0), (4, pt p13 0), (7, .slice B_ (b.length + 1 + padZ b.length + 8) C_), (9, vi (64 * j)), (10, pt p145 0), (11, pt p154 0), (12, vi t), (122, vi t), (126, vw ((wsN p t).getD (t - 2) 0)), (131, vw ((wsN p t).getD (t - 2) 0)), (135, vi (t - 2))]) (by rw [e307]) ?_
               clear e307
               refine GP.s 14 (fun w_ ⟨_, H_⟩ => run_idxArr (P := Try.prog) (k := .i64) (t := 96) (len := 64) (sz := 1) (b := p145) (o := 0) (j := (t - 2)) (by kernel_rfl) rfl (by omega)) [(2, pt p3 0), (3, pt p9 0), (4, pt p13 0), (7, .slice B_ (b.length + 1 + padZ b.length + 8) C_), (9, vi (64 * j)), (10, pt p145 0), (11, pt p154 0), (12, vi t), (122, vi t), (126, vw ((wsN p t).getD (t - 2) 0)), (131, vw ((wsN p t).getD (t - 2) 0)), (136, pt p145 (0 + (t - 2) * 1))] hS304 ?_
               refine GP.s 15 (fun w_ ⟨_, H_⟩ => H_.ld (o := (0 + (t - 2) * 1)) (ty := 22) (v := vw ((wsN p t).getD (t - 2) 0)) 6 rfl (by kernel_rfl) (by rw [show (0 + (t - 2) * 1) = (t - 2) by omega]; exact u32s_at ((List.getElem?_set_ne (by omega)).trans (wsP_at (by omega) (by omega))))) [(2, pt p3 0), (3, pt p9 0), (4, pt p13 0), (7, .slice B_ (b.length + 1 + padZ b.length + 8) C_), (9, vi (64 * j)), (10, pt p145 0), (11, pt p154 0), (12, vi t), (122, vi t), (126, vw ((wsN p t).getD (t - 2) 0)), (131, vw ((wsN p t).getD (t - 2) 0)), (137, vw ((wsN p t).getD (t - 2) 0))] hS304 ?_
               refine GP.r [16, 18, 19] [(2, pt p3 0), (3, pt p9 0), (4, pt p13 0), (7, .slice B_ (b.length + 1 + padZ b.length + 8) C_), (9, vi (64 * j)), (10, pt p145 0), (11, pt p154 0), (12, vi t), (122, vi t), (126, vw ((wsN p t).getD (t - 2) 0)), (131, vw ((wsN p t).getD (t - 2) 0)), (138, lw (Int.fdiv ((((wsN p t).getD (t - 2) 0) : Nat) : Int) (2 ^ 10))), (141, li (IntKind.i64.wrap ((t : Int) - 7)))] [0, 1, 2, 3, 4, 6, 7, 8, 9, 12, 13, 14, 15, 16, 18, 19] hS304 ?_
               have e308 : (Int.fdiv ((((wsN p t).getD (t - 2) 0) : Nat) : Int) (2 ^ 10)) = (((((wsN p t).getD (t - 2) 0) / 2 ^ 10) : Nat) : Int) := n_shr _ 10
               have e309 : (IntKind.i64.wrap ((t : Int) - 7)) = (((t - 7) : Nat) : Int) := by rw [in_i64 (by omega)]; omega
               refine GP.eq (M' := [(2, pt p3 0), (3, pt p9 0), (4, pt p13 0), (7, .slice B_ (b.length + 1 + padZ b.length + 8) C_), (9, vi (64 * j)), (10, pt p145 0), (11, pt p154 0), (12, vi t), (122, vi t), (126, vw ((wsN p t).getD (t - 2) 0)), (131, vw ((wsN p t).getD (t - 2) 0)), (138, vw (((wsN p t).getD (t - 2) 0) / 2 ^ 10)), (141, vi (t - 7))]) (by rw [e308, e309]) ?_
               clear e308 e309
               refine GP.s 20 (fun w_ ⟨_, H_⟩ => run_idxArr (P := Try.prog) (k := .i64) (t := 96) (len := 64) (sz := 1) (b := p145) (o := 0) (j := (t - 7)) (by kernel_rfl) rfl (by omega)) [(2, pt p3 0), (3, pt p9 0), (4, pt p13 0), (7, .slice B_ (b.length + 1 + padZ b.length + 8) C_), (9, vi (64 * j)), (10, pt p145 0), (11, pt p154 0), (12, vi t), (122, vi t), (126, vw ((wsN p t).getD (t - 2) 0)), (131, vw ((wsN p t).getD (t - 2) 0)), (138, vw (((wsN p t).getD (t - 2) 0) / 2 ^ 10)), (142, pt p145 (0 + (t - 7) * 1))] hS304 ?_
               refine GP.s 21 (fun w_ ⟨_, H_⟩ => H_.ld (o := (0 + (t - 7) * 1)) (ty := 22) (v := vw ((wsN p t).getD (t - 7) 0)) 6 rfl (by kernel_rfl) (by rw [show (0 + (t - 7) * 1) = (t - 7) by omega]; exact u32s_at ((List.getElem?_set_ne (by omega)).trans (wsP_at (by omega) (by omega))))) [(2, pt p3 0), (3, pt p9 0), (4, pt p13 0), (7, .slice B_ (b.length + 1 + padZ b.length + 8) C_), (9, vi (64 * j)), (10, pt p145 0), (11, pt p154 0), (12, vi t), (122, vi t), (126, vw ((wsN p t).getD (t - 2) 0)), (131, vw ((wsN p t).getD (t - 2) 0)), (138, vw (((wsN p t).getD (t - 2) 0) / 2 ^ 10)), (143, vw ((wsN p t).getD (t - 7) 0))] hS304 ?_
               refine GP.r [23, 24] [(2, pt p3 0), (3, pt p9 0), (4, pt p13 0), (7, .slice B_ (b.length + 1 + padZ b.length + 8) C_), (9, vi (64 * j)), (10, pt p145 0), (11, pt p154 0), (12, vi t), (122, vi t), (126, vw ((wsN p t).getD (t - 2) 0)), (131, vw ((wsN p t).getD (t - 2) 0)), (138, vw (((wsN p t).getD (t - 2) 0) / 2 ^ 10)), (143, vw ((wsN p t).getD (t - 7) 0)), (146, li (IntKind.i64.wrap ((t : Int) - 15)))] [0, 1, 2, 3, 4, 6, 7, 8, 9, 12, 13, 14, 15, 16, 18, 19, 20, 21, 23, 24] hS304 ?_
               have e310 : (IntKind.i64.wrap ((t : Int) - 15)) = (((t - 15) : Nat) : Int) := by rw [in_i64 (by omega)]; omega
               refine GP.eq (M' := [(2, pt p3 0), (3, pt p9 0), (4, pt p13 0), (7, .slice B_ (b.length + 1 + padZ b.length + 8) C_), (9, vi (64 * j)), (10, pt p145 0), (11, pt p154 0), (12, vi t), (122, vi t), (126, vw ((wsN p t).getD (t - 2) 0)), (131, vw ((wsN p t).getD (t - 2) 0)), (138, vw (((wsN p t).getD (t - 2) 0) / 2 ^ 10)), (143, vw ((wsN p t).getD (t - 7) 0)), (146, vi (t - 15))]) (by rw [e310]) ?_
               clear e310
               refine GP.s 25 (fun w_ ⟨_, H_⟩ => run_idxArr (P := Try.prog) (k := .i64) (t := 96) (len := 64) (sz := 1) (b := p145) (o := 0) (j := (t - 15)) (by kernel_rfl) rfl (by omega)) [(2, pt p3 0), (3, pt p9 0), (4, pt p13 0), (7, .slice B_ (b.length + 1 + padZ b.length + 8) C_), (9, vi (64 * j)), (10, pt p145 0), (11, pt p154 0), (12, vi t), (122, vi t), (126, vw ((wsN p t).getD (t - 2) 0)), (131, vw ((wsN p t).getD (t - 2) 0)), (138, vw (((wsN p t).getD (t - 2) 0) / 2 ^ 10)), (143, vw ((wsN p t).getD (t - 7) 0)), (147, pt p145 (0 + (t - 15) * 1))] hS304 ?_
               refine GP.s 26 (fun w_ ⟨_, H_⟩ => H_.ld (o := (0 + (t - 15) * 1)) (ty := 22) (v := vw ((wsN p t).getD (t - 15) 0)) 6 rfl (by kernel_rfl) (by rw [show (0 + (t - 15) * 1) = (t - 15) by omega]; exact u32s_at ((List.getElem?_set_ne (by omega)).trans (wsP_at (by omega) (by omega))))) [(2, pt p3 0), (3, pt p9 0), (4, pt p13 0), (7, .slice B_ (b.length + 1 + padZ b.length + 8) C_), (9, vi (64 * j)), (10, pt p145 0), (11, pt p154 0), (12, vi t), (122, vi t), (126, vw ((wsN p t).getD (t - 2) 0)), (131, vw ((wsN p t).getD (t - 2) 0)), (138, vw (((wsN p t).getD (t - 2) 0) / 2 ^ 10)), (143, vw ((wsN p t).getD (t - 7) 0)), (148, vw ((wsN p t).getD (t - 15) 0))] hS304 ?_
               refine GP.r [28, 29] [(2, pt p3 0), (3, pt p9 0), (4, pt p13 0), (7, .slice B_ (b.length + 1 + padZ b.length + 8) C_), (9, vi (64 * j)), (10, pt p145 0), (11, pt p154 0), (12, vi t), (122, vi t), (126, vw ((wsN p t).getD (t - 2) 0)), (131, vw ((wsN p t).getD (t - 2) 0)), (138, vw (((wsN p t).getD (t - 2) 0) / 2 ^ 10)), (143, vw ((wsN p t).getD (t - 7) 0)), (148, vw ((wsN p t).getD (t - 15) 0)), (151, li (IntKind.i64.wrap ((t : Int) - 15)))] [0, 1, 2, 3, 4, 6, 7, 8, 9, 12, 13, 14, 15, 16, 18, 19, 20, 21, 23, 24, 25, 26, 28, 29] hS304 ?_
               have e311 : (IntKind.i64.wrap ((t : Int) - 15)) = (((t - 15) : Nat) : Int) := by rw [in_i64 (by omega)]; omega
               refine GP.eq (M' := [(2, pt p3 0), (3, pt p9 0), (4, pt p13 0), (7, .slice B_ (b.length + 1 + padZ b.length + 8) C_), (9, vi (64 * j)), (10, pt p145 0), (11, pt p154 0), (12, vi t), (122, vi t), (126, vw ((wsN p t).getD (t - 2) 0)), (131, vw ((wsN p t).getD (t - 2) 0)), (138, vw (((wsN p t).getD (t - 2) 0) / 2 ^ 10)), (143, vw ((wsN p t).getD (t - 7) 0)), (148, vw ((wsN p t).getD (t - 15) 0)), (151, vi (t - 15))]) (by rw [e311]) ?_
               clear e311
               refine GP.s 30 (fun w_ ⟨_, H_⟩ => run_idxArr (P := Try.prog) (k := .i64) (t := 96) (len := 64) (sz := 1) (b := p145) (o := 0) (j := (t - 15)) (by kernel_rfl) rfl (by omega)) [(2, pt p3 0), (3, pt p9 0), (4, pt p13 0), (7, .slice B_ (b.length + 1 + padZ b.length + 8) C_), (9, vi (64 * j)), (10, pt p145 0), (11, pt p154 0), (12, vi t), (122, vi t), (126, vw ((wsN p t).getD (t - 2) 0)), (131, vw ((wsN p t).getD (t - 2) 0)), (138, vw (((wsN p t).getD (t - 2) 0) / 2 ^ 10)), (143, vw ((wsN p t).getD (t - 7) 0)), (148, vw ((wsN p t).getD (t - 15) 0)), (152, pt p145 (0 + (t - 15) * 1))] hS304 ?_
               refine GP.s 31 (fun w_ ⟨_, H_⟩ => H_.ld (o := (0 + (t - 15) * 1)) (ty := 22) (v := vw ((wsN p t).getD (t - 15) 0)) 6 rfl (by kernel_rfl) (by rw [show (0 + (t - 15) * 1) = (t - 15) by omega]; exact u32s_at ((List.getElem?_set_ne (by omega)).trans (wsP_at (by omega) (by omega))))) [(2, pt p3 0), (3, pt p9 0), (4, pt p13 0), (7, .slice B_ (b.length + 1 + padZ b.length + 8) C_), (9, vi (64 * j)), (10, pt p145 0), (11, pt p154 0), (12, vi t), (122, vi t), (126, vw ((wsN p t).getD (t - 2) 0)), (131, vw ((wsN p t).getD (t - 2) 0)), (138, vw (((wsN p t).getD (t - 2) 0) / 2 ^ 10)), (143, vw ((wsN p t).getD (t - 7) 0)), (148, vw ((wsN p t).getD (t - 15) 0)), (153, vw ((wsN p t).getD (t - 15) 0))] hS304 ?_
               refine GP.r [34, 35] [(2, pt p3 0), (3, pt p9 0), (4, pt p13 0), (7, .slice B_ (b.length + 1 + padZ b.length + 8) C_), (9, vi (64 * j)), (10, pt p145 0), (11, pt p154 0), (12, vi t), (122, vi t), (126, vw ((wsN p t).getD (t - 2) 0)), (131, vw ((wsN p t).getD (t - 2) 0)), (138, vw (((wsN p t).getD (t - 2) 0) / 2 ^ 10)), (143, vw ((wsN p t).getD (t - 7) 0)), (148, vw ((wsN p t).getD (t - 15) 0)), (153, vw ((wsN p t).getD (t - 15) 0)), (157, li (IntKind.i64.wrap ((t : Int) - 15)))] [0, 1, 2, 3, 4, 6, 7, 8, 9, 12, 13, 14, 15, 16, 18, 19, 20, 21, 23, 24, 25, 26, 28, 29, 30, 31, 34, 35] hS304 ?_
               have e312 : (IntKind.i64.wrap ((t : Int) - 15)) = (((t - 15) : Nat) : Int) := by rw [in_i64 (by omega)]; omega
               refine GP.eq (M' := [(2, pt p3 0), (3, pt p9 0), (4, pt p13 0), (7, .slice B_ (b.length + 1 + padZ b.length + 8) C_), (9, vi (64 * j)), (10, pt p145 0), (11, pt p154 0), (12, vi t), (122, vi t), (126, vw ((wsN p t).getD (t - 2) 0)), (131, vw ((wsN p t).getD (t - 2) 0)), (138, vw (((wsN p t).getD (t - 2) 0) / 2 ^ 10)), (143, vw ((wsN p t).getD (t - 7) 0)), (148, vw ((wsN p t).getD (t - 15) 0)), (153, vw ((wsN p t).getD (t - 15) 0)), (157, vi (t - 15))]) (by rw [e312]) ?_
               clear e312
               refine GP.s 36 (fun w_ ⟨_, H_⟩ => run_idxArr (P := Try.prog) (k := .i64) (t := 96) (len := 64) (sz := 1) (b := p145) (o := 0) (j := (t - 15)) (by kernel_rfl) rfl (by omega)) [(2, pt p3 0), (3, pt p9 0), (4, pt p13 0), (7, .slice B_ (b.length + 1 + padZ b.length + 8) C_), (9, vi (64 * j)), (10, pt p145 0), (11, pt p154 0), (12, vi t), (122, vi t), (126, vw ((wsN p t).getD (t - 2) 0)), (131, vw ((wsN p t).getD (t - 2) 0)), (138, vw (((wsN p t).getD (t - 2) 0) / 2 ^ 10)), (143, vw ((wsN p t).getD (t - 7) 0)), (148, vw ((wsN p t).getD (t - 15) 0)), (153, vw ((wsN p t).getD (t - 15) 0)), (158, pt p145 (0 + (t - 15) * 1))] hS304 ?_
               refine GP.s 37 (fun w_ ⟨_, H_⟩ => H_.ld (o := (0 + (t - 15) * 1)) (ty := 22) (v := vw ((wsN p t).getD (t - 15) 0)) 6 rfl (by kernel_rfl) (by rw [show (0 + (t - 15) * 1) = (t - 15) by omega]; exact u32s_at ((List.getElem?_set_ne (by omega)).trans (wsP_at (by omega) (by omega))))) [(2, pt p3 0), (3, pt p9 0), (4, pt p13 0), (7, .slice B_ (b.length + 1 + padZ b.length + 8) C_), (9, vi (64 * j)), (10, pt p145 0), (11, pt p154 0), (12, vi t), (122, vi t), (126, vw ((wsN p t).getD (t - 2) 0)), (131, vw ((wsN p t).getD (t - 2) 0)), (138, vw (((wsN p t).getD (t - 2) 0) / 2 ^ 10)), (143, vw ((wsN p t).getD (t - 7) 0)), (148, vw ((wsN p t).getD (t - 15) 0)), (153, vw ((wsN p t).getD (t - 15) 0)), (159, vw ((wsN p t).getD (t - 15) 0))] hS304 ?_
               refine GP.r [38, 41, 42] [(2, pt p3 0), (3, pt p9 0), (4, pt p13 0), (7, .slice B_ (b.length + 1 + padZ b.length + 8) C_), (9, vi (64 * j)), (10, pt p145 0), (11, pt p154 0), (12, vi t), (122, vi t), (126, vw ((wsN p t).getD (t - 2) 0)), (131, vw ((wsN p t).getD (t - 2) 0)), (138, vw (((wsN p t).getD (t - 2) 0) / 2 ^ 10)), (143, vw ((wsN p t).getD (t - 7) 0)), (148, vw ((wsN p t).getD (t - 15) 0)), (153, vw ((wsN p t).getD (t - 15) 0)), (160, lw (Int.fdiv ((((wsN p t).getD (t - 15) 0) : Nat) : Int) (2 ^ 3))), (164, li (IntKind.i64.wrap ((t : Int) - 16)))] [0, 1, 2, 3, 4, 6, 7, 8, 9, 12, 13, 14, 15, 16, 18, 19, 20, 21, 23, 24, 25, 26, 28, 29, 30, 31, 34, 35, 36, 37, 38, 41, 42] hS304 ?_
               have e313 : (Int.fdiv ((((wsN p t).getD (t - 15) 0) : Nat) : Int) (2 ^ 3)) = (((((wsN p t).getD (t - 15) 0) / 2 ^ 3) : Nat) : Int) := n_shr _ 3
               have e314 : (IntKind.i64.wrap ((t : Int) - 16)) = (((t - 16) : Nat) : Int) := by rw [in_i64 (by omega)]; omega
               refine GP.eq (M' := [(2, pt p3 0), (3, pt p9 0), (4, pt p13 0), (7, .slice B_ (b.length + 1 + padZ b.length + 8) C_), (9, vi (64 * j)), (10, pt p145 0), (11, pt p154 0), (12, vi t), (122, vi t), (126, vw ((wsN p t).getD (t - 2) 0)), (131, vw ((wsN p t).getD (t - 2) 0)), (138, vw (((wsN p t).getD (t - 2) 0) / 2 ^ 10)), (143, vw ((wsN p t).getD (t - 7) 0)), (148, vw ((wsN p t).getD (t - 15) 0)), (153, vw ((wsN p t).getD (t - 15) 0)), (160, vw (((wsN p t).getD (t - 15) 0) / 2 ^ 3)), (164, vi (t - 16))]) (by rw [e313, e314]) ?_
               clear e313 e314
               refine GP.s 43 (fun w_ ⟨_, H_⟩ => run_idxArr (P := Try.prog) (k := .i64) (t := 96) (len := 64) (sz := 1) (b := p145) (o := 0) (j := (t - 16)) (by kernel_rfl) rfl (by omega)) [(2, pt p3 0), (3, pt p9 0), (4, pt p13 0), (7, .slice B_ (b.length + 1 + padZ b.length + 8) C_), (9, vi (64 * j)), (10, pt p145 0), (11, pt p154 0), (12, vi t), (122, vi t), (126, vw ((wsN p t).getD (t - 2) 0)), (131, vw ((wsN p t).getD (t - 2) 0)), (138, vw (((wsN p t).getD (t - 2) 0) / 2 ^ 10)), (143, vw ((wsN p t).getD (t - 7) 0)), (148, vw ((wsN p t).getD (t - 15) 0)), (153, vw ((wsN p t).getD (t - 15) 0)), (160, vw (((wsN p t).getD (t - 15) 0) / 2 ^ 3)), (165, pt p145 (0 + (t - 16) * 1))] hS304 ?_
               refine GP.s 44 (fun w_ ⟨_, H_⟩ => H_.ld (o := (0 + (t - 16) * 1)) (ty := 22) (v := vw ((wsN p t).getD (t - 16) 0)) 6 rfl (by kernel_rfl) (by rw [show (0 + (t - 16) * 1) = (t - 16) by omega]; exact u32s_at ((List.getElem?_set_ne (by omega)).trans (wsP_at (by omega) (by omega))))) [(2, pt p3 0), (3, pt p9 0), (4, pt p13 0), (7, .slice B_ (b.length + 1 + padZ b.length + 8) C_), (9, vi (64 * j)), (10, pt p145 0), (11, pt p154 0), (12, vi t), (122, vi t), (126, vw ((wsN p t).getD (t - 2) 0)), (131, vw ((wsN p t).getD (t - 2) 0)), (138, vw (((wsN p t).getD (t - 2) 0) / 2 ^ 10)), (143, vw ((wsN p t).getD (t - 7) 0)), (148, vw ((wsN p t).getD (t - 15) 0)), (153, vw ((wsN p t).getD (t - 15) 0)), (160, vw (((wsN p t).getD (t - 15) 0) / 2 ^ 3)), (166, vw ((wsN p t).getD (t - 16) 0))] hS304 ?_
               refine GP.call 5 (TurnR17_calls ((wsN p t).getD (t - 2) 0) (getD_lt (wsN_lt p t) _) w303) (by kernel_rfl) (by kernel_rfl) (fun e_ w315 hR => ?_)
               obtain ⟨rfl, H317⟩ := hR
               have H316 : Hp w [] [.blk p3 (by8 (bsP (outB (blocks (padM b) ((padM b).length / 64))) 32 0)) 23, .blk p9 (u32s KT) 96, .blk p13 (c8 h0 h1 h2 h3 h4 h5 h6 h7) 97, .row A27 64 c28 31 1 (dg PR), .row B_ (b.length + 1 + padZ b.length + 8) C_ 5 1 (by8 (padM b)), .row (some ⟨p53, 0, none⟩) 1 1 5 1 (by8 ([128] : List UInt8)), .blk p145 (u32s (List.set (wsP p t) t 0)) 96, .blk p154 (c8 a b_ c_ d e f g h) 97] w315 := H302.callNil H317
               have hS318 : ∃ z_ : Nat, Hp w [] [.blk p3 (by8 (bsP (outB (blocks (padM b) ((padM b).length / 64))) 32 0)) 23, .blk p9 (u32s KT) 96, .blk p13 (c8 h0 h1 h2 h3 h4 h5 h6 h7) 97, .row A27 64 c28 31 1 (dg PR), .row B_ (b.length + 1 + padZ b.length + 8) C_ 5 1 (by8 (padM b)), .row (some ⟨p53, 0, none⟩) 1 1 5 1 (by8 ([128] : List UInt8)), .blk p145 (u32s (List.set (wsP p t) t z_)) 96, .blk p154 (c8 a b_ c_ d e f g h) 97] w315 := ⟨0, H316.sub (List.Sublist.cons_cons _ (List.Sublist.cons_cons _ (List.Sublist.cons_cons _ (List.Sublist.cons_cons _ (List.Sublist.cons_cons _ (List.Sublist.cons_cons _ (List.Sublist.cons_cons _ (List.Sublist.cons_cons _ (List.Sublist.slnil)))))))))⟩
               refine ⟨_, rfl, hS318, [2, 3, 4, 7, 9, 10, 11, 12, 122, 127, 131, 138, 143, 148, 153, 160, 166], [(2, pt p3 0), (3, pt p9 0), (4, pt p13 0), (7, .slice B_ (b.length + 1 + padZ b.length + 8) C_), (9, vi (64 * j)), (10, pt p145 0), (11, pt p154 0), (12, vi t), (122, vi t), (127, vw (rt ((wsN p t).getD (t - 2) 0) 17)), (131, vw ((wsN p t).getD (t - 2) 0)), (138, vw (((wsN p t).getD (t - 2) 0) / 2 ^ 10)), (143, vw ((wsN p t).getD (t - 7) 0)), (148, vw ((wsN p t).getD (t - 15) 0)), (153, vw ((wsN p t).getD (t - 15) 0)), (160, vw (((wsN p t).getD (t - 15) 0) / 2 ^ 3)), (166, vw ((wsN p t).getD (t - 16) 0))], by kernel_rfl, ?_⟩
               refine GP.call 10 (TurnR19_calls ((wsN p t).getD (t - 2) 0) (getD_lt (wsN_lt p t) _) w315) (by kernel_rfl) (by kernel_rfl) (fun e_ w319 hR => ?_)
               obtain ⟨rfl, H321⟩ := hR
               have H320 : Hp w [] [.blk p3 (by8 (bsP (outB (blocks (padM b) ((padM b).length / 64))) 32 0)) 23, .blk p9 (u32s KT) 96, .blk p13 (c8 h0 h1 h2 h3 h4 h5 h6 h7) 97, .row A27 64 c28 31 1 (dg PR), .row B_ (b.length + 1 + padZ b.length + 8) C_ 5 1 (by8 (padM b)), .row (some ⟨p53, 0, none⟩) 1 1 5 1 (by8 ([128] : List UInt8)), .blk p145 (u32s (List.set (wsP p t) t 0)) 96, .blk p154 (c8 a b_ c_ d e f g h) 97] w319 := H316.callNil H321
               have hS322 : ∃ z_ : Nat, Hp w [] [.blk p3 (by8 (bsP (outB (blocks (padM b) ((padM b).length / 64))) 32 0)) 23, .blk p9 (u32s KT) 96, .blk p13 (c8 h0 h1 h2 h3 h4 h5 h6 h7) 97, .row A27 64 c28 31 1 (dg PR), .row B_ (b.length + 1 + padZ b.length + 8) C_ 5 1 (by8 (padM b)), .row (some ⟨p53, 0, none⟩) 1 1 5 1 (by8 ([128] : List UInt8)), .blk p145 (u32s (List.set (wsP p t) t z_)) 96, .blk p154 (c8 a b_ c_ d e f g h) 97] w319 := ⟨0, H320.sub (List.Sublist.cons_cons _ (List.Sublist.cons_cons _ (List.Sublist.cons_cons _ (List.Sublist.cons_cons _ (List.Sublist.cons_cons _ (List.Sublist.cons_cons _ (List.Sublist.cons_cons _ (List.Sublist.cons_cons _ (List.Sublist.slnil)))))))))⟩
               refine ⟨_, rfl, hS322, [2, 3, 4, 7, 9, 10, 11, 12, 122, 127, 132, 138, 143, 148, 153, 160, 166], [(2, pt p3 0), (3, pt p9 0), (4, pt p13 0), (7, .slice B_ (b.length + 1 + padZ b.length + 8) C_), (9, vi (64 * j)), (10, pt p145 0), (11, pt p154 0), (12, vi t), (122, vi t), (127, vw (rt ((wsN p t).getD (t - 2) 0) 17)), (132, vw (rt ((wsN p t).getD (t - 2) 0) 19)), (138, vw (((wsN p t).getD (t - 2) 0) / 2 ^ 10)), (143, vw ((wsN p t).getD (t - 7) 0)), (148, vw ((wsN p t).getD (t - 15) 0)), (153, vw ((wsN p t).getD (t - 15) 0)), (160, vw (((wsN p t).getD (t - 15) 0) / 2 ^ 3)), (166, vw ((wsN p t).getD (t - 16) 0))], by kernel_rfl, ?_⟩
               refine GP.r [11, 17, 22] [(2, pt p3 0), (3, pt p9 0), (4, pt p13 0), (7, .slice B_ (b.length + 1 + padZ b.length + 8) C_), (9, vi (64 * j)), (10, pt p145 0), (11, pt p154 0), (12, vi t), (122, vi t), (144, lw (IntKind.u32.wrap ((Go.bits .xor .u32 (Go.bits .xor .u32 (((rt ((wsN p t).getD (t - 2) 0) 17) : Nat) : Int) (((rt ((wsN p t).getD (t - 2) 0) 19) : Nat) : Int)) (((((wsN p t).getD (t - 2) 0) / 2 ^ 10) : Nat) : Int)) + ((((wsN p t).getD (t - 7) 0) : Nat) : Int)))), (148, vw ((wsN p t).getD (t - 15) 0)), (153, vw ((wsN p t).getD (t - 15) 0)), (160, vw (((wsN p t).getD (t - 15) 0) / 2 ^ 3)), (166, vw ((wsN p t).getD (t - 16) 0))] [0, 1, 2, 3, 4, 6, 7, 8, 9, 12, 13, 14, 15, 16, 18, 19, 20, 21, 23, 24, 25, 26, 28, 29, 30, 31, 34, 35, 36, 37, 38, 41, 42, 43, 44, 5, 10, 11, 17, 22] hS322 ?_
               have e323 : (Go.bits .xor .u32 (((rt ((wsN p t).getD (t - 2) 0) 17) : Nat) : Int) (((rt ((wsN p t).getD (t - 2) 0) 19) : Nat) : Int)) = ((((rt ((wsN p t).getD (t - 2) 0) 17) ^^^ (rt ((wsN p t).getD (t - 2) 0) 19)) : Nat) : Int) := w_xor (rt_lt (getD_lt (wsN_lt p t) _)) (rt_lt (getD_lt (wsN_lt p t) _))
               have e324 : (Go.bits .xor .u32 ((((rt ((wsN p t).getD (t - 2) 0) 17) ^^^ (rt ((wsN p t).getD (t - 2) 0) 19)) : Nat) : Int) (((((wsN p t).getD (t - 2) 0) / 2 ^ 10) : Nat) : Int)) = (((ssg1 ((wsN p t).getD (t - 2) 0)) : Nat) : Int) := w_xor (xor_lt32 (rt_lt (getD_lt (wsN_lt p t) _)) (rt_lt (getD_lt (wsN_lt p t) _))) (Nat.lt_of_le_of_lt (Nat.div_le_self _ _) (getD_lt (wsN_lt p t) _))
               have e325 : (IntKind.u32.wrap ((((ssg1 ((wsN p t).getD (t - 2) 0)) : Nat) : Int) + ((((wsN p t).getD (t - 7) 0) : Nat) : Int))) = ((((ssg1 ((wsN p t).getD (t - 2) 0)) + ((wsN p t).getD (t - 7) 0)) % W32 : Nat) : Int) := w_add _ _
               refine GP.eq (M' := [(2, pt p3 0), (3, pt p9 0), (4, pt p13 0), (7, .slice B_ (b.length + 1 + padZ b.length + 8) C_), (9, vi (64 * j)), (10, pt p145 0), (11, pt p154 0), (12, vi t), (122, vi t), (144, vw (((ssg1 ((wsN p t).getD (t - 2) 0)) + ((wsN p t).getD (t - 7) 0)) % W32)), (148, vw ((wsN p t).getD (t - 15) 0)), (153, vw ((wsN p t).getD (t - 15) 0)), (160, vw (((wsN p t).getD (t - 15) 0) / 2 ^ 3)), (166, vw ((wsN p t).getD (t - 16) 0))]) (by rw [e323, e324, e325]) ?_
               clear e323 e324 e325
               refine GP.call 27 (TurnR7_calls ((wsN p t).getD (t - 15) 0) (getD_lt (wsN_lt p t) _) w319) (by kernel_rfl) (by kernel_rfl) (fun e_ w326 hR => ?_)
               obtain ⟨rfl, H328⟩ := hR
               have H327 : Hp w [] [.blk p3 (by8 (bsP (outB (blocks (padM b) ((padM b).length / 64))) 32 0)) 23, .blk p9 (u32s KT) 96, .blk p13 (c8 h0 h1 h2 h3 h4 h5 h6 h7) 97, .row A27 64 c28 31 1 (dg PR), .row B_ (b.length + 1 + padZ b.length + 8) C_ 5 1 (by8 (padM b)), .row (some ⟨p53, 0, none⟩) 1 1 5 1 (by8 ([128] : List UInt8)), .blk p145 (u32s (List.set (wsP p t) t 0)) 96, .blk p154 (c8 a b_ c_ d e f g h) 97] w326 := H320.callNil H328
               have hS329 : ∃ z_ : Nat, Hp w [] [.blk p3 (by8 (bsP (outB (blocks (padM b) ((padM b).length / 64))) 32 0)) 23, .blk p9 (u32s KT) 96, .blk p13 (c8 h0 h1 h2 h3 h4 h5 h6 h7) 97, .row A27 64 c28 31 1 (dg PR), .row B_ (b.length + 1 + padZ b.length + 8) C_ 5 1 (by8 (padM b)), .row (some ⟨p53, 0, none⟩) 1 1 5 1 (by8 ([128] : List UInt8)), .blk p145 (u32s (List.set (wsP p t) t z_)) 96, .blk p154 (c8 a b_ c_ d e f g h) 97] w326 := ⟨0, H327.sub (List.Sublist.cons_cons _ (List.Sublist.cons_cons _ (List.Sublist.cons_cons _ (List.Sublist.cons_cons _ (List.Sublist.cons_cons _ (List.Sublist.cons_cons _ (List.Sublist.cons_cons _ (List.Sublist.cons_cons _ (List.Sublist.slnil)))))))))⟩
               refine ⟨_, rfl, hS329, [2, 3, 4, 7, 9, 10, 11, 12, 122, 144, 149, 153, 160, 166], [(2, pt p3 0), (3, pt p9 0), (4, pt p13 0), (7, .slice B_ (b.length + 1 + padZ b.length + 8) C_), (9, vi (64 * j)), (10, pt p145 0), (11, pt p154 0), (12, vi t), (122, vi t), (144, vw (((ssg1 ((wsN p t).getD (t - 2) 0)) + ((wsN p t).getD (t - 7) 0)) % W32)), (149, vw (rt ((wsN p t).getD (t - 15) 0) 7)), (153, vw ((wsN p t).getD (t - 15) 0)), (160, vw (((wsN p t).getD (t - 15) 0) / 2 ^ 3)), (166, vw ((wsN p t).getD (t - 16) 0))], by kernel_rfl, ?_⟩
               refine GP.call 32 (TurnR18_calls ((wsN p t).getD (t - 15) 0) (getD_lt (wsN_lt p t) _) w326) (by kernel_rfl) (by kernel_rfl) (fun e_ w330 hR => ?_)
               obtain ⟨rfl, H332⟩ := hR
               have H331 : Hp w [] [.blk p3 (by8 (bsP (outB (blocks (padM b) ((padM b).length / 64))) 32 0)) 23, .blk p9 (u32s KT) 96, .blk p13 (c8 h0 h1 h2 h3 h4 h5 h6 h7) 97, .row A27 64 c28 31 1 (dg PR), .row B_ (b.length + 1 + padZ b.length + 8) C_ 5 1 (by8 (padM b)), .row (some ⟨p53, 0, none⟩) 1 1 5 1 (by8 ([128] : List UInt8)), .blk p145 (u32s (List.set (wsP p t) t 0)) 96, .blk p154 (c8 a b_ c_ d e f g h) 97] w330 := H327.callNil H332
               have hS333 : ∃ z_ : Nat, Hp w [] [.blk p3 (by8 (bsP (outB (blocks (padM b) ((padM b).length / 64))) 32 0)) 23, .blk p9 (u32s KT) 96, .blk p13 (c8 h0 h1 h2 h3 h4 h5 h6 h7) 97, .row A27 64 c28 31 1 (dg PR), .row B_ (b.length + 1 + padZ b.length + 8) C_ 5 1 (by8 (padM b)), .row (some ⟨p53, 0, none⟩) 1 1 5 1 (by8 ([128] : List UInt8)), .blk p145 (u32s (List.set (wsP p t) t z_)) 96, .blk p154 (c8 a b_ c_ d e f g h) 97] w330 := ⟨0, H331.sub (List.Sublist.cons_cons _ (List.Sublist.cons_cons _ (List.Sublist.cons_cons _ (List.Sublist.cons_cons _ (List.Sublist.cons_cons _ (List.Sublist.cons_cons _ (List.Sublist.cons_cons _ (List.Sublist.cons_cons _ (List.Sublist.slnil)))))))))⟩
               refine ⟨_, rfl, hS333, [2, 3, 4, 7, 9, 10, 11, 12, 122, 144, 149, 154, 160, 166], [(2, pt p3 0), (3, pt p9 0), (4, pt p13 0), (7, .slice B_ (b.length + 1 + padZ b.length + 8) C_), (9, vi (64 * j)), (10, pt p145 0), (11, pt p154 0), (12, vi t), (122, vi t), (144, vw (((ssg1 ((wsN p t).getD (t - 2) 0)) + ((wsN p t).getD (t - 7) 0)) % W32)), (149, vw (rt ((wsN p t).getD (t - 15) 0) 7)), (154, vw (rt ((wsN p t).getD (t - 15) 0) 18)), (160, vw (((wsN p t).getD (t - 15) 0) / 2 ^ 3)), (166, vw ((wsN p t).getD (t - 16) 0))], by kernel_rfl, ?_⟩
               refine GP.r [33, 39, 40, 45] [(2, pt p3 0), (3, pt p9 0), (4, pt p13 0), (7, .slice B_ (b.length + 1 + padZ b.length + 8) C_), (9, vi (64 * j)), (10, pt p145 0), (11, pt p154 0), (12, vi t), (122, vi t), (167, lw (IntKind.u32.wrap ((IntKind.u32.wrap (((((ssg1 ((wsN p t).getD (t - 2) 0)) + ((wsN p t).getD (t - 7) 0)) % W32 : Nat) : Int) + (Go.bits .xor .u32 (Go.bits .xor .u32 (((rt ((wsN p t).getD (t - 15) 0) 7) : Nat) : Int) (((rt ((wsN p t).getD (t - 15) 0) 18) : Nat) : Int)) (((((wsN p t).getD (t - 15) 0) / 2 ^ 3) : Nat) : Int)))) + ((((wsN p t).getD (t - 16) 0) : Nat) : Int))))] [0, 1, 2, 3, 4, 6, 7, 8, 9, 12, 13, 14, 15, 16, 18, 19, 20, 21, 23, 24, 25, 26, 28, 29, 30, 31, 34, 35, 36, 37, 38, 41, 42, 43, 44, 5, 10, 11, 17, 22, 27, 32, 33, 39, 40, 45] hS333 ?_
               have e334 : (Go.bits .xor .u32 (((rt ((wsN p t).getD (t - 15) 0) 7) : Nat) : Int) (((rt ((wsN p t).getD (t - 15) 0) 18) : Nat) : Int)) = ((((rt ((wsN p t).getD (t - 15) 0) 7) ^^^ (rt ((wsN p t).getD (t - 15) 0) 18)) : Nat) : Int) := w_xor (rt_lt (getD_lt (wsN_lt p t) _)) (rt_lt (getD_lt (wsN_lt p t) _))
               have e335 : (Go.bits .xor .u32 ((((rt ((wsN p t).getD (t - 15) 0) 7) ^^^ (rt ((wsN p t).getD (t - 15) 0) 18)) : Nat) : Int) (((((wsN p t).getD (t - 15) 0) / 2 ^ 3) : Nat) : Int)) = (((ssg0 ((wsN p t).getD (t - 15) 0)) : Nat) : Int) := w_xor (xor_lt32 (rt_lt (getD_lt (wsN_lt p t) _)) (rt_lt (getD_lt (wsN_lt p t) _))) (Nat.lt_of_le_of_lt (Nat.div_le_self _ _) (getD_lt (wsN_lt p t) _))
               have e336 : (IntKind.u32.wrap (((((ssg1 ((wsN p t).getD (t - 2) 0)) + ((wsN p t).getD (t - 7) 0)) % W32 : Nat) : Int) + (((ssg0 ((wsN p t).getD (t - 15) 0)) : Nat) : Int))) = ((((ssg1 ((wsN p t).getD (t - 2) 0)) + ((wsN p t).getD (t - 7) 0) + (ssg0 ((wsN p t).getD (t - 15) 0))) % W32 : Nat) : Int) := w_addm _ _
               have e337 : (IntKind.u32.wrap (((((ssg1 ((wsN p t).getD (t - 2) 0)) + ((wsN p t).getD (t - 7) 0) + (ssg0 ((wsN p t).getD (t - 15) 0))) % W32 : Nat) : Int) + ((((wsN p t).getD (t - 16) 0) : Nat) : Int))) = ((((ssg1 ((wsN p t).getD (t - 2) 0)) + ((wsN p t).getD (t - 7) 0) + (ssg0 ((wsN p t).getD (t - 15) 0)) + ((wsN p t).getD (t - 16) 0)) % W32 : Nat) : Int) := w_addm _ _
               refine GP.eq (M' := [(2, pt p3 0), (3, pt p9 0), (4, pt p13 0), (7, .slice B_ (b.length + 1 + padZ b.length + 8) C_), (9, vi (64 * j)), (10, pt p145 0), (11, pt p154 0), (12, vi t), (122, vi t), (167, vw (((ssg1 ((wsN p t).getD (t - 2) 0)) + ((wsN p t).getD (t - 7) 0) + (ssg0 ((wsN p t).getD (t - 15) 0)) + ((wsN p t).getD (t - 16) 0)) % W32))]) (by rw [e334, e335, e336, e337]) ?_
               clear e334 e335 e336 e337
               refine GP.s 46 (fun w_ ⟨_, H_⟩ => run_idxArr (P := Try.prog) (k := .i64) (t := 96) (len := 64) (sz := 1) (b := p145) (o := 0) (j := t) (by kernel_rfl) rfl (by omega)) [(2, pt p3 0), (3, pt p9 0), (4, pt p13 0), (7, .slice B_ (b.length + 1 + padZ b.length + 8) C_), (9, vi (64 * j)), (10, pt p145 0), (11, pt p154 0), (12, vi t), (167, vw (((ssg1 ((wsN p t).getD (t - 2) 0)) + ((wsN p t).getD (t - 7) 0) + (ssg0 ((wsN p t).getD (t - 15) 0)) + ((wsN p t).getD (t - 16) 0)) % W32)), (168, pt p145 (0 + t * 1))] hS333 ?_
               obtain ⟨w338, r339, H340⟩ := H331.st (P := Try.prog) (o := (0 + t * 1)) (ty := 22) (v := vw (((ssg1 ((wsN p t).getD (t - 2) 0)) + ((wsN p t).getD (t - 7) 0) + (ssg0 ((wsN p t).getD (t - 15) 0)) + ((wsN p t).getD (t - 16) 0)) % W32)) 6 rfl (by kernel_rfl) (by rw [u32s_length, List.length_set, wsP_length (by omega)]; omega) rfl
               rw [show (0 + t * 1) = t by omega, u32s_set, List.set_set] at H340
               have H340 : Hp w [] [.blk p3 (by8 (bsP (outB (blocks (padM b) ((padM b).length / 64))) 32 0)) 23, .blk p9 (u32s KT) 96, .blk p13 (c8 h0 h1 h2 h3 h4 h5 h6 h7) 97, .row A27 64 c28 31 1 (dg PR), .row B_ (b.length + 1 + padZ b.length + 8) C_ 5 1 (by8 (padM b)), .row (some ⟨p53, 0, none⟩) 1 1 5 1 (by8 ([128] : List UInt8)), .blk p145 (u32s (List.set (wsP p t) t (((ssg1 ((wsN p t).getD (t - 2) 0)) + ((wsN p t).getD (t - 7) 0) + (ssg0 ((wsN p t).getD (t - 15) 0)) + ((wsN p t).getD (t - 16) 0)) % W32))) 96, .blk p154 (c8 a b_ c_ d e f g h) 97] w338 := H340
               have hS341 : ∃ z_ : Nat, Hp w [] [.blk p3 (by8 (bsP (outB (blocks (padM b) ((padM b).length / 64))) 32 0)) 23, .blk p9 (u32s KT) 96, .blk p13 (c8 h0 h1 h2 h3 h4 h5 h6 h7) 97, .row A27 64 c28 31 1 (dg PR), .row B_ (b.length + 1 + padZ b.length + 8) C_ 5 1 (by8 (padM b)), .row (some ⟨p53, 0, none⟩) 1 1 5 1 (by8 ([128] : List UInt8)), .blk p145 (u32s (List.set (wsP p t) t z_)) 96, .blk p154 (c8 a b_ c_ d e f g h) 97] w338 := ⟨(((ssg1 ((wsN p t).getD (t - 2) 0)) + ((wsN p t).getD (t - 7) 0) + (ssg0 ((wsN p t).getD (t - 15) 0)) + ((wsN p t).getD (t - 16) 0)) % W32), H340.sub (List.Sublist.cons_cons _ (List.Sublist.cons_cons _ (List.Sublist.cons_cons _ (List.Sublist.cons_cons _ (List.Sublist.cons_cons _ (List.Sublist.cons_cons _ (List.Sublist.cons_cons _ (List.Sublist.cons_cons _ (List.Sublist.slnil)))))))))⟩
               refine GP.semU 47 r339 [2, 3, 4, 7, 9, 10, 11, 12] [(2, pt p3 0), (3, pt p9 0), (4, pt p13 0), (7, .slice B_ (b.length + 1 + padZ b.length + 8) C_), (9, vi (64 * j)), (10, pt p145 0), (11, pt p154 0), (12, vi t)] (by kernel_rfl) rfl rfl (by kernel_rfl) hS341 ?_
               refine GP.k (by kernel_rfl) hK297 (fun _ _ h => h) ?_
               have hV : (((ssg1 ((wsN p t).getD (t - 2) 0)) + ((wsN p t).getD (t - 7) 0) + (ssg0 ((wsN p t).getD (t - 15) 0)) + ((wsN p t).getD (t - 16) 0)) % W32) = if t < 16 then beF p (4 * t) 4 else ((wsN p t).getD (t - 16) 0 + ssg0 ((wsN p t).getD (t - 15) 0) + (wsN p t).getD (t - 7) 0 + ssg1 ((wsN p t).getD (t - 2) 0)) % W32 := by rw [if_neg (by omega)]; show (_ : Nat) % W32 = _ % W32; congr 1; omega
               have H342 : Hp w [] [.blk p3 (by8 (bsP (outB (blocks (padM b) ((padM b).length / 64))) 32 0)) 23, .blk p9 (u32s KT) 96, .blk p13 (c8 h0 h1 h2 h3 h4 h5 h6 h7) 97, .row A27 64 c28 31 1 (dg PR), .row B_ (b.length + 1 + padZ b.length + 8) C_ 5 1 (by8 (padM b)), .row (some ⟨p53, 0, none⟩) 1 1 5 1 (by8 ([128] : List UInt8)), .blk p145 (u32s (wsP p (t + 1))) 96, .blk p154 (c8 a b_ c_ d e f g h) 97] w338 := by rw [← wsP_set (v := (((ssg1 ((wsN p t).getD (t - 2) 0)) + ((wsN p t).getD (t - 7) 0) + (ssg0 ((wsN p t).getD (t - 15) 0)) + ((wsN p t).getD (t - 16) 0)) % W32)) (by omega) hV]; exact H340
               refine G.fit [2, 3, 4, 7, 9, 10, 11, 12] (M' := [(2, pt p3 0), (3, pt p9 0), (4, pt p13 0), (7, .slice B_ (b.length + 1 + padZ b.length + 8) C_), (9, vi (64 * j)), (10, pt p145 0), (11, pt p154 0), (12, vi t)]) (by kernel_rfl) ?_
               exact J295 () _ ⟨trivial, H342⟩
             · skip
               have hb300f := of_decide_eq_true hb300
               refine G.yes rfl ?_
               refine G.tail 43 (by kernel_rfl) (by kernel_rfl) ?_
               have H343 := H167.drew
               generalize ({ w165 with drawn := w165.drawn + 1 } : World) = w344 at H343 ⊢
               refine GS.r 6 6 [(2, pt p3 0), (3, pt p9 0), (4, pt p13 0), (7, .slice B_ (b.length + 1 + padZ b.length + 8) C_), (9, vi (64 * j)), (10, pt p145 0), (11, pt p154 0), (12, vi t), (79, vi t), (80, .slice B_ (b.length + 1 + padZ b.length + 8) C_), (84, li (IntKind.i64.wrap ((((64 * j) : Nat) : Int) + (IntKind.i64.wrap (4 * (t : Int))))))] ?_
               have e345 : (IntKind.i64.wrap (4 * (t : Int))) = ((4 * t : Nat) : Int) := by rw [in_i64 (by omega)]; omega
               have e346 : (IntKind.i64.wrap ((((64 * j) : Nat) : Int) + ((4 * t : Nat) : Int))) = (((64 * j) + (4 * t) : Nat) : Int) := by rw [in_i64 (by omega)]; omega
               rw [e345, e346]
               clear e345 e346
               refine GS.s 7 (run_idxRd (P := Try.prog) (k := .i64) (t := 28) (A := B_) (len := (b.length + 1 + padZ b.length + 8)) (cap := C_) (j := (64 * j) + (4 * t)) (by kernel_rfl) rfl (H343.rdRow 4 rfl) (by rw [by8_length]; first | rfl | omega | (simp only [List.length_cons, List.length_nil, List.length_drop, List.length_take, List.length_append] <;> omega)) (by first | rfl | omega | (simp only [List.length_cons, List.length_nil, List.length_drop, List.length_take, List.length_append] <;> omega))) [(2, pt p3 0), (3, pt p9 0), (4, pt p13 0), (7, .slice B_ (b.length + 1 + padZ b.length + 8) C_), (9, vi (64 * j)), (10, pt p145 0), (11, pt p154 0), (12, vi t), (79, vi t), (85, .pointer (Option.map (fun x => Addr.add x ((64 * j) + (4 * t))) B_))] ?_
               refine GS.s 8 (run_ldRd (P := Try.prog) (ty := 5) (A := B_) (j := (64 * j) + (4 * t)) (v := .int .u8 (((padM b).getD ((64 * j) + (4 * t)) 0).toNat : Int)) (by kernel_rfl) (H343.rdRow 4 rfl) (by8_at (getD8 (by omega)))) [(2, pt p3 0), (3, pt p9 0), (4, pt p13 0), (7, .slice B_ (b.length + 1 + padZ b.length + 8) C_), (9, vi (64 * j)), (10, pt p145 0), (11, pt p154 0), (12, vi t), (79, vi t), (86, lb (((padM b).getD ((64 * j) + (4 * t)) 0).toNat : Int))] ?_
               refine GS.r 16 8 [(2, pt p3 0), (3, pt p9 0), (4, pt p13 0), (7, .slice B_ (b.length + 1 + padZ b.length + 8) C_), (9, vi (64 * j)), (10, pt p145 0), (11, pt p154 0), (12, vi t), (79, vi t), (88, lw (IntKind.u32.wrap ((IntKind.u32.wrap (((padM b).getD ((64 * j) + (4 * t)) 0).toNat : Int)) * 2 ^ 24))), (89, .slice B_ (b.length + 1 + padZ b.length + 8) C_), (94, li (IntKind.i64.wrap ((IntKind.i64.wrap ((((64 * j) : Nat) : Int) + (IntKind.i64.wrap (4 * (t : Int))))) + 1)))] ?_
               have e347 : (IntKind.u32.wrap (((padM b).getD ((64 * j) + (4 * t)) 0).toNat : Int)) = (((padM b).getD ((64 * j) + (4 * t)) 0).toNat : Int) := u8_up_u32 _
               have e348 : (IntKind.u32.wrap ((((padM b).getD ((64 * j) + (4 * t)) 0).toNat : Int) * 2 ^ 24)) = (((((padM b).getD ((64 * j) + (4 * t)) 0).toNat * 16777216) : Nat) : Int) := w_shlB 24 16777216 rfl (by have := UInt8.toNat_lt ((padM b).getD ((64 * j) + (4 * t)) 0); simp only [W32]; omega)
               have e349 : (IntKind.i64.wrap (4 * (t : Int))) = ((4 * t : Nat) : Int) := by rw [in_i64 (by omega)]; omega
               have e350 : (IntKind.i64.wrap ((((64 * j) : Nat) : Int) + ((4 * t : Nat) : Int))) = (((64 * j) + (4 * t) : Nat) : Int) := by rw [in_i64 (by omega)]; omega
               have e351 : (IntKind.i64.wrap ((((64 * j) + (4 * t) : Nat) : Int) + 1)) = ((((64 * j) + (4 * t)) + 1 : Nat) : Int) := by rw [in_i64 (by omega)]; omega
               rw [e347, e348, e349, e350, e351]
               clear e347 e348 e349 e350 e351
               refine GS.s 17 (run_idxRd (P := Try.prog) (k := .i64) (t := 28) (A := B_) (len := (b.length + 1 + padZ b.length + 8)) (cap := C_) (j := ((64 * j) + (4 * t)) + 1) (by kernel_rfl) rfl (H343.rdRow 4 rfl) (by rw [by8_length]; first | rfl | omega | (simp only [List.length_cons, List.length_nil, List.length_drop, List.length_take, List.length_append] <;> omega)) (by first | rfl | omega | (simp only [List.length_cons, List.length_nil, List.length_drop, List.length_take, List.length_append] <;> omega))) [(2, pt p3 0), (3, pt p9 0), (4, pt p13 0), (7, .slice B_ (b.length + 1 + padZ b.length + 8) C_), (9, vi (64 * j)), (10, pt p145 0), (11, pt p154 0), (12, vi t), (79, vi t), (88, vw (((padM b).getD ((64 * j) + (4 * t)) 0).toNat * 16777216)), (95, .pointer (Option.map (fun x => Addr.add x (((64 * j) + (4 * t)) + 1)) B_))] ?_
               refine GS.s 18 (run_ldRd (P := Try.prog) (ty := 5) (A := B_) (j := ((64 * j) + (4 * t)) + 1) (v := .int .u8 (((padM b).getD (((64 * j) + (4 * t)) + 1) 0).toNat : Int)) (by kernel_rfl) (H343.rdRow 4 rfl) (by8_at (getD8 (by omega)))) [(2, pt p3 0), (3, pt p9 0), (4, pt p13 0), (7, .slice B_ (b.length + 1 + padZ b.length + 8) C_), (9, vi (64 * j)), (10, pt p145 0), (11, pt p154 0), (12, vi t), (79, vi t), (88, vw (((padM b).getD ((64 * j) + (4 * t)) 0).toNat * 16777216)), (96, lb (((padM b).getD (((64 * j) + (4 * t)) + 1) 0).toNat : Int))] ?_
               refine GS.r 27 9 [(2, pt p3 0), (3, pt p9 0), (4, pt p13 0), (7, .slice B_ (b.length + 1 + padZ b.length + 8) C_), (9, vi (64 * j)), (10, pt p145 0), (11, pt p154 0), (12, vi t), (79, vi t), (99, lw (Go.bits .or .u32 (((((padM b).getD ((64 * j) + (4 * t)) 0).toNat * 16777216) : Nat) : Int) (IntKind.u32.wrap ((IntKind.u32.wrap (((padM b).getD (((64 * j) + (4 * t)) + 1) 0).toNat : Int)) * 2 ^ 16)))), (100, .slice B_ (b.length + 1 + padZ b.length + 8) C_), (105, li (IntKind.i64.wrap ((IntKind.i64.wrap ((((64 * j) : Nat) : Int) + (IntKind.i64.wrap (4 * (t : Int))))) + 2)))] ?_
               have e352 : (IntKind.u32.wrap (((padM b).getD (((64 * j) + (4 * t)) + 1) 0).toNat : Int)) = (((padM b).getD (((64 * j) + (4 * t)) + 1) 0).toNat : Int) := u8_up_u32 _
               have e353 : (IntKind.u32.wrap ((((padM b).getD (((64 * j) + (4 * t)) + 1) 0).toNat : Int) * 2 ^ 16)) = (((((padM b).getD (((64 * j) + (4 * t)) + 1) 0).toNat * 65536) : Nat) : Int) := w_shlB 16 65536 rfl (by have := UInt8.toNat_lt ((padM b).getD (((64 * j) + (4 * t)) + 1) 0); simp only [W32]; omega)
               have e354 : (Go.bits .or .u32 (((((padM b).getD ((64 * j) + (4 * t)) 0).toNat * 16777216) : Nat) : Int) (((((padM b).getD (((64 * j) + (4 * t)) + 1) 0).toNat * 65536) : Nat) : Int)) = (((((padM b).getD ((64 * j) + (4 * t)) 0).toNat * 16777216 + ((padM b).getD (((64 * j) + (4 * t)) + 1) 0).toNat * 65536) : Nat) : Int) := by have h0_ := UInt8.toNat_lt ((padM b).getD ((64 * j) + (4 * t)) 0); have h1_ := UInt8.toNat_lt ((padM b).getD (((64 * j) + (4 * t)) + 1) 0); have e_ := w_orA (x := ((padM b).getD ((64 * j) + (4 * t)) 0).toNat) (y := (((padM b).getD (((64 * j) + (4 * t)) + 1) 0).toNat * 65536)) 24 16777216 rfl (by omega) (by simp only [W32]; omega); rw [show ((padM b).getD ((64 * j) + (4 * t)) 0).toNat * 16777216 = (((padM b).getD ((64 * j) + (4 * t)) 0).toNat * 16777216) by omega] at e_; rw [e_]
               have e355 : (IntKind.i64.wrap (4 * (t : Int))) = ((4 * t : Nat) : Int) := by rw [in_i64 (by omega)]; omega
               have e356 : (IntKind.i64.wrap ((((64 * j) : Nat) : Int) + ((4 * t : Nat) : Int))) = (((64 * j) + (4 * t) : Nat) : Int) := by rw [in_i64 (by omega)]; omega
               have e357 : (IntKind.i64.wrap ((((64 * j) + (4 * t) : Nat) : Int) + 2)) = ((((64 * j) + (4 * t)) + 2 : Nat) : Int) := by rw [in_i64 (by omega)]; omega
               rw [e352, e353, e354, e355, e356, e357]
               clear e352 e353 e354 e355 e356 e357
               refine GS.s 28 (run_idxRd (P := Try.prog) (k := .i64) (t := 28) (A := B_) (len := (b.length + 1 + padZ b.length + 8)) (cap := C_) (j := ((64 * j) + (4 * t)) + 2) (by kernel_rfl) rfl (H343.rdRow 4 rfl) (by rw [by8_length]; first | rfl | omega | (simp only [List.length_cons, List.length_nil, List.length_drop, List.length_take, List.length_append] <;> omega)) (by first | rfl | omega | (simp only [List.length_cons, List.length_nil, List.length_drop, List.length_take, List.length_append] <;> omega))) [(2, pt p3 0), (3, pt p9 0), (4, pt p13 0), (7, .slice B_ (b.length + 1 + padZ b.length + 8) C_), (9, vi (64 * j)), (10, pt p145 0), (11, pt p154 0), (12, vi t), (79, vi t), (99, vw (((padM b).getD ((64 * j) + (4 * t)) 0).toNat * 16777216 + ((padM b).getD (((64 * j) + (4 * t)) + 1) 0).toNat * 65536)), (106, .pointer (Option.map (fun x => Addr.add x (((64 * j) + (4 * t)) + 2)) B_))] ?_
               refine GS.s 29 (run_ldRd (P := Try.prog) (ty := 5) (A := B_) (j := ((64 * j) + (4 * t)) + 2) (v := .int .u8 (((padM b).getD (((64 * j) + (4 * t)) + 2) 0).toNat : Int)) (by kernel_rfl) (H343.rdRow 4 rfl) (by8_at (getD8 (by omega)))) [(2, pt p3 0), (3, pt p9 0), (4, pt p13 0), (7, .slice B_ (b.length + 1 + padZ b.length + 8) C_), (9, vi (64 * j)), (10, pt p145 0), (11, pt p154 0), (12, vi t), (79, vi t), (99, vw (((padM b).getD ((64 * j) + (4 * t)) 0).toNat * 16777216 + ((padM b).getD (((64 * j) + (4 * t)) + 1) 0).toNat * 65536)), (107, lb (((padM b).getD (((64 * j) + (4 * t)) + 2) 0).toNat : Int))] ?_
               refine GS.r 38 9 [(2, pt p3 0), (3, pt p9 0), (4, pt p13 0), (7, .slice B_ (b.length + 1 + padZ b.length + 8) C_), (9, vi (64 * j)), (10, pt p145 0), (11, pt p154 0), (12, vi t), (79, vi t), (110, lw (Go.bits .or .u32 (((((padM b).getD ((64 * j) + (4 * t)) 0).toNat * 16777216 + ((padM b).getD (((64 * j) + (4 * t)) + 1) 0).toNat * 65536) : Nat) : Int) (IntKind.u32.wrap ((IntKind.u32.wrap (((padM b).getD (((64 * j) + (4 * t)) + 2) 0).toNat : Int)) * 2 ^ 8)))), (111, .slice B_ (b.length + 1 + padZ b.length + 8) C_), (116, li (IntKind.i64.wrap ((IntKind.i64.wrap ((((64 * j) : Nat) : Int) + (IntKind.i64.wrap (4 * (t : Int))))) + 3)))] ?_
               have e358 : (IntKind.u32.wrap (((padM b).getD (((64 * j) + (4 * t)) + 2) 0).toNat : Int)) = (((padM b).getD (((64 * j) + (4 * t)) + 2) 0).toNat : Int) := u8_up_u32 _
               have e359 : (IntKind.u32.wrap ((((padM b).getD (((64 * j) + (4 * t)) + 2) 0).toNat : Int) * 2 ^ 8)) = (((((padM b).getD (((64 * j) + (4 * t)) + 2) 0).toNat * 256) : Nat) : Int) := w_shlB 8 256 rfl (by have := UInt8.toNat_lt ((padM b).getD (((64 * j) + (4 * t)) + 2) 0); simp only [W32]; omega)
               have e360 : (Go.bits .or .u32 (((((padM b).getD ((64 * j) + (4 * t)) 0).toNat * 16777216 + ((padM b).getD (((64 * j) + (4 * t)) + 1) 0).toNat * 65536) : Nat) : Int) (((((padM b).getD (((64 * j) + (4 * t)) + 2) 0).toNat * 256) : Nat) : Int)) = (((((padM b).getD ((64 * j) + (4 * t)) 0).toNat * 16777216 + ((padM b).getD (((64 * j) + (4 * t)) + 1) 0).toNat * 65536 + ((padM b).getD (((64 * j) + (4 * t)) + 2) 0).toNat * 256) : Nat) : Int) := by have h0_ := UInt8.toNat_lt ((padM b).getD ((64 * j) + (4 * t)) 0); have h1_ := UInt8.toNat_lt ((padM b).getD (((64 * j) + (4 * t)) + 1) 0); have h2_ := UInt8.toNat_lt ((padM b).getD (((64 * j) + (4 * t)) + 2) 0); have e_ := w_orA (x := (((padM b).getD ((64 * j) + (4 * t)) 0).toNat * 256 + ((padM b).getD (((64 * j) + (4 * t)) + 1) 0).toNat)) (y := (((padM b).getD (((64 * j) + (4 * t)) + 2) 0).toNat * 256)) 16 65536 rfl (by omega) (by simp only [W32]; omega); rw [show (((padM b).getD ((64 * j) + (4 * t)) 0).toNat * 256 + ((padM b).getD (((64 * j) + (4 * t)) + 1) 0).toNat) * 65536 = (((padM b).getD ((64 * j) + (4 * t)) 0).toNat * 16777216 + ((padM b).getD (((64 * j) + (4 * t)) + 1) 0).toNat * 65536) by omega] at e_; rw [e_]
               have e361 : (IntKind.i64.wrap (4 * (t : Int))) = ((4 * t : Nat) : Int) := by rw [in_i64 (by omega)]; omega
               have e362 : (IntKind.i64.wrap ((((64 * j) : Nat) : Int) + ((4 * t : Nat) : Int))) = (((64 * j) + (4 * t) : Nat) : Int) := by rw [in_i64 (by omega)]; omega
               have e363 : (IntKind.i64.wrap ((((64 * j) + (4 * t) : Nat) : Int) + 3)) = ((((64 * j) + (4 * t)) + 3 : Nat) : Int) := by rw [in_i64 (by omega)]; omega
               rw [e358, e359, e360, e361, e362, e363]
               clear e358 e359 e360 e361 e362 e363
               refine GS.s 39 (run_idxRd (P := Try.prog) (k := .i64) (t := 28) (A := B_) (len := (b.length + 1 + padZ b.length + 8)) (cap := C_) (j := ((64 * j) + (4 * t)) + 3) (by kernel_rfl) rfl (H343.rdRow 4 rfl) (by rw [by8_length]; first | rfl | omega | (simp only [List.length_cons, List.length_nil, List.length_drop, List.length_take, List.length_append] <;> omega)) (by first | rfl | omega | (simp only [List.length_cons, List.length_nil, List.length_drop, List.length_take, List.length_append] <;> omega))) [(2, pt p3 0), (3, pt p9 0), (4, pt p13 0), (7, .slice B_ (b.length + 1 + padZ b.length + 8) C_), (9, vi (64 * j)), (10, pt p145 0), (11, pt p154 0), (12, vi t), (79, vi t), (110, vw (((padM b).getD ((64 * j) + (4 * t)) 0).toNat * 16777216 + ((padM b).getD (((64 * j) + (4 * t)) + 1) 0).toNat * 65536 + ((padM b).getD (((64 * j) + (4 * t)) + 2) 0).toNat * 256)), (117, .pointer (Option.map (fun x => Addr.add x (((64 * j) + (4 * t)) + 3)) B_))] ?_
               refine GS.s 40 (run_ldRd (P := Try.prog) (ty := 5) (A := B_) (j := ((64 * j) + (4 * t)) + 3) (v := .int .u8 (((padM b).getD (((64 * j) + (4 * t)) + 3) 0).toNat : Int)) (by kernel_rfl) (H343.rdRow 4 rfl) (by8_at (getD8 (by omega)))) [(2, pt p3 0), (3, pt p9 0), (4, pt p13 0), (7, .slice B_ (b.length + 1 + padZ b.length + 8) C_), (9, vi (64 * j)), (10, pt p145 0), (11, pt p154 0), (12, vi t), (79, vi t), (110, vw (((padM b).getD ((64 * j) + (4 * t)) 0).toNat * 16777216 + ((padM b).getD (((64 * j) + (4 * t)) + 1) 0).toNat * 65536 + ((padM b).getD (((64 * j) + (4 * t)) + 2) 0).toNat * 256)), (118, lb (((padM b).getD (((64 * j) + (4 * t)) + 3) 0).toNat : Int))] ?_
               refine GS.r 42 2 [(2, pt p3 0), (3, pt p9 0), (4, pt p13 0), (7, .slice B_ (b.length + 1 + padZ b.length + 8) C_), (9, vi (64 * j)), (10, pt p145 0), (11, pt p154 0), (12, vi t), (79, vi t), (120, lw (Go.bits .or .u32 (((((padM b).getD ((64 * j) + (4 * t)) 0).toNat * 16777216 + ((padM b).getD (((64 * j) + (4 * t)) + 1) 0).toNat * 65536 + ((padM b).getD (((64 * j) + (4 * t)) + 2) 0).toNat * 256) : Nat) : Int) (IntKind.u32.wrap (((padM b).getD (((64 * j) + (4 * t)) + 3) 0).toNat : Int))))] ?_
               have e364 : (IntKind.u32.wrap (((padM b).getD (((64 * j) + (4 * t)) + 3) 0).toNat : Int)) = (((padM b).getD (((64 * j) + (4 * t)) + 3) 0).toNat : Int) := u8_up_u32 _
               have e365 : (Go.bits .or .u32 (((((padM b).getD ((64 * j) + (4 * t)) 0).toNat * 16777216 + ((padM b).getD (((64 * j) + (4 * t)) + 1) 0).toNat * 65536 + ((padM b).getD (((64 * j) + (4 * t)) + 2) 0).toNat * 256) : Nat) : Int) (((padM b).getD (((64 * j) + (4 * t)) + 3) 0).toNat : Int)) = (((((padM b).getD ((64 * j) + (4 * t)) 0).toNat * 16777216 + ((padM b).getD (((64 * j) + (4 * t)) + 1) 0).toNat * 65536 + ((padM b).getD (((64 * j) + (4 * t)) + 2) 0).toNat * 256 + ((padM b).getD (((64 * j) + (4 * t)) + 3) 0).toNat) : Nat) : Int) := by have h0_ := UInt8.toNat_lt ((padM b).getD ((64 * j) + (4 * t)) 0); have h1_ := UInt8.toNat_lt ((padM b).getD (((64 * j) + (4 * t)) + 1) 0); have h2_ := UInt8.toNat_lt ((padM b).getD (((64 * j) + (4 * t)) + 2) 0); have h3_ := UInt8.toNat_lt ((padM b).getD (((64 * j) + (4 * t)) + 3) 0); have e_ := w_orA (x := (((padM b).getD ((64 * j) + (4 * t)) 0).toNat * 65536 + ((padM b).getD (((64 * j) + (4 * t)) + 1) 0).toNat * 256 + ((padM b).getD (((64 * j) + (4 * t)) + 2) 0).toNat)) (y := (((padM b).getD (((64 * j) + (4 * t)) + 3) 0).toNat)) 8 256 rfl (by omega) (by simp only [W32]; omega); rw [show (((padM b).getD ((64 * j) + (4 * t)) 0).toNat * 65536 + ((padM b).getD (((64 * j) + (4 * t)) + 1) 0).toNat * 256 + ((padM b).getD (((64 * j) + (4 * t)) + 2) 0).toNat) * 256 = (((padM b).getD ((64 * j) + (4 * t)) 0).toNat * 16777216 + ((padM b).getD (((64 * j) + (4 * t)) + 1) 0).toNat * 65536 + ((padM b).getD (((64 * j) + (4 * t)) + 2) 0).toNat * 256) by omega] at e_; rw [e_]
               rw [e364, e365]
               clear e364 e365
               refine GS.s 43 (run_idxArr (P := Try.prog) (k := .i64) (t := 96) (len := 64) (sz := 1) (b := p145) (o := 0) (j := t) (by kernel_rfl) rfl (by omega)) [(2, pt p3 0), (3, pt p9 0), (4, pt p13 0), (7, .slice B_ (b.length + 1 + padZ b.length + 8) C_), (9, vi (64 * j)), (10, pt p145 0), (11, pt p154 0), (12, vi t), (120, lw (((((padM b).getD ((64 * j) + (4 * t)) 0).toNat * 16777216 + ((padM b).getD (((64 * j) + (4 * t)) + 1) 0).toNat * 65536 + ((padM b).getD (((64 * j) + (4 * t)) + 2) 0).toNat * 256 + ((padM b).getD (((64 * j) + (4 * t)) + 3) 0).toNat) : Nat) : Int)), (121, pt p145 (0 + t * 1))] ?_
               refine GS.tail rfl ?_
               obtain ⟨w366, r367, H368⟩ := H343.st (P := Try.prog) (o := (0 + t * 1)) (ty := 22) (v := .int .u32 (((((padM b).getD ((64 * j) + (4 * t)) 0).toNat * 16777216 + ((padM b).getD (((64 * j) + (4 * t)) + 1) 0).toNat * 65536 + ((padM b).getD (((64 * j) + (4 * t)) + 2) 0).toNat * 256 + ((padM b).getD (((64 * j) + (4 * t)) + 3) 0).toNat) : Nat) : Int)) 6 rfl (by kernel_rfl) (by rw [u32s_length, wsP_length (by omega)]; omega) rfl
               rw [show (0 + t * 1) = t by omega, u32s_set] at H368
               have H368 : Hp w [] [.blk p3 (by8 (bsP (outB (blocks (padM b) ((padM b).length / 64))) 32 0)) 23, .blk p9 (u32s KT) 96, .blk p13 (c8 h0 h1 h2 h3 h4 h5 h6 h7) 97, .row A27 64 c28 31 1 (dg PR), .row B_ (b.length + 1 + padZ b.length + 8) C_ 5 1 (by8 (padM b)), .row (some ⟨p53, 0, none⟩) 1 1 5 1 (by8 ([128] : List UInt8)), .blk p145 (u32s (List.set (wsP p t) t (((padM b).getD ((64 * j) + (4 * t)) 0).toNat * 16777216 + ((padM b).getD (((64 * j) + (4 * t)) + 1) 0).toNat * 65536 + ((padM b).getD (((64 * j) + (4 * t)) + 2) 0).toNat * 256 + ((padM b).getD (((64 * j) + (4 * t)) + 3) 0).toNat))) 96, .blk p154 (c8 a b_ c_ d e f g h) 97] w366 := H368
               refine GL.u 44 r367 [(2, pt p3 0), (3, pt p9 0), (4, pt p13 0), (7, .slice B_ (b.length + 1 + padZ b.length + 8) C_), (9, vi (64 * j)), (10, pt p145 0), (11, pt p154 0), (12, vi t)] ?_
               refine GL.q hK297 ?_
               have hV : (((padM b).getD ((64 * j) + (4 * t)) 0).toNat * 16777216 + ((padM b).getD (((64 * j) + (4 * t)) + 1) 0).toNat * 65536 + ((padM b).getD (((64 * j) + (4 * t)) + 2) 0).toNat * 256 + ((padM b).getD (((64 * j) + (4 * t)) + 3) 0).toNat) = if t < 16 then beF p (4 * t) 4 else ((wsN p t).getD (t - 16) 0 + ssg0 ((wsN p t).getD (t - 15) 0) + (wsN p t).getD (t - 7) 0 + ssg1 ((wsN p t).getD (t - 2) 0)) % W32 := by rw [if_pos (by omega), be4, hp, part_at (by omega), part_at (by omega), part_at (by omega), part_at (by omega)]; rfl
               have H369 : Hp w [] [.blk p3 (by8 (bsP (outB (blocks (padM b) ((padM b).length / 64))) 32 0)) 23, .blk p9 (u32s KT) 96, .blk p13 (c8 h0 h1 h2 h3 h4 h5 h6 h7) 97, .row A27 64 c28 31 1 (dg PR), .row B_ (b.length + 1 + padZ b.length + 8) C_ 5 1 (by8 (padM b)), .row (some ⟨p53, 0, none⟩) 1 1 5 1 (by8 ([128] : List UInt8)), .blk p145 (u32s (wsP p (t + 1))) 96, .blk p154 (c8 a b_ c_ d e f g h) 97] w366 := by rw [← wsP_set (v := (((padM b).getD ((64 * j) + (4 * t)) 0).toNat * 16777216 + ((padM b).getD (((64 * j) + (4 * t)) + 1) 0).toNat * 65536 + ((padM b).getD (((64 * j) + (4 * t)) + 2) 0).toNat * 256 + ((padM b).getD (((64 * j) + (4 * t)) + 3) 0).toNat)) (by omega) hV]; exact H368
               refine G.fit [2, 3, 4, 7, 9, 10, 11, 12] (M' := [(2, pt p3 0), (3, pt p9 0), (4, pt p13 0), (7, .slice B_ (b.length + 1 + padZ b.length + 8) C_), (9, vi (64 * j)), (10, pt p145 0), (11, pt p154 0), (12, vi t)]) (by kernel_rfl) ?_
               exact J295 () _ ⟨trivial, H369⟩
           · skip
             rintro u_ w370 ⟨hi371, H372⟩
             refine G.eq (M' := [(2, pt p3 0), (3, pt p9 0), (4, pt p13 0), (7, .slice B_ (b.length + 1 + padZ b.length + 8) C_), (9, vi (64 * j)), (10, pt p145 0), (11, pt p154 0), (12, vi t)]) rfl ?_
             have hst : (wsN p 64).getD t 0 = (wsN p (t + 1)).getD t 0 := by rw [show 64 = (t + 1) + (63 - t) by omega]; exact wsN_stable p (by omega) _
             refine G.seqK fun K373 hK374 => ?_
             refine G.heldP (Hp w [] [.blk p3 (by8 (bsP (outB (blocks (padM b) ((padM b).length / 64))) 32 0)) 23, .blk p9 (u32s KT) 96, .blk p13 (c8 h0 h1 h2 h3 h4 h5 h6 h7) 97, .row A27 64 c28 31 1 (dg PR), .row B_ (b.length + 1 + padZ b.length + 8) C_ 5 1 (by8 (padM b)), .row (some ⟨p53, 0, none⟩) 1 1 5 1 (by8 ([128] : List UInt8)), .blk p145 (u32s (wsP p (t + 1))) 96, .blk p154 (c8 a b_ c_ d e f g h) 97]) (by kernel_rfl) (by kernel_rfl) (fun c_ a_ d_ v_ w_ h_ => hPan c_ a_ d_ v_ w_ h_) ?_
             have H375 := H372.drew
             generalize ({ w370 with drawn := w370.drawn + 1 } : World) = w376 at H375 ⊢
             have hS377 : Hp w [] [.blk p3 (by8 (bsP (outB (blocks (padM b) ((padM b).length / 64))) 32 0)) 23, .blk p9 (u32s KT) 96, .blk p13 (c8 h0 h1 h2 h3 h4 h5 h6 h7) 97, .row A27 64 c28 31 1 (dg PR), .row B_ (b.length + 1 + padZ b.length + 8) C_ 5 1 (by8 (padM b)), .row (some ⟨p53, 0, none⟩) 1 1 5 1 (by8 ([128] : List UInt8)), .blk p145 (u32s (wsP p (t + 1))) 96, .blk p154 (c8 a b_ c_ d e f g h) 97] w376 := H375.sub (List.Sublist.cons_cons _ (List.Sublist.cons_cons _ (List.Sublist.cons_cons _ (List.Sublist.cons_cons _ (List.Sublist.cons_cons _ (List.Sublist.cons_cons _ (List.Sublist.cons_cons _ (List.Sublist.cons_cons _ (List.Sublist.slnil)))))))))
             refine GP.r [0] [(2, pt p3 0), (3, pt p9 0), (4, pt p13 0), (7, .slice B_ (b.length + 1 + padZ b.length + 8) C_), (9, vi (64 * j)), (10, pt p145 0), (11, pt p154 0), (12, vi t), (169, pt p154 7)] [0] hS377 ?_
             refine GP.s 1 (fun w_ H_ => H_.ld (o := 7) (ty := 22) (v := vw h) 7 rfl (by kernel_rfl) rfl) [(2, pt p3 0), (3, pt p9 0), (4, pt p13 0), (7, .slice B_ (b.length + 1 + padZ b.length + 8) C_), (9, vi (64 * j)), (10, pt p145 0), (11, pt p154 0), (12, vi t), (170, vw h)] hS377 ?_
             refine GP.r [2] [(2, pt p3 0), (3, pt p9 0), (4, pt p13 0), (7, .slice B_ (b.length + 1 + padZ b.length + 8) C_), (9, vi (64 * j)), (10, pt p145 0), (11, pt p154 0), (12, vi t), (170, vw h), (171, pt p154 4)] [0, 1, 2] hS377 ?_
             refine GP.s 3 (fun w_ H_ => H_.ld (o := 4) (ty := 22) (v := vw e) 7 rfl (by kernel_rfl) rfl) [(2, pt p3 0), (3, pt p9 0), (4, pt p13 0), (7, .slice B_ (b.length + 1 + padZ b.length + 8) C_), (9, vi (64 * j)), (10, pt p145 0), (11, pt p154 0), (12, vi t), (170, vw h), (172, vw e)] hS377 ?_
             refine GP.r [5] [(2, pt p3 0), (3, pt p9 0), (4, pt p13 0), (7, .slice B_ (b.length + 1 + padZ b.length + 8) C_), (9, vi (64 * j)), (10, pt p145 0), (11, pt p154 0), (12, vi t), (170, vw h), (172, vw e), (174, pt p154 4)] [0, 1, 2, 3, 5] hS377 ?_
             refine GP.s 6 (fun w_ H_ => H_.ld (o := 4) (ty := 22) (v := vw e) 7 rfl (by kernel_rfl) rfl) [(2, pt p3 0), (3, pt p9 0), (4, pt p13 0), (7, .slice B_ (b.length + 1 + padZ b.length + 8) C_), (9, vi (64 * j)), (10, pt p145 0), (11, pt p154 0), (12, vi t), (170, vw h), (172, vw e), (175, vw e)] hS377 ?_
             refine GP.r [9] [(2, pt p3 0), (3, pt p9 0), (4, pt p13 0), (7, .slice B_ (b.length + 1 + padZ b.length + 8) C_), (9, vi (64 * j)), (10, pt p145 0), (11, pt p154 0), (12, vi t), (170, vw h), (172, vw e), (175, vw e), (178, pt p154 4)] [0, 1, 2, 3, 5, 6, 9] hS377 ?_
             refine GP.s 10 (fun w_ H_ => H_.ld (o := 4) (ty := 22) (v := vw e) 7 rfl (by kernel_rfl) rfl) [(2, pt p3 0), (3, pt p9 0), (4, pt p13 0), (7, .slice B_ (b.length + 1 + padZ b.length + 8) C_), (9, vi (64 * j)), (10, pt p145 0), (11, pt p154 0), (12, vi t), (170, vw h), (172, vw e), (175, vw e), (179, vw e)] hS377 ?_
             refine GP.r [14] [(2, pt p3 0), (3, pt p9 0), (4, pt p13 0), (7, .slice B_ (b.length + 1 + padZ b.length + 8) C_), (9, vi (64 * j)), (10, pt p145 0), (11, pt p154 0), (12, vi t), (170, vw h), (172, vw e), (175, vw e), (179, vw e), (183, pt p154 4)] [0, 1, 2, 3, 5, 6, 9, 10, 14] hS377 ?_
             refine GP.s 15 (fun w_ H_ => H_.ld (o := 4) (ty := 22) (v := vw e) 7 rfl (by kernel_rfl) rfl) [(2, pt p3 0), (3, pt p9 0), (4, pt p13 0), (7, .slice B_ (b.length + 1 + padZ b.length + 8) C_), (9, vi (64 * j)), (10, pt p145 0), (11, pt p154 0), (12, vi t), (170, vw h), (172, vw e), (175, vw e), (179, vw e), (184, vw e)] hS377 ?_
             refine GP.r [16] [(2, pt p3 0), (3, pt p9 0), (4, pt p13 0), (7, .slice B_ (b.length + 1 + padZ b.length + 8) C_), (9, vi (64 * j)), (10, pt p145 0), (11, pt p154 0), (12, vi t), (170, vw h), (172, vw e), (175, vw e), (179, vw e), (184, vw e), (185, pt p154 5)] [0, 1, 2, 3, 5, 6, 9, 10, 14, 15, 16] hS377 ?_
             refine GP.s 17 (fun w_ H_ => H_.ld (o := 5) (ty := 22) (v := vw f) 7 rfl (by kernel_rfl) rfl) [(2, pt p3 0), (3, pt p9 0), (4, pt p13 0), (7, .slice B_ (b.length + 1 + padZ b.length + 8) C_), (9, vi (64 * j)), (10, pt p145 0), (11, pt p154 0), (12, vi t), (170, vw h), (172, vw e), (175, vw e), (179, vw e), (184, vw e), (186, vw f)] hS377 ?_
             refine GP.r [18, 19] [(2, pt p3 0), (3, pt p9 0), (4, pt p13 0), (7, .slice B_ (b.length + 1 + padZ b.length + 8) C_), (9, vi (64 * j)), (10, pt p145 0), (11, pt p154 0), (12, vi t), (170, vw h), (172, vw e), (175, vw e), (179, vw e), (187, lw (Go.bits .and .u32 (e : Int) (f : Int))), (188, pt p154 4)] [0, 1, 2, 3, 5, 6, 9, 10, 14, 15, 16, 17, 18, 19] hS377 ?_
             have e378 : (Go.bits .and .u32 (e : Int) (f : Int)) = (((e &&& f) : Nat) : Int) := w_and g4 g5
             refine GP.eq (M' := [(2, pt p3 0), (3, pt p9 0), (4, pt p13 0), (7, .slice B_ (b.length + 1 + padZ b.length + 8) C_), (9, vi (64 * j)), (10, pt p145 0), (11, pt p154 0), (12, vi t), (170, vw h), (172, vw e), (175, vw e), (179, vw e), (187, vw (e &&& f)), (188, pt p154 4)]) (by rw [e378]) ?_
             clear e378
             refine GP.s 20 (fun w_ H_ => H_.ld (o := 4) (ty := 22) (v := vw e) 7 rfl (by kernel_rfl) rfl) [(2, pt p3 0), (3, pt p9 0), (4, pt p13 0), (7, .slice B_ (b.length + 1 + padZ b.length + 8) C_), (9, vi (64 * j)), (10, pt p145 0), (11, pt p154 0), (12, vi t), (170, vw h), (172, vw e), (175, vw e), (179, vw e), (187, vw (e &&& f)), (189, vw e)] hS377 ?_
             refine GP.r [21, 22] [(2, pt p3 0), (3, pt p9 0), (4, pt p13 0), (7, .slice B_ (b.length + 1 + padZ b.length + 8) C_), (9, vi (64 * j)), (10, pt p145 0), (11, pt p154 0), (12, vi t), (170, vw h), (172, vw e), (175, vw e), (179, vw e), (187, vw (e &&& f)), (190, lw (Go.bits .xor .u32 4294967295 (e : Int))), (191, pt p154 6)] [0, 1, 2, 3, 5, 6, 9, 10, 14, 15, 16, 17, 18, 19, 20, 21, 22] hS377 ?_
             have e379 : (Go.bits .xor .u32 4294967295 (e : Int)) = (((4294967295 ^^^ e) : Nat) : Int) := w_xor (by decide) g4
             refine GP.eq (M' := [(2, pt p3 0), (3, pt p9 0), (4, pt p13 0), (7, .slice B_ (b.length + 1 + padZ b.length + 8) C_), (9, vi (64 * j)), (10, pt p145 0), (11, pt p154 0), (12, vi t), (170, vw h), (172, vw e), (175, vw e), (179, vw e), (187, vw (e &&& f)), (190, vw (4294967295 ^^^ e)), (191, pt p154 6)]) (by rw [e379]) ?_
             clear e379
             refine GP.s 23 (fun w_ H_ => H_.ld (o := 6) (ty := 22) (v := vw g) 7 rfl (by kernel_rfl) rfl) [(2, pt p3 0), (3, pt p9 0), (4, pt p13 0), (7, .slice B_ (b.length + 1 + padZ b.length + 8) C_), (9, vi (64 * j)), (10, pt p145 0), (11, pt p154 0), (12, vi t), (170, vw h), (172, vw e), (175, vw e), (179, vw e), (187, vw (e &&& f)), (190, vw (4294967295 ^^^ e)), (192, vw g)] hS377 ?_
             refine GP.r [24, 25, 27] [(2, pt p3 0), (3, pt p9 0), (4, pt p13 0), (7, .slice B_ (b.length + 1 + padZ b.length + 8) C_), (9, vi (64 * j)), (10, pt p145 0), (11, pt p154 0), (12, vi t), (170, vw h), (172, vw e), (175, vw e), (179, vw e), (194, lw (Go.bits .xor .u32 (((e &&& f) : Nat) : Int) (Go.bits .and .u32 (((4294967295 ^^^ e) : Nat) : Int) (g : Int)))), (196, vi t)] [0, 1, 2, 3, 5, 6, 9, 10, 14, 15, 16, 17, 18, 19, 20, 21, 22, 23, 24, 25, 27] hS377 ?_
             have e380 : (Go.bits .and .u32 (((4294967295 ^^^ e) : Nat) : Int) (g : Int)) = ((((4294967295 ^^^ e) &&& g) : Nat) : Int) := w_and (xor_lt32 (by decide) g4) g6
             have e381 : (Go.bits .xor .u32 (((e &&& f) : Nat) : Int) ((((4294967295 ^^^ e) &&& g) : Nat) : Int)) = (((chf e f g) : Nat) : Int) := w_xor (and_lt32 g4) (and_lt32 (xor_lt32 (by decide) g4))
             refine GP.eq (M' := [(2, pt p3 0), (3, pt p9 0), (4, pt p13 0), (7, .slice B_ (b.length + 1 + padZ b.length + 8) C_), (9, vi (64 * j)), (10, pt p145 0), (11, pt p154 0), (12, vi t), (170, vw h), (172, vw e), (175, vw e), (179, vw e), (194, vw (chf e f g)), (196, vi t)]) (by rw [e380, e381]) ?_
             clear e380 e381
             refine GP.s 28 (fun w_ H_ => run_idxArr (P := Try.prog) (k := .i64) (t := 96) (len := 64) (sz := 1) (b := p9) (o := 0) (j := t) (by kernel_rfl) rfl (by omega)) [(2, pt p3 0), (3, pt p9 0), (4, pt p13 0), (7, .slice B_ (b.length + 1 + padZ b.length + 8) C_), (9, vi (64 * j)), (10, pt p145 0), (11, pt p154 0), (12, vi t), (170, vw h), (172, vw e), (175, vw e), (179, vw e), (194, vw (chf e f g)), (197, pt p9 (0 + t * 1))] hS377 ?_
             refine GP.s 29 (fun w_ H_ => H_.ld (o := (0 + t * 1)) (ty := 22) (v := vw (KT.getD t 0)) 1 rfl (by kernel_rfl) (by rw [show (0 + t * 1) = t by omega]; exact u32s_at (getD_at (by rw [KT_length]; omega)))) [(2, pt p3 0), (3, pt p9 0), (4, pt p13 0), (7, .slice B_ (b.length + 1 + padZ b.length + 8) C_), (9, vi (64 * j)), (10, pt p145 0), (11, pt p154 0), (12, vi t), (170, vw h), (172, vw e), (175, vw e), (179, vw e), (194, vw (chf e f g)), (198, vw (KT.getD t 0))] hS377 ?_
             refine GP.r [31] [(2, pt p3 0), (3, pt p9 0), (4, pt p13 0), (7, .slice B_ (b.length + 1 + padZ b.length + 8) C_), (9, vi (64 * j)), (10, pt p145 0), (11, pt p154 0), (12, vi t), (170, vw h), (172, vw e), (175, vw e), (179, vw e), (194, vw (chf e f g)), (198, vw (KT.getD t 0)), (200, vi t)] [0, 1, 2, 3, 5, 6, 9, 10, 14, 15, 16, 17, 18, 19, 20, 21, 22, 23, 24, 25, 27, 28, 29, 31] hS377 ?_
             refine GP.s 32 (fun w_ H_ => run_idxArr (P := Try.prog) (k := .i64) (t := 96) (len := 64) (sz := 1) (b := p145) (o := 0) (j := t) (by kernel_rfl) rfl (by omega)) [(2, pt p3 0), (3, pt p9 0), (4, pt p13 0), (7, .slice B_ (b.length + 1 + padZ b.length + 8) C_), (9, vi (64 * j)), (10, pt p145 0), (11, pt p154 0), (12, vi t), (170, vw h), (172, vw e), (175, vw e), (179, vw e), (194, vw (chf e f g)), (198, vw (KT.getD t 0)), (201, pt p145 (0 + t * 1))] hS377 ?_
             refine GP.s 33 (fun w_ H_ => H_.ld (o := (0 + t * 1)) (ty := 22) (v := vw ((wsN p (t + 1)).getD t 0)) 6 rfl (by kernel_rfl) (by rw [show (0 + t * 1) = t by omega]; exact u32s_at (wsP_at (by omega) (by omega)))) [(2, pt p3 0), (3, pt p9 0), (4, pt p13 0), (7, .slice B_ (b.length + 1 + padZ b.length + 8) C_), (9, vi (64 * j)), (10, pt p145 0), (11, pt p154 0), (12, vi t), (170, vw h), (172, vw e), (175, vw e), (179, vw e), (194, vw (chf e f g)), (198, vw (KT.getD t 0)), (202, vw ((wsN p (t + 1)).getD t 0))] hS377 ?_
             refine GP.call 4 (TurnR6_calls e g4 w376) (by kernel_rfl) (by kernel_rfl) (fun e_ w382 hR => ?_)
             obtain ⟨rfl, H384⟩ := hR
             have H383 : Hp w [] [.blk p3 (by8 (bsP (outB (blocks (padM b) ((padM b).length / 64))) 32 0)) 23, .blk p9 (u32s KT) 96, .blk p13 (c8 h0 h1 h2 h3 h4 h5 h6 h7) 97, .row A27 64 c28 31 1 (dg PR), .row B_ (b.length + 1 + padZ b.length + 8) C_ 5 1 (by8 (padM b)), .row (some ⟨p53, 0, none⟩) 1 1 5 1 (by8 ([128] : List UInt8)), .blk p145 (u32s (wsP p (t + 1))) 96, .blk p154 (c8 a b_ c_ d e f g h) 97] w382 := H375.callNil H384
             have hS385 : Hp w [] [.blk p3 (by8 (bsP (outB (blocks (padM b) ((padM b).length / 64))) 32 0)) 23, .blk p9 (u32s KT) 96, .blk p13 (c8 h0 h1 h2 h3 h4 h5 h6 h7) 97, .row A27 64 c28 31 1 (dg PR), .row B_ (b.length + 1 + padZ b.length + 8) C_ 5 1 (by8 (padM b)), .row (some ⟨p53, 0, none⟩) 1 1 5 1 (by8 ([128] : List UInt8)), .blk p145 (u32s (wsP p (t + 1))) 96, .blk p154 (c8 a b_ c_ d e f g h) 97] w382 := H383.sub (List.Sublist.cons_cons _ (List.Sublist.cons_cons _ (List.Sublist.cons_cons _ (List.Sublist.cons_cons _ (List.Sublist.cons_cons _ (List.Sublist.cons_cons _ (List.Sublist.cons_cons _ (List.Sublist.cons_cons _ (List.Sublist.slnil)))))))))
             refine ⟨_, rfl, hS385, [2, 3, 4, 7, 9, 10, 11, 12, 170, 173, 175, 179, 194, 198, 202], [(2, pt p3 0), (3, pt p9 0), (4, pt p13 0), (7, .slice B_ (b.length + 1 + padZ b.length + 8) C_), (9, vi (64 * j)), (10, pt p145 0), (11, pt p154 0), (12, vi t), (170, vw h), (173, vw (rt e 6)), (175, vw e), (179, vw e), (194, vw (chf e f g)), (198, vw (KT.getD t 0)), (202, vw ((wsN p (t + 1)).getD t 0))], by kernel_rfl, ?_⟩
             refine GP.call 7 (TurnR11_calls e g4 w382) (by kernel_rfl) (by kernel_rfl) (fun e_ w386 hR => ?_)
             obtain ⟨rfl, H388⟩ := hR
             have H387 : Hp w [] [.blk p3 (by8 (bsP (outB (blocks (padM b) ((padM b).length / 64))) 32 0)) 23, .blk p9 (u32s KT) 96, .blk p13 (c8 h0 h1 h2 h3 h4 h5 h6 h7) 97, .row A27 64 c28 31 1 (dg PR), .row B_ (b.length + 1 + padZ b.length + 8) C_ 5 1 (by8 (padM b)), .row (some ⟨p53, 0, none⟩) 1 1 5 1 (by8 ([128] : List UInt8)), .blk p145 (u32s (wsP p (t + 1))) 96, .blk p154 (c8 a b_ c_ d e f g h) 97] w386 := H383.callNil H388
             have hS389 : Hp w [] [.blk p3 (by8 (bsP (outB (blocks (padM b) ((padM b).length / 64))) 32 0)) 23, .blk p9 (u32s KT) 96, .blk p13 (c8 h0 h1 h2 h3 h4 h5 h6 h7) 97, .row A27 64 c28 31 1 (dg PR), .row B_ (b.length + 1 + padZ b.length + 8) C_ 5 1 (by8 (padM b)), .row (some ⟨p53, 0, none⟩) 1 1 5 1 (by8 ([128] : List UInt8)), .blk p145 (u32s (wsP p (t + 1))) 96, .blk p154 (c8 a b_ c_ d e f g h) 97] w386 := H387.sub (List.Sublist.cons_cons _ (List.Sublist.cons_cons _ (List.Sublist.cons_cons _ (List.Sublist.cons_cons _ (List.Sublist.cons_cons _ (List.Sublist.cons_cons _ (List.Sublist.cons_cons _ (List.Sublist.cons_cons _ (List.Sublist.slnil)))))))))
             refine ⟨_, rfl, hS389, [2, 3, 4, 7, 9, 10, 11, 12, 170, 173, 176, 179, 194, 198, 202], [(2, pt p3 0), (3, pt p9 0), (4, pt p13 0), (7, .slice B_ (b.length + 1 + padZ b.length + 8) C_), (9, vi (64 * j)), (10, pt p145 0), (11, pt p154 0), (12, vi t), (170, vw h), (173, vw (rt e 6)), (176, vw (rt e 11)), (179, vw e), (194, vw (chf e f g)), (198, vw (KT.getD t 0)), (202, vw ((wsN p (t + 1)).getD t 0))], by kernel_rfl, ?_⟩
             refine GP.r [8] [(2, pt p3 0), (3, pt p9 0), (4, pt p13 0), (7, .slice B_ (b.length + 1 + padZ b.length + 8) C_), (9, vi (64 * j)), (10, pt p145 0), (11, pt p154 0), (12, vi t), (170, vw h), (177, lw (Go.bits .xor .u32 (((rt e 6) : Nat) : Int) (((rt e 11) : Nat) : Int))), (179, vw e), (194, vw (chf e f g)), (198, vw (KT.getD t 0)), (202, vw ((wsN p (t + 1)).getD t 0))] [0, 1, 2, 3, 5, 6, 9, 10, 14, 15, 16, 17, 18, 19, 20, 21, 22, 23, 24, 25, 27, 28, 29, 31, 32, 33, 4, 7, 8] hS389 ?_
             have e390 : (Go.bits .xor .u32 (((rt e 6) : Nat) : Int) (((rt e 11) : Nat) : Int)) = ((((rt e 6) ^^^ (rt e 11)) : Nat) : Int) := w_xor (rt_lt g4) (rt_lt g4)
             refine GP.eq (M' := [(2, pt p3 0), (3, pt p9 0), (4, pt p13 0), (7, .slice B_ (b.length + 1 + padZ b.length + 8) C_), (9, vi (64 * j)), (10, pt p145 0), (11, pt p154 0), (12, vi t), (170, vw h), (177, vw ((rt e 6) ^^^ (rt e 11))), (179, vw e), (194, vw (chf e f g)), (198, vw (KT.getD t 0)), (202, vw ((wsN p (t + 1)).getD t 0))]) (by rw [e390]) ?_
             clear e390
             refine GP.call 11 (TurnR25_calls e g4 w386) (by kernel_rfl) (by kernel_rfl) (fun e_ w391 hR => ?_)
             obtain ⟨rfl, H393⟩ := hR
             have H392 : Hp w [] [.blk p3 (by8 (bsP (outB (blocks (padM b) ((padM b).length / 64))) 32 0)) 23, .blk p9 (u32s KT) 96, .blk p13 (c8 h0 h1 h2 h3 h4 h5 h6 h7) 97, .row A27 64 c28 31 1 (dg PR), .row B_ (b.length + 1 + padZ b.length + 8) C_ 5 1 (by8 (padM b)), .row (some ⟨p53, 0, none⟩) 1 1 5 1 (by8 ([128] : List UInt8)), .blk p145 (u32s (wsP p (t + 1))) 96, .blk p154 (c8 a b_ c_ d e f g h) 97] w391 := H387.callNil H393
             have hS394 : Hp w [] [.blk p3 (by8 (bsP (outB (blocks (padM b) ((padM b).length / 64))) 32 0)) 23, .blk p9 (u32s KT) 96, .blk p13 (c8 h0 h1 h2 h3 h4 h5 h6 h7) 97, .row A27 64 c28 31 1 (dg PR), .row B_ (b.length + 1 + padZ b.length + 8) C_ 5 1 (by8 (padM b)), .row (some ⟨p53, 0, none⟩) 1 1 5 1 (by8 ([128] : List UInt8)), .blk p145 (u32s (wsP p (t + 1))) 96, .blk p154 (c8 a b_ c_ d e f g h) 97] w391 := H392.sub (List.Sublist.cons_cons _ (List.Sublist.cons_cons _ (List.Sublist.cons_cons _ (List.Sublist.cons_cons _ (List.Sublist.cons_cons _ (List.Sublist.cons_cons _ (List.Sublist.cons_cons _ (List.Sublist.cons_cons _ (List.Sublist.slnil)))))))))
             refine ⟨_, rfl, hS394, [2, 3, 4, 7, 9, 10, 11, 12, 170, 177, 180, 194, 198, 202], [(2, pt p3 0), (3, pt p9 0), (4, pt p13 0), (7, .slice B_ (b.length + 1 + padZ b.length + 8) C_), (9, vi (64 * j)), (10, pt p145 0), (11, pt p154 0), (12, vi t), (170, vw h), (177, vw ((rt e 6) ^^^ (rt e 11))), (180, vw (rt e 25)), (194, vw (chf e f g)), (198, vw (KT.getD t 0)), (202, vw ((wsN p (t + 1)).getD t 0))], by kernel_rfl, ?_⟩
             refine GP.r [12, 13, 26, 30, 34, 35] [(2, pt p3 0), (3, pt p9 0), (4, pt p13 0), (7, .slice B_ (b.length + 1 + padZ b.length + 8) C_), (9, vi (64 * j)), (10, pt p145 0), (11, pt p154 0), (12, vi t), (13, lw (IntKind.u32.wrap ((IntKind.u32.wrap ((IntKind.u32.wrap ((IntKind.u32.wrap ((h : Int) + (Go.bits .xor .u32 ((((rt e 6) ^^^ (rt e 11)) : Nat) : Int) (((rt e 25) : Nat) : Int)))) + (((chf e f g) : Nat) : Int))) + (((KT.getD t 0) : Nat) : Int))) + ((((wsN p (t + 1)).getD t 0) : Nat) : Int))))] [0, 1, 2, 3, 5, 6, 9, 10, 14, 15, 16, 17, 18, 19, 20, 21, 22, 23, 24, 25, 27, 28, 29, 31, 32, 33, 4, 7, 8, 11, 12, 13, 26, 30, 34, 35] hS394 ?_
             have e395 : (Go.bits .xor .u32 ((((rt e 6) ^^^ (rt e 11)) : Nat) : Int) (((rt e 25) : Nat) : Int)) = (((bsg1 e) : Nat) : Int) := w_xor (xor_lt32 (rt_lt g4) (rt_lt g4)) (rt_lt g4)
             have e396 : (IntKind.u32.wrap ((h : Int) + (((bsg1 e) : Nat) : Int))) = (((h + (bsg1 e)) % W32 : Nat) : Int) := w_add _ _
             have e397 : (IntKind.u32.wrap ((((h + (bsg1 e)) % W32 : Nat) : Int) + (((chf e f g) : Nat) : Int))) = (((h + (bsg1 e) + (chf e f g)) % W32 : Nat) : Int) := w_addm _ _
             have e398 : (IntKind.u32.wrap ((((h + (bsg1 e) + (chf e f g)) % W32 : Nat) : Int) + (((KT.getD t 0) : Nat) : Int))) = (((h + (bsg1 e) + (chf e f g) + (KT.getD t 0)) % W32 : Nat) : Int) := w_addm _ _
             have e399 : (IntKind.u32.wrap ((((h + (bsg1 e) + (chf e f g) + (KT.getD t 0)) % W32 : Nat) : Int) + ((((wsN p (t + 1)).getD t 0) : Nat) : Int))) = (((h + (bsg1 e) + (chf e f g) + (KT.getD t 0) + ((wsN p (t + 1)).getD t 0)) % W32 : Nat) : Int) := w_addm _ _
             refine GP.eq (M' := [(2, pt p3 0), (3, pt p9 0), (4, pt p13 0), (7, .slice B_ (b.length + 1 + padZ b.length + 8) C_), (9, vi (64 * j)), (10, pt p145 0), (11, pt p154 0), (12, vi t), (13, vw ((h + (bsg1 e) + (chf e f g) + (KT.getD t 0) + ((wsN p (t + 1)).getD t 0)) % W32))]) (by rw [e395, e396, e397, e398, e399]) ?_
             clear e395 e396 e397 e398 e399
             refine GP.k (by kernel_rfl) hK374 (fun _ _ h => h) ?_
             refine G.seqK fun K400 hK401 => ?_
             refine G.heldP (Hp w [] [.blk p3 (by8 (bsP (outB (blocks (padM b) ((padM b).length / 64))) 32 0)) 23, .blk p9 (u32s KT) 96, .blk p13 (c8 h0 h1 h2 h3 h4 h5 h6 h7) 97, .row A27 64 c28 31 1 (dg PR), .row B_ (b.length + 1 + padZ b.length + 8) C_ 5 1 (by8 (padM b)), .row (some ⟨p53, 0, none⟩) 1 1 5 1 (by8 ([128] : List UInt8)), .blk p145 (u32s (wsP p (t + 1))) 96, .blk p154 (c8 a b_ c_ d e f g h) 97]) (by kernel_rfl) (by kernel_rfl) (fun c_ a_ d_ v_ w_ h_ => hPan c_ a_ d_ v_ w_ h_) ?_
             have H402 := H392.drew
             generalize ({ w391 with drawn := w391.drawn + 1 } : World) = w403 at H402 ⊢
             have hS404 : Hp w [] [.blk p3 (by8 (bsP (outB (blocks (padM b) ((padM b).length / 64))) 32 0)) 23, .blk p9 (u32s KT) 96, .blk p13 (c8 h0 h1 h2 h3 h4 h5 h6 h7) 97, .row A27 64 c28 31 1 (dg PR), .row B_ (b.length + 1 + padZ b.length + 8) C_ 5 1 (by8 (padM b)), .row (some ⟨p53, 0, none⟩) 1 1 5 1 (by8 ([128] : List UInt8)), .blk p145 (u32s (wsP p (t + 1))) 96, .blk p154 (c8 a b_ c_ d e f g h) 97] w403 := H402.sub (List.Sublist.cons_cons _ (List.Sublist.cons_cons _ (List.Sublist.cons_cons _ (List.Sublist.cons_cons _ (List.Sublist.cons_cons _ (List.Sublist.cons_cons _ (List.Sublist.cons_cons _ (List.Sublist.cons_cons _ (List.Sublist.slnil)))))))))
             refine GP.r [0] [(2, pt p3 0), (3, pt p9 0), (4, pt p13 0), (7, .slice B_ (b.length + 1 + padZ b.length + 8) C_), (9, vi (64 * j)), (10, pt p145 0), (11, pt p154 0), (12, vi t), (13, vw ((h + (bsg1 e) + (chf e f g) + (KT.getD t 0) + ((wsN p (t + 1)).getD t 0)) % W32)), (204, pt p154 0)] [0] hS404 ?_
             refine GP.s 1 (fun w_ H_ => H_.ld (o := 0) (ty := 22) (v := vw a) 7 rfl (by kernel_rfl) rfl) [(2, pt p3 0), (3, pt p9 0), (4, pt p13 0), (7, .slice B_ (b.length + 1 + padZ b.length + 8) C_), (9, vi (64 * j)), (10, pt p145 0), (11, pt p154 0), (12, vi t), (13, vw ((h + (bsg1 e) + (chf e f g) + (KT.getD t 0) + ((wsN p (t + 1)).getD t 0)) % W32)), (205, vw a)] hS404 ?_
             refine GP.r [3] [(2, pt p3 0), (3, pt p9 0), (4, pt p13 0), (7, .slice B_ (b.length + 1 + padZ b.length + 8) C_), (9, vi (64 * j)), (10, pt p145 0), (11, pt p154 0), (12, vi t), (13, vw ((h + (bsg1 e) + (chf e f g) + (KT.getD t 0) + ((wsN p (t + 1)).getD t 0)) % W32)), (205, vw a), (207, pt p154 0)] [0, 1, 3] hS404 ?_
             refine GP.s 4 (fun w_ H_ => H_.ld (o := 0) (ty := 22) (v := vw a) 7 rfl (by kernel_rfl) rfl) [(2, pt p3 0), (3, pt p9 0), (4, pt p13 0), (7, .slice B_ (b.length + 1 + padZ b.length + 8) C_), (9, vi (64 * j)), (10, pt p145 0), (11, pt p154 0), (12, vi t), (13, vw ((h + (bsg1 e) + (chf e f g) + (KT.getD t 0) + ((wsN p (t + 1)).getD t 0)) % W32)), (205, vw a), (208, vw a)] hS404 ?_
             refine GP.r [7] [(2, pt p3 0), (3, pt p9 0), (4, pt p13 0), (7, .slice B_ (b.length + 1 + padZ b.length + 8) C_), (9, vi (64 * j)), (10, pt p145 0), (11, pt p154 0), (12, vi t), (13, vw ((h + (bsg1 e) + (chf e f g) + (KT.getD t 0) + ((wsN p (t + 1)).getD t 0)) % W32)), (205, vw a), (208, vw a), (211, pt p154 0)] [0, 1, 3, 4, 7] hS404 ?_
             refine GP.s 8 (fun w_ H_ => H_.ld (o := 0) (ty := 22) (v := vw a) 7 rfl (by kernel_rfl) rfl) [(2, pt p3 0), (3, pt p9 0), (4, pt p13 0), (7, .slice B_ (b.length + 1 + padZ b.length + 8) C_), (9, vi (64 * j)), (10, pt p145 0), (11, pt p154 0), (12, vi t), (13, vw ((h + (bsg1 e) + (chf e f g) + (KT.getD t 0) + ((wsN p (t + 1)).getD t 0)) % W32)), (205, vw a), (208, vw a), (212, vw a)] hS404 ?_
             refine GP.r [11] [(2, pt p3 0), (3, pt p9 0), (4, pt p13 0), (7, .slice B_ (b.length + 1 + padZ b.length + 8) C_), (9, vi (64 * j)), (10, pt p145 0), (11, pt p154 0), (12, vi t), (13, vw ((h + (bsg1 e) + (chf e f g) + (KT.getD t 0) + ((wsN p (t + 1)).getD t 0)) % W32)), (205, vw a), (208, vw a), (212, vw a), (215, pt p154 0)] [0, 1, 3, 4, 7, 8, 11] hS404 ?_
             refine GP.s 12 (fun w_ H_ => H_.ld (o := 0) (ty := 22) (v := vw a) 7 rfl (by kernel_rfl) rfl) [(2, pt p3 0), (3, pt p9 0), (4, pt p13 0), (7, .slice B_ (b.length + 1 + padZ b.length + 8) C_), (9, vi (64 * j)), (10, pt p145 0), (11, pt p154 0), (12, vi t), (13, vw ((h + (bsg1 e) + (chf e f g) + (KT.getD t 0) + ((wsN p (t + 1)).getD t 0)) % W32)), (205, vw a), (208, vw a), (212, vw a), (216, vw a)] hS404 ?_
             refine GP.r [13] [(2, pt p3 0), (3, pt p9 0), (4, pt p13 0), (7, .slice B_ (b.length + 1 + padZ b.length + 8) C_), (9, vi (64 * j)), (10, pt p145 0), (11, pt p154 0), (12, vi t), (13, vw ((h + (bsg1 e) + (chf e f g) + (KT.getD t 0) + ((wsN p (t + 1)).getD t 0)) % W32)), (205, vw a), (208, vw a), (212, vw a), (216, vw a), (217, pt p154 1)] [0, 1, 3, 4, 7, 8, 11, 12, 13] hS404 ?_
             refine GP.s 14 (fun w_ H_ => H_.ld (o := 1) (ty := 22) (v := vw b_) 7 rfl (by kernel_rfl) rfl) [(2, pt p3 0), (3, pt p9 0), (4, pt p13 0), (7, .slice B_ (b.length + 1 + padZ b.length + 8) C_), (9, vi (64 * j)), (10, pt p145 0), (11, pt p154 0), (12, vi t), (13, vw ((h + (bsg1 e) + (chf e f g) + (KT.getD t 0) + ((wsN p (t + 1)).getD t 0)) % W32)), (205, vw a), (208, vw a), (212, vw a), (216, vw a), (218, vw b_)] hS404 ?_
             refine GP.r [15, 16] [(2, pt p3 0), (3, pt p9 0), (4, pt p13 0), (7, .slice B_ (b.length + 1 + padZ b.length + 8) C_), (9, vi (64 * j)), (10, pt p145 0), (11, pt p154 0), (12, vi t), (13, vw ((h + (bsg1 e) + (chf e f g) + (KT.getD t 0) + ((wsN p (t + 1)).getD t 0)) % W32)), (205, vw a), (208, vw a), (212, vw a), (219, lw (Go.bits .and .u32 (a : Int) (b_ : Int))), (220, pt p154 0)] [0, 1, 3, 4, 7, 8, 11, 12, 13, 14, 15, 16] hS404 ?_
             have e405 : (Go.bits .and .u32 (a : Int) (b_ : Int)) = (((a &&& b_) : Nat) : Int) := w_and g0 g1
             refine GP.eq (M' := [(2, pt p3 0), (3, pt p9 0), (4, pt p13 0), (7, .slice B_ (b.length + 1 + padZ b.length + 8) C_), (9, vi (64 * j)), (10, pt p145 0), (11, pt p154 0), (12, vi t), (13, vw ((h + (bsg1 e) + (chf e f g) + (KT.getD t 0) + ((wsN p (t + 1)).getD t 0)) % W32)), (205, vw a), (208, vw a), (212, vw a), (219, vw (a &&& b_)), (220, pt p154 0)]) (by rw [e405]) ?_
             clear e405
             refine GP.s 17 (fun w_ H_ => H_.ld (o := 0) (ty := 22) (v := vw a) 7 rfl (by kernel_rfl) rfl) [(2, pt p3 0), (3, pt p9 0), (4, pt p13 0), (7, .slice B_ (b.length + 1 + padZ b.length + 8) C_), (9, vi (64 * j)), (10, pt p145 0), (11, pt p154 0), (12, vi t), (13, vw ((h + (bsg1 e) + (chf e f g) + (KT.getD t 0) + ((wsN p (t + 1)).getD t 0)) % W32)), (205, vw a), (208, vw a), (212, vw a), (219, vw (a &&& b_)), (221, vw a)] hS404 ?_
             refine GP.r [18] [(2, pt p3 0), (3, pt p9 0), (4, pt p13 0), (7, .slice B_ (b.length + 1 + padZ b.length + 8) C_), (9, vi (64 * j)), (10, pt p145 0), (11, pt p154 0), (12, vi t), (13, vw ((h + (bsg1 e) + (chf e f g) + (KT.getD t 0) + ((wsN p (t + 1)).getD t 0)) % W32)), (205, vw a), (208, vw a), (212, vw a), (219, vw (a &&& b_)), (221, vw a), (222, pt p154 2)] [0, 1, 3, 4, 7, 8, 11, 12, 13, 14, 15, 16, 17, 18] hS404 ?_
             refine GP.s 19 (fun w_ H_ => H_.ld (o := 2) (ty := 22) (v := vw c_) 7 rfl (by kernel_rfl) rfl) [(2, pt p3 0), (3, pt p9 0), (4, pt p13 0), (7, .slice B_ (b.length + 1 + padZ b.length + 8) C_), (9, vi (64 * j)), (10, pt p145 0), (11, pt p154 0), (12, vi t), (13, vw ((h + (bsg1 e) + (chf e f g) + (KT.getD t 0) + ((wsN p (t + 1)).getD t 0)) % W32)), (205, vw a), (208, vw a), (212, vw a), (219, vw (a &&& b_)), (221, vw a), (223, vw c_)] hS404 ?_
             refine GP.r [20, 21, 22] [(2, pt p3 0), (3, pt p9 0), (4, pt p13 0), (7, .slice B_ (b.length + 1 + padZ b.length + 8) C_), (9, vi (64 * j)), (10, pt p145 0), (11, pt p154 0), (12, vi t), (13, vw ((h + (bsg1 e) + (chf e f g) + (KT.getD t 0) + ((wsN p (t + 1)).getD t 0)) % W32)), (205, vw a), (208, vw a), (212, vw a), (225, lw (Go.bits .xor .u32 (((a &&& b_) : Nat) : Int) (Go.bits .and .u32 (a : Int) (c_ : Int)))), (226, pt p154 1)] [0, 1, 3, 4, 7, 8, 11, 12, 13, 14, 15, 16, 17, 18, 19, 20, 21, 22] hS404 ?_
             have e406 : (Go.bits .and .u32 (a : Int) (c_ : Int)) = (((a &&& c_) : Nat) : Int) := w_and g0 g2
             have e407 : (Go.bits .xor .u32 (((a &&& b_) : Nat) : Int) (((a &&& c_) : Nat) : Int)) = ((((a &&& b_) ^^^ (a &&& c_)) : Nat) : Int) := w_xor (and_lt32 g0) (and_lt32 g0)
             refine GP.eq (M' := [(2, pt p3 0), (3, pt p9 0), (4, pt p13 0), (7, .slice B_ (b.length + 1 + padZ b.length + 8) C_), (9, vi (64 * j)), (10, pt p145 0), (11, pt p154 0), (12, vi t), (13, vw ((h + (bsg1 e) + (chf e f g) + (KT.getD t 0) + ((wsN p (t + 1)).getD t 0)) % W32)), (205, vw a), (208, vw a), (212, vw a), (225, vw ((a &&& b_) ^^^ (a &&& c_))), (226, pt p154 1)]) (by rw [e406, e407]) ?_
             clear e406 e407
             refine GP.s 23 (fun w_ H_ => H_.ld (o := 1) (ty := 22) (v := vw b_) 7 rfl (by kernel_rfl) rfl) [(2, pt p3 0), (3, pt p9 0), (4, pt p13 0), (7, .slice B_ (b.length + 1 + padZ b.length + 8) C_), (9, vi (64 * j)), (10, pt p145 0), (11, pt p154 0), (12, vi t), (13, vw ((h + (bsg1 e) + (chf e f g) + (KT.getD t 0) + ((wsN p (t + 1)).getD t 0)) % W32)), (205, vw a), (208, vw a), (212, vw a), (225, vw ((a &&& b_) ^^^ (a &&& c_))), (227, vw b_)] hS404 ?_
             refine GP.r [24] [(2, pt p3 0), (3, pt p9 0), (4, pt p13 0), (7, .slice B_ (b.length + 1 + padZ b.length + 8) C_), (9, vi (64 * j)), (10, pt p145 0), (11, pt p154 0), (12, vi t), (13, vw ((h + (bsg1 e) + (chf e f g) + (KT.getD t 0) + ((wsN p (t + 1)).getD t 0)) % W32)), (205, vw a), (208, vw a), (212, vw a), (225, vw ((a &&& b_) ^^^ (a &&& c_))), (227, vw b_), (228, pt p154 2)] [0, 1, 3, 4, 7, 8, 11, 12, 13, 14, 15, 16, 17, 18, 19, 20, 21, 22, 23, 24] hS404 ?_
             refine GP.s 25 (fun w_ H_ => H_.ld (o := 2) (ty := 22) (v := vw c_) 7 rfl (by kernel_rfl) rfl) [(2, pt p3 0), (3, pt p9 0), (4, pt p13 0), (7, .slice B_ (b.length + 1 + padZ b.length + 8) C_), (9, vi (64 * j)), (10, pt p145 0), (11, pt p154 0), (12, vi t), (13, vw ((h + (bsg1 e) + (chf e f g) + (KT.getD t 0) + ((wsN p (t + 1)).getD t 0)) % W32)), (205, vw a), (208, vw a), (212, vw a), (225, vw ((a &&& b_) ^^^ (a &&& c_))), (227, vw b_), (229, vw c_)] hS404 ?_
             refine GP.r [26, 27] [(2, pt p3 0), (3, pt p9 0), (4, pt p13 0), (7, .slice B_ (b.length + 1 + padZ b.length + 8) C_), (9, vi (64 * j)), (10, pt p145 0), (11, pt p154 0), (12, vi t), (13, vw ((h + (bsg1 e) + (chf e f g) + (KT.getD t 0) + ((wsN p (t + 1)).getD t 0)) % W32)), (205, vw a), (208, vw a), (212, vw a), (231, lw (Go.bits .xor .u32 ((((a &&& b_) ^^^ (a &&& c_)) : Nat) : Int) (Go.bits .and .u32 (b_ : Int) (c_ : Int))))] [0, 1, 3, 4, 7, 8, 11, 12, 13, 14, 15, 16, 17, 18, 19, 20, 21, 22, 23, 24, 25, 26, 27] hS404 ?_
             have e408 : (Go.bits .and .u32 (b_ : Int) (c_ : Int)) = (((b_ &&& c_) : Nat) : Int) := w_and g1 g2
             have e409 : (Go.bits .xor .u32 ((((a &&& b_) ^^^ (a &&& c_)) : Nat) : Int) (((b_ &&& c_) : Nat) : Int)) = (((majf a b_ c_) : Nat) : Int) := w_xor (xor_lt32 (and_lt32 g0) (and_lt32 g0)) (and_lt32 g1)
             refine GP.eq (M' := [(2, pt p3 0), (3, pt p9 0), (4, pt p13 0), (7, .slice B_ (b.length + 1 + padZ b.length + 8) C_), (9, vi (64 * j)), (10, pt p145 0), (11, pt p154 0), (12, vi t), (13, vw ((h + (bsg1 e) + (chf e f g) + (KT.getD t 0) + ((wsN p (t + 1)).getD t 0)) % W32)), (205, vw a), (208, vw a), (212, vw a), (231, vw (majf a b_ c_))]) (by rw [e408, e409]) ?_
             clear e408 e409
             refine GP.call 2 (TurnR2_calls a g0 w403) (by kernel_rfl) (by kernel_rfl) (fun e_ w410 hR => ?_)
             obtain ⟨rfl, H412⟩ := hR
             have H411 : Hp w [] [.blk p3 (by8 (bsP (outB (blocks (padM b) ((padM b).length / 64))) 32 0)) 23, .blk p9 (u32s KT) 96, .blk p13 (c8 h0 h1 h2 h3 h4 h5 h6 h7) 97, .row A27 64 c28 31 1 (dg PR), .row B_ (b.length + 1 + padZ b.length + 8) C_ 5 1 (by8 (padM b)), .row (some ⟨p53, 0, none⟩) 1 1 5 1 (by8 ([128] : List UInt8)), .blk p145 (u32s (wsP p (t + 1))) 96, .blk p154 (c8 a b_ c_ d e f g h) 97] w410 := H402.callNil H412
             have hS413 : Hp w [] [.blk p3 (by8 (bsP (outB (blocks (padM b) ((padM b).length / 64))) 32 0)) 23, .blk p9 (u32s KT) 96, .blk p13 (c8 h0 h1 h2 h3 h4 h5 h6 h7) 97, .row A27 64 c28 31 1 (dg PR), .row B_ (b.length + 1 + padZ b.length + 8) C_ 5 1 (by8 (padM b)), .row (some ⟨p53, 0, none⟩) 1 1 5 1 (by8 ([128] : List UInt8)), .blk p145 (u32s (wsP p (t + 1))) 96, .blk p154 (c8 a b_ c_ d e f g h) 97] w410 := H411.sub (List.Sublist.cons_cons _ (List.Sublist.cons_cons _ (List.Sublist.cons_cons _ (List.Sublist.cons_cons _ (List.Sublist.cons_cons _ (List.Sublist.cons_cons _ (List.Sublist.cons_cons _ (List.Sublist.cons_cons _ (List.Sublist.slnil)))))))))
             refine ⟨_, rfl, hS413, [2, 3, 4, 7, 9, 10, 11, 12, 13, 206, 208, 212, 231], [(2, pt p3 0), (3, pt p9 0), (4, pt p13 0), (7, .slice B_ (b.length + 1 + padZ b.length + 8) C_), (9, vi (64 * j)), (10, pt p145 0), (11, pt p154 0), (12, vi t), (13, vw ((h + (bsg1 e) + (chf e f g) + (KT.getD t 0) + ((wsN p (t + 1)).getD t 0)) % W32)), (206, vw (rt a 2)), (208, vw a), (212, vw a), (231, vw (majf a b_ c_))], by kernel_rfl, ?_⟩
             refine GP.call 5 (TurnR13_calls a g0 w410) (by kernel_rfl) (by kernel_rfl) (fun e_ w414 hR => ?_)
             obtain ⟨rfl, H416⟩ := hR
             have H415 : Hp w [] [.blk p3 (by8 (bsP (outB (blocks (padM b) ((padM b).length / 64))) 32 0)) 23, .blk p9 (u32s KT) 96, .blk p13 (c8 h0 h1 h2 h3 h4 h5 h6 h7) 97, .row A27 64 c28 31 1 (dg PR), .row B_ (b.length + 1 + padZ b.length + 8) C_ 5 1 (by8 (padM b)), .row (some ⟨p53, 0, none⟩) 1 1 5 1 (by8 ([128] : List UInt8)), .blk p145 (u32s (wsP p (t + 1))) 96, .blk p154 (c8 a b_ c_ d e f g h) 97] w414 := H411.callNil H416
             have hS417 : Hp w [] [.blk p3 (by8 (bsP (outB (blocks (padM b) ((padM b).length / 64))) 32 0)) 23, .blk p9 (u32s KT) 96, .blk p13 (c8 h0 h1 h2 h3 h4 h5 h6 h7) 97, .row A27 64 c28 31 1 (dg PR), .row B_ (b.length + 1 + padZ b.length + 8) C_ 5 1 (by8 (padM b)), .row (some ⟨p53, 0, none⟩) 1 1 5 1 (by8 ([128] : List UInt8)), .blk p145 (u32s (wsP p (t + 1))) 96, .blk p154 (c8 a b_ c_ d e f g h) 97] w414 := H415.sub (List.Sublist.cons_cons _ (List.Sublist.cons_cons _ (List.Sublist.cons_cons _ (List.Sublist.cons_cons _ (List.Sublist.cons_cons _ (List.Sublist.cons_cons _ (List.Sublist.cons_cons _ (List.Sublist.cons_cons _ (List.Sublist.slnil)))))))))
             refine ⟨_, rfl, hS417, [2, 3, 4, 7, 9, 10, 11, 12, 13, 206, 209, 212, 231], [(2, pt p3 0), (3, pt p9 0), (4, pt p13 0), (7, .slice B_ (b.length + 1 + padZ b.length + 8) C_), (9, vi (64 * j)), (10, pt p145 0), (11, pt p154 0), (12, vi t), (13, vw ((h + (bsg1 e) + (chf e f g) + (KT.getD t 0) + ((wsN p (t + 1)).getD t 0)) % W32)), (206, vw (rt a 2)), (209, vw (rt a 13)), (212, vw a), (231, vw (majf a b_ c_))], by kernel_rfl, ?_⟩
             refine GP.r [6] [(2, pt p3 0), (3, pt p9 0), (4, pt p13 0), (7, .slice B_ (b.length + 1 + padZ b.length + 8) C_), (9, vi (64 * j)), (10, pt p145 0), (11, pt p154 0), (12, vi t), (13, vw ((h + (bsg1 e) + (chf e f g) + (KT.getD t 0) + ((wsN p (t + 1)).getD t 0)) % W32)), (210, lw (Go.bits .xor .u32 (((rt a 2) : Nat) : Int) (((rt a 13) : Nat) : Int))), (212, vw a), (231, vw (majf a b_ c_))] [0, 1, 3, 4, 7, 8, 11, 12, 13, 14, 15, 16, 17, 18, 19, 20, 21, 22, 23, 24, 25, 26, 27, 2, 5, 6] hS417 ?_
             have e418 : (Go.bits .xor .u32 (((rt a 2) : Nat) : Int) (((rt a 13) : Nat) : Int)) = ((((rt a 2) ^^^ (rt a 13)) : Nat) : Int) := w_xor (rt_lt g0) (rt_lt g0)
             refine GP.eq (M' := [(2, pt p3 0), (3, pt p9 0), (4, pt p13 0), (7, .slice B_ (b.length + 1 + padZ b.length + 8) C_), (9, vi (64 * j)), (10, pt p145 0), (11, pt p154 0), (12, vi t), (13, vw ((h + (bsg1 e) + (chf e f g) + (KT.getD t 0) + ((wsN p (t + 1)).getD t 0)) % W32)), (210, vw ((rt a 2) ^^^ (rt a 13))), (212, vw a), (231, vw (majf a b_ c_))]) (by rw [e418]) ?_
             clear e418
             refine GP.call 9 (TurnR22_calls a g0 w414) (by kernel_rfl) (by kernel_rfl) (fun e_ w419 hR => ?_)
             obtain ⟨rfl, H421⟩ := hR
             have H420 : Hp w [] [.blk p3 (by8 (bsP (outB (blocks (padM b) ((padM b).length / 64))) 32 0)) 23, .blk p9 (u32s KT) 96, .blk p13 (c8 h0 h1 h2 h3 h4 h5 h6 h7) 97, .row A27 64 c28 31 1 (dg PR), .row B_ (b.length + 1 + padZ b.length + 8) C_ 5 1 (by8 (padM b)), .row (some ⟨p53, 0, none⟩) 1 1 5 1 (by8 ([128] : List UInt8)), .blk p145 (u32s (wsP p (t + 1))) 96, .blk p154 (c8 a b_ c_ d e f g h) 97] w419 := H415.callNil H421
             have hS422 : Hp w [] [.blk p3 (by8 (bsP (outB (blocks (padM b) ((padM b).length / 64))) 32 0)) 23, .blk p9 (u32s KT) 96, .blk p13 (c8 h0 h1 h2 h3 h4 h5 h6 h7) 97, .row A27 64 c28 31 1 (dg PR), .row B_ (b.length + 1 + padZ b.length + 8) C_ 5 1 (by8 (padM b)), .row (some ⟨p53, 0, none⟩) 1 1 5 1 (by8 ([128] : List UInt8)), .blk p145 (u32s (wsP p (t + 1))) 96, .blk p154 (c8 a b_ c_ d e f g h) 97] w419 := H420.sub (List.Sublist.cons_cons _ (List.Sublist.cons_cons _ (List.Sublist.cons_cons _ (List.Sublist.cons_cons _ (List.Sublist.cons_cons _ (List.Sublist.cons_cons _ (List.Sublist.cons_cons _ (List.Sublist.cons_cons _ (List.Sublist.slnil)))))))))
             refine ⟨_, rfl, hS422, [2, 3, 4, 7, 9, 10, 11, 12, 13, 210, 213, 231], [(2, pt p3 0), (3, pt p9 0), (4, pt p13 0), (7, .slice B_ (b.length + 1 + padZ b.length + 8) C_), (9, vi (64 * j)), (10, pt p145 0), (11, pt p154 0), (12, vi t), (13, vw ((h + (bsg1 e) + (chf e f g) + (KT.getD t 0) + ((wsN p (t + 1)).getD t 0)) % W32)), (210, vw ((rt a 2) ^^^ (rt a 13))), (213, vw (rt a 22)), (231, vw (majf a b_ c_))], by kernel_rfl, ?_⟩
             refine GP.r [10, 28, 29] [(2, pt p3 0), (3, pt p9 0), (4, pt p13 0), (7, .slice B_ (b.length + 1 + padZ b.length + 8) C_), (9, vi (64 * j)), (10, pt p145 0), (11, pt p154 0), (12, vi t), (13, vw ((h + (bsg1 e) + (chf e f g) + (KT.getD t 0) + ((wsN p (t + 1)).getD t 0)) % W32)), (14, lw (IntKind.u32.wrap ((Go.bits .xor .u32 ((((rt a 2) ^^^ (rt a 13)) : Nat) : Int) (((rt a 22) : Nat) : Int)) + (((majf a b_ c_) : Nat) : Int))))] [0, 1, 3, 4, 7, 8, 11, 12, 13, 14, 15, 16, 17, 18, 19, 20, 21, 22, 23, 24, 25, 26, 27, 2, 5, 6, 9, 10, 28, 29] hS422 ?_
             have e423 : (Go.bits .xor .u32 ((((rt a 2) ^^^ (rt a 13)) : Nat) : Int) (((rt a 22) : Nat) : Int)) = (((bsg0 a) : Nat) : Int) := w_xor (xor_lt32 (rt_lt g0) (rt_lt g0)) (rt_lt g0)
             have e424 : (IntKind.u32.wrap ((((bsg0 a) : Nat) : Int) + (((majf a b_ c_) : Nat) : Int))) = ((((bsg0 a) + (majf a b_ c_)) % W32 : Nat) : Int) := w_add _ _
             refine GP.eq (M' := [(2, pt p3 0), (3, pt p9 0), (4, pt p13 0), (7, .slice B_ (b.length + 1 + padZ b.length + 8) C_), (9, vi (64 * j)), (10, pt p145 0), (11, pt p154 0), (12, vi t), (13, vw ((h + (bsg1 e) + (chf e f g) + (KT.getD t 0) + ((wsN p (t + 1)).getD t 0)) % W32)), (14, vw (((bsg0 a) + (majf a b_ c_)) % W32))]) (by rw [e423, e424]) ?_
             clear e423 e424
             refine GP.k (by kernel_rfl) hK401 (fun _ _ h => h) ?_
             refine G.region ?_
             refine GL.r 4 4 [(2, pt p3 0), (3, pt p9 0), (4, pt p13 0), (7, .slice B_ (b.length + 1 + padZ b.length + 8) C_), (9, vi (64 * j)), (10, pt p145 0), (11, pt p154 0), (12, vi t), (13, vw ((h + (bsg1 e) + (chf e f g) + (KT.getD t 0) + ((wsN p (t + 1)).getD t 0)) % W32)), (235, lw (IntKind.u32.wrap ((((h + (bsg1 e) + (chf e f g) + (KT.getD t 0) + ((wsN p (t + 1)).getD t 0)) % W32 : Nat) : Int) + ((((bsg0 a) + (majf a b_ c_)) % W32 : Nat) : Int)))), (236, pt p154 0)] ?_
             have e425 : (IntKind.u32.wrap ((((h + (bsg1 e) + (chf e f g) + (KT.getD t 0) + ((wsN p (t + 1)).getD t 0)) % W32 : Nat) : Int) + ((((bsg0 a) + (majf a b_ c_)) % W32 : Nat) : Int))) = (((((h + (bsg1 e) + (chf e f g) + (KT.getD t 0) + ((wsN p (t + 1)).getD t 0)) % W32) + (((bsg0 a) + (majf a b_ c_)) % W32)) % W32 : Nat) : Int) := w_add _ _
             rw [e425]
             clear e425
             refine GL.s 5 (H420.ld (o := 0) (ty := 22) (v := vw a) 7 rfl (by kernel_rfl) rfl) [(2, pt p3 0), (3, pt p9 0), (4, pt p13 0), (7, .slice B_ (b.length + 1 + padZ b.length + 8) C_), (9, vi (64 * j)), (10, pt p145 0), (11, pt p154 0), (12, vi t), (13, vw ((h + (bsg1 e) + (chf e f g) + (KT.getD t 0) + ((wsN p (t + 1)).getD t 0)) % W32)), (235, vw ((((h + (bsg1 e) + (chf e f g) + (KT.getD t 0) + ((wsN p (t + 1)).getD t 0)) % W32) + (((bsg0 a) + (majf a b_ c_)) % W32)) % W32)), (237, vw a)] ?_
             refine GL.r 6 1 [(2, pt p3 0), (3, pt p9 0), (4, pt p13 0), (7, .slice B_ (b.length + 1 + padZ b.length + 8) C_), (9, vi (64 * j)), (10, pt p145 0), (11, pt p154 0), (12, vi t), (13, vw ((h + (bsg1 e) + (chf e f g) + (KT.getD t 0) + ((wsN p (t + 1)).getD t 0)) % W32)), (235, vw ((((h + (bsg1 e) + (chf e f g) + (KT.getD t 0) + ((wsN p (t + 1)).getD t 0)) % W32) + (((bsg0 a) + (majf a b_ c_)) % W32)) % W32)), (237, vw a), (238, pt p154 1)] ?_
             refine GL.s 7 (H420.ld (o := 1) (ty := 22) (v := vw b_) 7 rfl (by kernel_rfl) rfl) [(2, pt p3 0), (3, pt p9 0), (4, pt p13 0), (7, .slice B_ (b.length + 1 + padZ b.length + 8) C_), (9, vi (64 * j)), (10, pt p145 0), (11, pt p154 0), (12, vi t), (13, vw ((h + (bsg1 e) + (chf e f g) + (KT.getD t 0) + ((wsN p (t + 1)).getD t 0)) % W32)), (235, vw ((((h + (bsg1 e) + (chf e f g) + (KT.getD t 0) + ((wsN p (t + 1)).getD t 0)) % W32) + (((bsg0 a) + (majf a b_ c_)) % W32)) % W32)), (237, vw a), (239, vw b_)] ?_
             refine GL.r 8 1 [(2, pt p3 0), (3, pt p9 0), (4, pt p13 0), (7, .slice B_ (b.length + 1 + padZ b.length + 8) C_), (9, vi (64 * j)), (10, pt p145 0), (11, pt p154 0), (12, vi t), (13, vw ((h + (bsg1 e) + (chf e f g) + (KT.getD t 0) + ((wsN p (t + 1)).getD t 0)) % W32)), (235, vw ((((h + (bsg1 e) + (chf e f g) + (KT.getD t 0) + ((wsN p (t + 1)).getD t 0)) % W32) + (((bsg0 a) + (majf a b_ c_)) % W32)) % W32)), (237, vw a), (239, vw b_), (240, pt p154 2)] ?_
             refine GL.s 9 (H420.ld (o := 2) (ty := 22) (v := vw c_) 7 rfl (by kernel_rfl) rfl) [(2, pt p3 0), (3, pt p9 0), (4, pt p13 0), (7, .slice B_ (b.length + 1 + padZ b.length + 8) C_), (9, vi (64 * j)), (10, pt p145 0), (11, pt p154 0), (12, vi t), (13, vw ((h + (bsg1 e) + (chf e f g) + (KT.getD t 0) + ((wsN p (t + 1)).getD t 0)) % W32)), (235, vw ((((h + (bsg1 e) + (chf e f g) + (KT.getD t 0) + ((wsN p (t + 1)).getD t 0)) % W32) + (((bsg0 a) + (majf a b_ c_)) % W32)) % W32)), (237, vw a), (239, vw b_), (241, vw c_)] ?_
             refine GL.r 10 1 [(2, pt p3 0), (3, pt p9 0), (4, pt p13 0), (7, .slice B_ (b.length + 1 + padZ b.length + 8) C_), (9, vi (64 * j)), (10, pt p145 0), (11, pt p154 0), (12, vi t), (13, vw ((h + (bsg1 e) + (chf e f g) + (KT.getD t 0) + ((wsN p (t + 1)).getD t 0)) % W32)), (235, vw ((((h + (bsg1 e) + (chf e f g) + (KT.getD t 0) + ((wsN p (t + 1)).getD t 0)) % W32) + (((bsg0 a) + (majf a b_ c_)) % W32)) % W32)), (237, vw a), (239, vw b_), (241, vw c_), (242, pt p154 3)] ?_
             refine GL.s 11 (H420.ld (o := 3) (ty := 22) (v := vw d) 7 rfl (by kernel_rfl) rfl) [(2, pt p3 0), (3, pt p9 0), (4, pt p13 0), (7, .slice B_ (b.length + 1 + padZ b.length + 8) C_), (9, vi (64 * j)), (10, pt p145 0), (11, pt p154 0), (12, vi t), (13, vw ((h + (bsg1 e) + (chf e f g) + (KT.getD t 0) + ((wsN p (t + 1)).getD t 0)) % W32)), (235, vw ((((h + (bsg1 e) + (chf e f g) + (KT.getD t 0) + ((wsN p (t + 1)).getD t 0)) % W32) + (((bsg0 a) + (majf a b_ c_)) % W32)) % W32)), (237, vw a), (239, vw b_), (241, vw c_), (243, vw d)] ?_
             refine GL.r 14 3 [(2, pt p3 0), (3, pt p9 0), (4, pt p13 0), (7, .slice B_ (b.length + 1 + padZ b.length + 8) C_), (9, vi (64 * j)), (10, pt p145 0), (11, pt p154 0), (12, vi t), (235, vw ((((h + (bsg1 e) + (chf e f g) + (KT.getD t 0) + ((wsN p (t + 1)).getD t 0)) % W32) + (((bsg0 a) + (majf a b_ c_)) % W32)) % W32)), (237, vw a), (239, vw b_), (241, vw c_), (245, lw (IntKind.u32.wrap ((d : Int) + (((h + (bsg1 e) + (chf e f g) + (KT.getD t 0) + ((wsN p (t + 1)).getD t 0)) % W32 : Nat) : Int)))), (246, pt p154 4)] ?_
             have e426 : (IntKind.u32.wrap ((d : Int) + (((h + (bsg1 e) + (chf e f g) + (KT.getD t 0) + ((wsN p (t + 1)).getD t 0)) % W32 : Nat) : Int))) = (((d + ((h + (bsg1 e) + (chf e f g) + (KT.getD t 0) + ((wsN p (t + 1)).getD t 0)) % W32)) % W32 : Nat) : Int) := w_add _ _
             rw [e426]
             clear e426
             refine GL.s 15 (H420.ld (o := 4) (ty := 22) (v := vw e) 7 rfl (by kernel_rfl) rfl) [(2, pt p3 0), (3, pt p9 0), (4, pt p13 0), (7, .slice B_ (b.length + 1 + padZ b.length + 8) C_), (9, vi (64 * j)), (10, pt p145 0), (11, pt p154 0), (12, vi t), (235, vw ((((h + (bsg1 e) + (chf e f g) + (KT.getD t 0) + ((wsN p (t + 1)).getD t 0)) % W32) + (((bsg0 a) + (majf a b_ c_)) % W32)) % W32)), (237, vw a), (239, vw b_), (241, vw c_), (245, vw ((d + ((h + (bsg1 e) + (chf e f g) + (KT.getD t 0) + ((wsN p (t + 1)).getD t 0)) % W32)) % W32)), (247, vw e)] ?_
             refine GL.r 16 1 [(2, pt p3 0), (3, pt p9 0), (4, pt p13 0), (7, .slice B_ (b.length + 1 + padZ b.length + 8) C_), (9, vi (64 * j)), (10, pt p145 0), (11, pt p154 0), (12, vi t), (235, vw ((((h + (bsg1 e) + (chf e f g) + (KT.getD t 0) + ((wsN p (t + 1)).getD t 0)) % W32) + (((bsg0 a) + (majf a b_ c_)) % W32)) % W32)), (237, vw a), (239, vw b_), (241, vw c_), (245, vw ((d + ((h + (bsg1 e) + (chf e f g) + (KT.getD t 0) + ((wsN p (t + 1)).getD t 0)) % W32)) % W32)), (247, vw e), (248, pt p154 5)] ?_
             refine GL.s 17 (H420.ld (o := 5) (ty := 22) (v := vw f) 7 rfl (by kernel_rfl) rfl) [(2, pt p3 0), (3, pt p9 0), (4, pt p13 0), (7, .slice B_ (b.length + 1 + padZ b.length + 8) C_), (9, vi (64 * j)), (10, pt p145 0), (11, pt p154 0), (12, vi t), (235, vw ((((h + (bsg1 e) + (chf e f g) + (KT.getD t 0) + ((wsN p (t + 1)).getD t 0)) % W32) + (((bsg0 a) + (majf a b_ c_)) % W32)) % W32)), (237, vw a), (239, vw b_), (241, vw c_), (245, vw ((d + ((h + (bsg1 e) + (chf e f g) + (KT.getD t 0) + ((wsN p (t + 1)).getD t 0)) % W32)) % W32)), (247, vw e), (249, vw f)] ?_
             refine GL.r 18 1 [(2, pt p3 0), (3, pt p9 0), (4, pt p13 0), (7, .slice B_ (b.length + 1 + padZ b.length + 8) C_), (9, vi (64 * j)), (10, pt p145 0), (11, pt p154 0), (12, vi t), (235, vw ((((h + (bsg1 e) + (chf e f g) + (KT.getD t 0) + ((wsN p (t + 1)).getD t 0)) % W32) + (((bsg0 a) + (majf a b_ c_)) % W32)) % W32)), (237, vw a), (239, vw b_), (241, vw c_), (245, vw ((d + ((h + (bsg1 e) + (chf e f g) + (KT.getD t 0) + ((wsN p (t + 1)).getD t 0)) % W32)) % W32)), (247, vw e), (249, vw f), (250, pt p154 6)] ?_
             refine GL.s 19 (H420.ld (o := 6) (ty := 22) (v := vw g) 7 rfl (by kernel_rfl) rfl) [(2, pt p3 0), (3, pt p9 0), (4, pt p13 0), (7, .slice B_ (b.length + 1 + padZ b.length + 8) C_), (9, vi (64 * j)), (10, pt p145 0), (11, pt p154 0), (12, vi t), (235, vw ((((h + (bsg1 e) + (chf e f g) + (KT.getD t 0) + ((wsN p (t + 1)).getD t 0)) % W32) + (((bsg0 a) + (majf a b_ c_)) % W32)) % W32)), (237, vw a), (239, vw b_), (241, vw c_), (245, vw ((d + ((h + (bsg1 e) + (chf e f g) + (KT.getD t 0) + ((wsN p (t + 1)).getD t 0)) % W32)) % W32)), (247, vw e), (249, vw f), (251, vw g)] ?_
             refine GL.r 20 1 [(2, pt p3 0), (3, pt p9 0), (4, pt p13 0), (7, .slice B_ (b.length + 1 + padZ b.length + 8) C_), (9, vi (64 * j)), (10, pt p145 0), (11, pt p154 0), (12, vi t), (252, .agg #[vw ((((h + (bsg1 e) + (chf e f g) + (KT.getD t 0) + ((wsN p (t + 1)).getD t 0)) % W32) + (((bsg0 a) + (majf a b_ c_)) % W32)) % W32), vw a, vw b_, vw c_, vw ((d + ((h + (bsg1 e) + (chf e f g) + (KT.getD t 0) + ((wsN p (t + 1)).getD t 0)) % W32)) % W32), vw e, vw f, vw g])] ?_
             obtain ⟨w427, r428, H429⟩ := H420.stA (P := Try.prog) (o := 0) (vs := (c8 ((((h + (bsg1 e) + (chf e f g) + (KT.getD t 0) + ((wsN p (t + 1)).getD t 0)) % W32) + (((bsg0 a) + (majf a b_ c_)) % W32)) % W32) a b_ c_ ((d + ((h + (bsg1 e) + (chf e f g) + (KT.getD t 0) + ((wsN p (t + 1)).getD t 0)) % W32)) % W32) e f g)) (ty := 97) (m := 8) 7 rfl (by kernel_rfl) rfl (by exact Nat.le_refl _) (c8_one)
             refine GL.u 21 r428 [(2, pt p3 0), (3, pt p9 0), (4, pt p13 0), (7, .slice B_ (b.length + 1 + padZ b.length + 8) C_), (9, vi (64 * j)), (10, pt p145 0), (11, pt p154 0), (12, vi t)] ?_
             refine GL.q hK294 ?_
             refine G.region ?_
             refine GL.r 3 3 [(2, pt p3 0), (3, pt p9 0), (4, pt p13 0), (7, .slice B_ (b.length + 1 + padZ b.length + 8) C_), (9, vi (64 * j)), (10, pt p145 0), (11, pt p154 0), (12, li (IntKind.i64.wrap ((t : Int) + 1)))] ?_
             have e430 : (IntKind.i64.wrap ((t : Int) + 1)) = ((t + 1 : Nat) : Int) := by rw [in_i64 (by omega)]; omega
             rw [e430]
             clear e430
             refine GL.fit (ts := [2, 3, 4, 7, 9, 10, 11, 12]) (M' := [(2, pt p3 0), (3, pt p9 0), (4, pt p13 0), (7, .slice B_ (b.length + 1 + padZ b.length + 8) C_), (9, vi (64 * j)), (10, pt p145 0), (11, pt p154 0), (12, vi (t + 1))]) (by kernel_rfl) ?_
             refine GL.eq (M' := [(2, pt p3 0), (3, pt p9 0), (4, pt p13 0), (7, .slice B_ (b.length + 1 + padZ b.length + 8) C_), (9, vi (64 * j)), (10, pt p145 0), (11, pt p154 0), (12, vi (t + 1))]) (by rfl) ?_
             exact GL.again ⟨(t + 1), (((h + (bsg1 e) + (chf e f g) + (KT.getD t 0) + ((wsN p (t + 1)).getD t 0)) % W32) + (((bsg0 a) + (majf a b_ c_)) % W32)) % W32, a, b_, c_, (d + ((h + (bsg1 e) + (chf e f g) + (KT.getD t 0) + ((wsN p (t + 1)).getD t 0)) % W32)) % W32, e, f, g⟩ [2, 3, 4, 7, 9, 10, 11, 12] rfl (by kernel_rfl) (by show 64 - (t + 1) < 64 - t; omega) ⟨⟨by omega, by rw [shaR, ← hv8, hst]; rfl⟩, H429⟩
     · skip
       have hb86f := of_decide_eq_true hb86
       have ei : (56 - 8 * (k : Int)) = ((56 - 8 * k : Nat) : Int) := by omega
       refine G.eq (M' := [(0, .slice A b.length c), (2, pt p3 0), (3, pt p9 0), (4, pt p13 0), (7, .slice B_ (b.length + 1 + padZ b.length + k) C_), (8, vi (56 - 8 * k)), (52, .bool true)]) (by rw [ei]) ?_
       refine G.yes rfl ?_
       refine G.skipK hK83 (fun _ _ h => h) ?_
       refine G.seqK fun K431 hK432 => ?_
       refine G.block ?_
       refine G.region ?_
       refine GL.r 6 6 [(0, .slice A b.length c), (2, pt p3 0), (3, pt p9 0), (4, pt p13 0), (8, vi (56 - 8 * k)), (55, .slice B_ (b.length + 1 + padZ b.length + k) C_), (59, lu (IntKind.u64.wrap ((IntKind.u64.wrap (b.length : Int)) * 8))), (60, vi (56 - 8 * k))] ?_
       have e433 : (IntKind.u64.wrap (b.length : Int)) = ((b.length : Nat) : Int) := in_u64 (by omega)
       have e434 : (IntKind.u64.wrap (((b.length : Nat) : Int) * 8)) = (((b.length * 8) : Nat) : Int) := n_mul' (a := b.length) (b := 8) (by simp only [K]; omega)
       rw [e433, e434]
       clear e433 e434
       refine GL.s 7 (run_shr64 (P := Try.prog) (k' := .i64) (t := 31) (a := (b.length * 8)) (r := (56 - 8 * k)) (by omega) _) [(0, .slice A b.length c), (2, pt p3 0), (3, pt p9 0), (4, pt p13 0), (8, vi (56 - 8 * k)), (55, .slice B_ (b.length + 1 + padZ b.length + k) C_), (61, vu ((b.length * 8) / 2 ^ (56 - 8 * k)))] ?_
       refine GL.r 8 1 [(0, .slice A b.length c), (2, pt p3 0), (3, pt p9 0), (4, pt p13 0), (8, vi (56 - 8 * k)), (55, .slice B_ (b.length + 1 + padZ b.length + k) C_), (62, lb (IntKind.u8.wrap ((((b.length * 8) / 2 ^ (56 - 8 * k)) : Nat) : Int)))] ?_
       have e435 : (IntKind.u8.wrap ((((b.length * 8) / 2 ^ (56 - 8 * k)) : Nat) : Int)) = (((UInt8.ofNat ((b.length * 8) / 2 ^ (56 - 8 * k))).toNat : Nat) : Int) := n_byte _
       rw [e435]
       clear e435
       obtain ⟨p436, w437, r438, H439⟩ := H81.madeRow (P := Try.prog) (Instr.buildSlice 28 1 #[(0, lb (((UInt8.ofNat ((b.length * 8) / 2 ^ (56 - 8 * k))).toNat : Nat) : Int))]) (fun b_ => .slice (some ⟨b_, 0, none⟩) 1 1) [lb (((UInt8.ofNat ((b.length * 8) / 2 ^ (56 - 8 * k))).toNat : Nat) : Int)] 5 1 1 1 (by kernel_rfl) (by decide) (by decide) rfl
       refine GL.s 9 (r438) [(0, .slice A b.length c), (2, pt p3 0), (3, pt p9 0), (4, pt p13 0), (8, vi (56 - 8 * k)), (55, .slice B_ (b.length + 1 + padZ b.length + k) C_), (63, .slice (some ⟨p436, 0, none⟩) 1 1)] ?_
       obtain ⟨A440, c441, w442, r443, H444⟩ := H439.append (P := Try.prog) (e := 5) (sz := 1) (by_ := 1) (n := (b.length + 1 + padZ b.length + k)) (c := C_) (m := 1) (d := 1) (t := 28) (ty := 28) (xs := by8 ((b ++ [128] ++ List.replicate (padZ b.length) 0) ++ lenB b.length k)) (news := by8 ([(UInt8.ofNat ((b.length * 8) / 2 ^ (56 - 8 * k)))] : List UInt8)) 4 rfl (by kernel_rfl) (H439.rdRow 6 rfl) (by first | (simp [by8_length]; done) | (rw [by8_length]; omega) | (rw [by8_length, putB_length])) (by8_one _) (by omega) (by simp only [maxLen]; omega)
       rw [← by8_append] at H444
       have H444 : Hp w [] [.blk p3 (by8 (bsP (outB (blocks (padM b) ((padM b).length / 64))) 32 0)) 23, .blk p9 (u32s (preZ KT 64 64)) 96, .blk p13 (u32s (preZ H0L 64 8)) 97, .row A27 64 c28 31 1 (dg PR), .row A440 ((b.length + 1 + padZ b.length + k) + 1) c441 5 1 (by8 (((b ++ [128] ++ List.replicate (padZ b.length) 0) ++ lenB b.length k) ++ ([(UInt8.ofNat ((b.length * 8) / 2 ^ (56 - 8 * k)))] : List UInt8))), .row (some ⟨p53, 0, none⟩) 1 1 5 1 (by8 ([128] : List UInt8)), .row (some ⟨p436, 0, none⟩) 1 1 5 1 (by8 ([(UInt8.ofNat ((b.length * 8) / 2 ^ (56 - 8 * k)))] : List UInt8))] w442 := H444
       refine GL.s 10 (r443) [(0, .slice A b.length c), (2, pt p3 0), (3, pt p9 0), (4, pt p13 0), (8, vi (56 - 8 * k)), (64, .slice A440 ((b.length + 1 + padZ b.length + k) + 1) c441)] ?_
       refine GL.r 11 1 [(0, .slice A b.length c), (2, pt p3 0), (3, pt p9 0), (4, pt p13 0), (7, .slice A440 ((b.length + 1 + padZ b.length + k) + 1) c441), (8, vi (56 - 8 * k))] ?_
       refine GL.q hK432 ?_
       refine G.region ?_
       refine GL.r 3 3 [(0, .slice A b.length c), (2, pt p3 0), (3, pt p9 0), (4, pt p13 0), (7, .slice A440 ((b.length + 1 + padZ b.length + k) + 1) c441), (8, li (IntKind.i64.wrap ((((56 - 8 * k) : Nat) : Int) - 8)))] ?_
       have e445 : (IntKind.i64.wrap ((((56 - 8 * k) : Nat) : Int) - 8)) = (48 - 8 * (k : Int)) := by rw [in_i64 (by omega)]; omega
       rw [e445]
       clear e445
       have H446 : Hp w [] [.blk p3 (by8 (bsP (outB (blocks (padM b) ((padM b).length / 64))) 32 0)) 23, .blk p9 (u32s (preZ KT 64 64)) 96, .blk p13 (u32s (preZ H0L 64 8)) 97, .row A27 64 c28 31 1 (dg PR), .row A440 ((b.length + 1 + padZ b.length + k) + 1) c441 5 1 (by8 (((b ++ [128] ++ List.replicate (padZ b.length) 0) ++ lenB b.length k) ++ ([(UInt8.ofNat ((b.length * 8) / 2 ^ (56 - 8 * k)))] : List UInt8))), .row (some ⟨p53, 0, none⟩) 1 1 5 1 (by8 ([128] : List UInt8))] w442 := H444.sub (List.Sublist.cons_cons _ (List.Sublist.cons_cons _ (List.Sublist.cons_cons _ (List.Sublist.cons_cons _ (List.Sublist.cons_cons _ (List.Sublist.cons_cons _ (List.Sublist.cons _ (List.Sublist.slnil))))))))
       have H447 : Hp w [] [.blk p3 (by8 (bsP (outB (blocks (padM b) ((padM b).length / 64))) 32 0)) 23, .blk p9 (u32s (preZ KT 64 64)) 96, .blk p13 (u32s (preZ H0L 64 8)) 97, .row A27 64 c28 31 1 (dg PR), .row A440 (b.length + 1 + padZ b.length + (k + 1)) c441 5 1 (by8 ((b ++ [128] ++ List.replicate (padZ b.length) 0) ++ lenB b.length (k + 1))), .row (some ⟨p53, 0, none⟩) 1 1 5 1 (by8 ([128] : List UInt8))] w442 := by rw [lenB, ← List.append_assoc]; exact H446
       refine GL.fit (ts := [0, 2, 3, 4, 7, 8]) (M' := [(0, .slice A b.length c), (2, pt p3 0), (3, pt p9 0), (4, pt p13 0), (7, .slice A440 ((b.length + 1 + padZ b.length + k) + 1) c441), (8, li (48 - 8 * (k : Int)))]) (by kernel_rfl) ?_
       refine GL.eq (M' := [(0, .slice A b.length c), (2, pt p3 0), (3, pt p9 0), (4, pt p13 0), (7, .slice A440 (b.length + 1 + padZ b.length + (k + 1)) c441), (8, li (56 - 8 * (((k + 1) : Nat) : Int)))]) (by first | (rw [show (48 - 8 * (k : Int)) = 56 - 8 * ((k + 1 : Nat) : Int) by omega]; done) | (rw [show (48 - 8 * (k : Int)) = 56 - 8 * ((k + 1 : Nat) : Int) by omega]; rfl)) ?_
       exact GL.again ⟨(k + 1), A440, c441⟩ [0, 2, 3, 4, 7, 8] rfl (by kernel_rfl) (by show 8 - (k + 1) < 8 - k; omega) ⟨by omega, H447⟩
   · skip
     have hb73f : (((b.length + 1 + j) % 64 : Nat) : Int) ≠ 56 := bne_iff_ne.1 hb73
     refine G.yes rfl ?_
     refine G.skipK hK69 (fun _ _ h => h) ?_
     refine G.block ?_
     refine G.region ?_
     refine GL.r 1 1 [(0, .slice A b.length c), (2, pt p3 0), (3, pt p9 0), (4, pt p13 0), (48, .slice B_ (b.length + 1 + j) C_)] ?_
     obtain ⟨p448, w449, r450, H451⟩ := H67.madeRow (P := Try.prog) (Instr.buildSlice 28 1 #[(0, lb 0)]) (fun b_ => .slice (some ⟨b_, 0, none⟩) 1 1) [lb 0] 5 1 1 1 (by kernel_rfl) (by decide) (by decide) rfl
     refine GL.s 2 (r450) [(0, .slice A b.length c), (2, pt p3 0), (3, pt p9 0), (4, pt p13 0), (48, .slice B_ (b.length + 1 + j) C_), (49, .slice (some ⟨p448, 0, none⟩) 1 1)] ?_
     obtain ⟨A452, c453, w454, r455, H456⟩ := H451.append (P := Try.prog) (e := 5) (sz := 1) (by_ := 1) (n := (b.length + 1 + j)) (c := C_) (m := 1) (d := 1) (t := 28) (ty := 28) (xs := by8 (b ++ [128] ++ List.replicate j 0)) (news := by8 ([0] : List UInt8)) 4 rfl (by kernel_rfl) (H451.rdRow 6 rfl) (by first | (simp [by8_length]; done) | (rw [by8_length]; omega) | (rw [by8_length, putB_length])) (by8_one _) (by omega) (by simp only [maxLen]; omega)
     rw [← by8_append] at H456
     have H456 : Hp w [] [.blk p3 (by8 (bsP (outB (blocks (padM b) ((padM b).length / 64))) 32 0)) 23, .blk p9 (u32s (preZ KT 64 64)) 96, .blk p13 (u32s (preZ H0L 64 8)) 97, .row A27 64 c28 31 1 (dg PR), .row A452 ((b.length + 1 + j) + 1) c453 5 1 (by8 ((b ++ [128] ++ List.replicate j 0) ++ ([0] : List UInt8))), .row (some ⟨p53, 0, none⟩) 1 1 5 1 (by8 ([128] : List UInt8)), .row (some ⟨p448, 0, none⟩) 1 1 5 1 (by8 ([0] : List UInt8))] w454 := H456
     refine GL.s 3 (r455) [(0, .slice A b.length c), (2, pt p3 0), (3, pt p9 0), (4, pt p13 0), (50, .slice A452 ((b.length + 1 + j) + 1) c453)] ?_
     refine GL.r 4 1 [(0, .slice A b.length c), (2, pt p3 0), (3, pt p9 0), (4, pt p13 0), (7, .slice A452 ((b.length + 1 + j) + 1) c453)] ?_
     have H457 : Hp w [] [.blk p3 (by8 (bsP (outB (blocks (padM b) ((padM b).length / 64))) 32 0)) 23, .blk p9 (u32s (preZ KT 64 64)) 96, .blk p13 (u32s (preZ H0L 64 8)) 97, .row A27 64 c28 31 1 (dg PR), .row A452 ((b.length + 1 + j) + 1) c453 5 1 (by8 ((b ++ [128] ++ List.replicate j 0) ++ ([0] : List UInt8))), .row (some ⟨p53, 0, none⟩) 1 1 5 1 (by8 ([128] : List UInt8))] w454 := H456.sub (List.Sublist.cons_cons _ (List.Sublist.cons_cons _ (List.Sublist.cons_cons _ (List.Sublist.cons_cons _ (List.Sublist.cons_cons _ (List.Sublist.cons_cons _ (List.Sublist.cons _ (List.Sublist.slnil))))))))
     have H458 : Hp w [] [.blk p3 (by8 (bsP (outB (blocks (padM b) ((padM b).length / 64))) 32 0)) 23, .blk p9 (u32s (preZ KT 64 64)) 96, .blk p13 (u32s (preZ H0L 64 8)) 97, .row A27 64 c28 31 1 (dg PR), .row A452 (b.length + 1 + (j + 1)) c453 5 1 (by8 (b ++ [128] ++ List.replicate (j + 1) 0)), .row (some ⟨p53, 0, none⟩) 1 1 5 1 (by8 ([128] : List UInt8))] w454 := by rw [List.replicate_succ', ← List.append_assoc]; exact H457
     refine GL.fit (ts := [0, 2, 3, 4, 7]) (M' := [(0, .slice A b.length c), (2, pt p3 0), (3, pt p9 0), (4, pt p13 0), (7, .slice A452 ((b.length + 1 + j) + 1) c453)]) (by kernel_rfl) ?_
     refine GL.eq (M' := [(0, .slice A b.length c), (2, pt p3 0), (3, pt p9 0), (4, pt p13 0), (7, .slice A452 (b.length + 1 + (j + 1)) c453)]) (by rfl) ?_
     exact GL.againB ⟨(j + 1), A452, c453⟩ [0, 2, 3, 4, 7] rfl (by kernel_rfl) (by show padZ b.length - (j + 1) < padZ b.length - j; omega) ⟨by omega, H458⟩
 · skip
   have hb39f := of_decide_eq_true hb39
   refine G.yes rfl ?_
   refine G.skipK hK38 (fun _ _ h => h) ?_
   refine G.seqK fun K459 hK460 => ?_
   refine G.block ?_
   refine G.sr fun K461 hK462 => ?_
   refine GL.r 1 1 [(0, .slice A b.length c), (2, pt p3 0), (3, pt p9 0), (4, pt p13 0), (20, .slice A27 64 c28), (21, li 64), (22, vi i), (24, vi i)] ?_
   refine GL.s 2 (run_idxRd (P := Try.prog) (k := .i64) (t := 34) (A := A27) (len := 64) (cap := c28) (j := i) (by kernel_rfl) rfl (H34.rdRow 3 rfl) (by first | exact dg_length _ | rw [dg_length]; first | rfl | assumption | (symm; assumption) | (simp; done) | (rw [List.length_take]; omega) | omega) (by omega)) [(0, .slice A b.length c), (2, pt p3 0), (3, pt p9 0), (4, pt p13 0), (20, .slice A27 64 c28), (21, li 64), (22, vi i), (24, vi i), (25, .pointer (Option.map (fun x => Addr.add x i) A27))] ?_
   refine GL.s 3 (run_ldRd (P := Try.prog) (ty := 31) (A := A27) (j := i) (v := vu (PR.getD i 0)) (by kernel_rfl) (H34.rdRow 3 rfl) (dg_at (getD_at (show i < PR.length by omega)))) [(0, .slice A b.length c), (2, pt p3 0), (3, pt p9 0), (4, pt p13 0), (20, .slice A27 64 c28), (21, li 64), (22, vi i), (24, vi i), (26, vu (PR.getD i 0))] ?_
   refine GL.r 5 2 [(0, .slice A b.length c), (2, pt p3 0), (3, pt p9 0), (4, pt p13 0), (5, vi i), (6, vu (PR.getD i 0)), (20, .slice A27 64 c28), (21, li 64), (22, vi i)] ?_
   refine GL.q hK462 ?_
   refine G.sr fun K463 hK464 => ?_
   refine GL.r 2 2 [(0, .slice A b.length c), (2, pt p3 0), (3, pt p9 0), (4, pt p13 0), (5, vi i), (6, vu (PR.getD i 0)), (20, .slice A27 64 c28), (21, li 64), (22, vi i), (27, vi i), (28, vu (PR.getD i 0))] ?_
   refine GL.call (j := 3) (Root3_calls (PR.getD i 0) (PR_lt _) w32) (by kernel_rfl) rfl (fun e_ w465 hR => ?_)
   obtain ⟨rfl, H467⟩ := hR
   have H466 : Hp w [] [.blk p3 (by8 (bsP (outB (blocks (padM b) ((padM b).length / 64))) 32 0)) 23, .blk p9 (u32s (preZ KT i 64)) 96, .blk p13 (u32s (preZ H0L i 8)) 97, .row A27 64 c28 31 1 (dg PR)] w465 := H34.callNil H467
   refine ⟨_, rfl, [0, 2, 3, 4, 5, 6, 20, 21, 22, 27, 29], [(0, .slice A b.length c), (2, pt p3 0), (3, pt p9 0), (4, pt p13 0), (5, vi i), (6, vu (PR.getD i 0)), (20, .slice A27 64 c28), (21, li 64), (22, vi i), (27, vi i), (29, vw (rootS (PR.getD i 0) 3 36 % W32))], by kernel_rfl, ?_⟩
   refine GL.s 4 (run_idxArr (P := Try.prog) (k := .i64) (t := 96) (len := 64) (sz := 1) (b := p9) (o := 0) (j := i) (by kernel_rfl) rfl (by omega)) [(0, .slice A b.length c), (2, pt p3 0), (3, pt p9 0), (4, pt p13 0), (5, vi i), (6, vu (PR.getD i 0)), (20, .slice A27 64 c28), (21, li 64), (22, vi i), (29, vw (rootS (PR.getD i 0) 3 36 % W32)), (30, pt p9 (0 + i * 1))] ?_
   obtain ⟨w468, r469, H470⟩ := H466.st (P := Try.prog) (o := (0 + i * 1)) (ty := 22) (v := vw (rootS (PR.getD i 0) 3 36 % W32)) 1 rfl (by kernel_rfl) (by rw [u32s_length, preZ_length KT_length]; omega) rfl
   rw [show (0 + i * 1) = i by omega, u32s_set] at H470
   have H470 : Hp w [] [.blk p3 (by8 (bsP (outB (blocks (padM b) ((padM b).length / 64))) 32 0)) 23, .blk p9 (u32s (List.set (preZ KT i 64) i (rootS (PR.getD i 0) 3 36 % W32))) 96, .blk p13 (u32s (preZ H0L i 8)) 97, .row A27 64 c28 31 1 (dg PR)] w468 := H470
   refine GL.u 5 r469 [(0, .slice A b.length c), (2, pt p3 0), (3, pt p9 0), (4, pt p13 0), (5, vi i), (6, vu (PR.getD i 0)), (20, .slice A27 64 c28), (21, li 64), (22, vi i)] ?_
   refine GL.q hK464 ?_
   refine G.sr fun K471 hK472 => ?_
   refine GL.r 2 2 [(0, .slice A b.length c), (2, pt p3 0), (3, pt p9 0), (4, pt p13 0), (5, vi i), (6, vu (PR.getD i 0)), (20, .slice A27 64 c28), (21, li 64), (22, vi i), (32, .bool (decide ((i : Int) < 8)))] ?_
   refine GL.q hK472 ?_
   cases hb473 : (decide ((i : Int) < 8))
   · skip
     have hb473f := of_decide_eq_false hb473
     refine G.no rfl ?_
     refine G.skipK hK460 (fun _ _ h => h) ?_
     refine G.region ?_
     refine GL.r 2 2 [(0, .slice A b.length c), (2, pt p3 0), (3, pt p9 0), (4, pt p13 0), (20, .slice A27 64 c28), (21, li 64), (22, li (IntKind.i64.wrap ((i : Int) + 1)))] ?_
     have e474 : (IntKind.i64.wrap ((i : Int) + 1)) = ((i + 1 : Nat) : Int) := by rw [in_i64 (by omega)]; omega
     rw [e474]
     clear e474
     have H475 : Hp w [] [.blk p3 (by8 (bsP (outB (blocks (padM b) ((padM b).length / 64))) 32 0)) 23, .blk p9 (u32s (preZ KT (i + 1) 64)) 96, .blk p13 (u32s (preZ H0L (i + 1) 8)) 97, .row A27 64 c28 31 1 (dg PR)] w468 := by rw [← preZ_set (L := KT) (n := 64) (v := (rootS (PR.getD i 0) 3 36 % W32)) (by omega) KT_length (root3_at (by omega)), preZ_over (L := H0L) (n := 8) (i := i) (by omega) rfl]; exact H470
     refine GL.fit (ts := [0, 2, 3, 4, 20, 21, 22]) (M' := [(0, .slice A b.length c), (2, pt p3 0), (3, pt p9 0), (4, pt p13 0), (20, .slice A27 64 c28), (21, li 64), (22, vi (i + 1))]) (by kernel_rfl) ?_
     refine GL.eq (M' := [(0, .slice A b.length c), (2, pt p3 0), (3, pt p9 0), (4, pt p13 0), (20, .slice A27 64 c28), (21, li 64), (22, vi (i + 1))]) (by rfl) ?_
     exact GL.again (i + 1) [0, 2, 3, 4, 20, 21, 22] rfl (by kernel_rfl) (by show 64 - (i + 1) < 64 - i; omega) ⟨by omega, H475⟩
   · skip
     have hb473f := of_decide_eq_true hb473
     refine G.yes rfl ?_
     refine G.region ?_
     refine GL.r 2 2 [(0, .slice A b.length c), (2, pt p3 0), (3, pt p9 0), (4, pt p13 0), (20, .slice A27 64 c28), (21, li 64), (22, vi i), (33, vi i), (34, vu (PR.getD i 0))] ?_
     refine GL.call (j := 3) (Root2_calls (PR.getD i 0) (PR_lt _) w468) (by kernel_rfl) rfl (fun e_ w476 hR => ?_)
     obtain ⟨rfl, H478⟩ := hR
     have H477 : Hp w [] [.blk p3 (by8 (bsP (outB (blocks (padM b) ((padM b).length / 64))) 32 0)) 23, .blk p9 (u32s (List.set (preZ KT i 64) i (rootS (PR.getD i 0) 3 36 % W32))) 96, .blk p13 (u32s (preZ H0L i 8)) 97, .row A27 64 c28 31 1 (dg PR)] w476 := H470.callNil H478
     refine ⟨_, rfl, [0, 2, 3, 4, 20, 21, 22, 33, 35], [(0, .slice A b.length c), (2, pt p3 0), (3, pt p9 0), (4, pt p13 0), (20, .slice A27 64 c28), (21, li 64), (22, vi i), (33, vi i), (35, vw (rootS (PR.getD i 0) 2 36 % W32))], by kernel_rfl, ?_⟩
     refine GL.s 4 (run_idxArr (P := Try.prog) (k := .i64) (t := 97) (len := 8) (sz := 1) (b := p13) (o := 0) (j := i) (by kernel_rfl) rfl (by omega)) [(0, .slice A b.length c), (2, pt p3 0), (3, pt p9 0), (4, pt p13 0), (20, .slice A27 64 c28), (21, li 64), (22, vi i), (35, vw (rootS (PR.getD i 0) 2 36 % W32)), (36, pt p13 (0 + i * 1))] ?_
     obtain ⟨w479, r480, H481⟩ := H477.st (P := Try.prog) (o := (0 + i * 1)) (ty := 22) (v := vw (rootS (PR.getD i 0) 2 36 % W32)) 2 rfl (by kernel_rfl) (by rw [u32s_length, preZ_length (L := H0L) (n := 8) rfl]; omega) rfl
     rw [show (0 + i * 1) = i by omega, u32s_set] at H481
     have H481 : Hp w [] [.blk p3 (by8 (bsP (outB (blocks (padM b) ((padM b).length / 64))) 32 0)) 23, .blk p9 (u32s (List.set (preZ KT i 64) i (rootS (PR.getD i 0) 3 36 % W32))) 96, .blk p13 (u32s (List.set (preZ H0L i 8) i (rootS (PR.getD i 0) 2 36 % W32))) 97, .row A27 64 c28 31 1 (dg PR)] w479 := H481
     refine GL.u 5 r480 [(0, .slice A b.length c), (2, pt p3 0), (3, pt p9 0), (4, pt p13 0), (20, .slice A27 64 c28), (21, li 64), (22, vi i)] ?_
     refine GL.q hK460 ?_
     refine G.region ?_
     refine GL.r 2 2 [(0, .slice A b.length c), (2, pt p3 0), (3, pt p9 0), (4, pt p13 0), (20, .slice A27 64 c28), (21, li 64), (22, li (IntKind.i64.wrap ((i : Int) + 1)))] ?_
     have e482 : (IntKind.i64.wrap ((i : Int) + 1)) = ((i + 1 : Nat) : Int) := by rw [in_i64 (by omega)]; omega
     rw [e482]
     clear e482
     have H483 : Hp w [] [.blk p3 (by8 (bsP (outB (blocks (padM b) ((padM b).length / 64))) 32 0)) 23, .blk p9 (u32s (preZ KT (i + 1) 64)) 96, .blk p13 (u32s (preZ H0L (i + 1) 8)) 97, .row A27 64 c28 31 1 (dg PR)] w479 := by rw [← preZ_set (L := KT) (n := 64) (v := (rootS (PR.getD i 0) 3 36 % W32)) (by omega) KT_length (root3_at (by omega)), ← preZ_set (L := H0L) (n := 8) (v := (rootS (PR.getD i 0) 2 36 % W32)) (by omega) rfl (root2_at (by omega))]; exact H481
     refine GL.fit (ts := [0, 2, 3, 4, 20, 21, 22]) (M' := [(0, .slice A b.length c), (2, pt p3 0), (3, pt p9 0), (4, pt p13 0), (20, .slice A27 64 c28), (21, li 64), (22, vi (i + 1))]) (by kernel_rfl) ?_
     refine GL.eq (M' := [(0, .slice A b.length c), (2, pt p3 0), (3, pt p9 0), (4, pt p13 0), (20, .slice A27 64 c28), (21, li 64), (22, vi (i + 1))]) (by rfl) ?_
     exact GL.again (i + 1) [0, 2, 3, 4, 20, 21, 22] rfl (by kernel_rfl) (by show 64 - (i + 1) < 64 - i; omega) ⟨by omega, H483⟩
end Go.Proofs.Ytdepaaphgfapjaa
namespace Go.Proofs.Ytdepaaphgfapjaa
open Go.RowKit
theorem RefDouble_calls (A : Option Addr) (n c : Nat) (b : List UInt8) (w : World) (hx : RdS w A (by8 b)) (hn : n = b.length) (hb : b.length ≤ 1000000) : Calls Try.prog 19 #[.slice A n c] w fun e w' => e = .returned (.agg (by8 (sha (sha b))).toArray) ∧ Hp w [] [] w' := by
 subst hn
 refine calls_G (args := [.slice A b.length c]) Try.func19 rfl Try.ntmps19 rfl ?_
 intro Q0 hRet hNor hPan
 have H := Hp.start w
 refine G.sr fun K1 hK2 => ?_
 obtain ⟨p3, w4, r5, H6⟩ := H.alloc (P := Try.prog) 23 (by8 (bsP (fun _ => 0) 32 0)) (by kernel_rfl)
 refine GL.s 1 (r5) [(0, .slice A b.length c), (2, pt p3 0)] ?_
 refine GL.q hK2 ?_
 refine G.sr fun K7 hK8 => ?_
 refine GL.r 1 1 [(2, pt p3 0), (4, .slice A b.length c)] ?_
 refine GL.call (j := 2) (RefSum_calls A b.length c b w4 (hx.hp H6) (rfl) (by omega)) (by kernel_rfl) rfl (fun e_ w9 hR => ?_)
 obtain ⟨rfl, H11⟩ := hR
 have H10 : Hp w [] [.blk p3 (by8 (bsP (fun _ => 0) 32 0)) 23] w9 := H6.callNil H11
 refine ⟨_, rfl, [2, 5], [(2, pt p3 0), (5, .agg (by8 (sha b)).toArray)], by kernel_rfl, ?_⟩
 obtain ⟨p12, w13, r14, H15⟩ := H10.alloc (P := Try.prog) 23 (by8 (bsP (fun _ => 0) 32 0)) (by kernel_rfl)
 refine GL.s 3 (r14) [(2, pt p3 0), (3, pt p12 0), (5, .agg (by8 (sha b)).toArray)] ?_
 obtain ⟨w16, r17, H18⟩ := H15.stA (P := Try.prog) (o := 0) (vs := by8 (sha b)) (ty := 23) (m := 32) 1 rfl (by kernel_rfl) (by rw [by8_length, sha_length]) (Nat.le_of_eq (by rw [Nat.zero_add]; exact ((show (by8 (bsP (fun _ => 0) 32 0)).length = 32 from by rw [by8_length, bsP_length (by omega)])).symm)) (by8_one _)
 rw [st_whole (by rw [by8_length, bsP_length (by omega)])] at H18
 refine GL.u 4 r17 [(2, pt p3 0), (3, pt p12 0)] ?_
 refine GL.q hK8 ?_
 refine G.sr fun K19 hK20 => ?_
 refine GL.r 1 1 [(2, pt p3 0), (6, .slice (some ⟨p12, 0, none⟩) 32 32)] ?_
 refine GL.call (j := 2) (RefSum_calls (some ⟨p12, 0, none⟩) 32 32 (sha b) w16 (H18.rdBlk (o := 0) (xs := by8 (sha b)) 1 32 rfl (sub_whole (by rw [by8_length, sha_length]))) ((sha_length _).symm) (by rw [sha_length]; decide)) (by kernel_rfl) rfl (fun e_ w21 hR => ?_)
 obtain ⟨rfl, H23⟩ := hR
 have H22 : Hp w [] [.blk p3 (by8 (bsP (fun _ => 0) 32 0)) 23, .blk p12 (by8 (sha b)) 23] w21 := H18.callNil H23
 refine ⟨_, rfl, [2, 7], [(2, pt p3 0), (7, .agg (by8 (sha (sha b))).toArray)], by kernel_rfl, ?_⟩
 obtain ⟨w24, r25, H26⟩ := H22.stA (P := Try.prog) (o := 0) (vs := by8 (sha (sha b))) (ty := 23) (m := 32) 0 rfl (by kernel_rfl) (by rw [by8_length, sha_length]) (Nat.le_of_eq (by rw [Nat.zero_add]; exact ((show (by8 (bsP (fun _ => 0) 32 0)).length = 32 from by rw [by8_length, bsP_length (by omega)])).symm)) (by8_one _)
 rw [st_whole (by rw [by8_length, bsP_length (by omega)])] at H26
 refine GL.u 3 r25 [(2, pt p3 0)] ?_
 refine GL.q hK20 ?_
 refine G.ret fun F_ hF_ hM_ => hRet _ _ (bodyPost_1 rfl (RV.cell rfl (H26.ldA (o := 0) (ty := 23) (m := 32) (sub := by8 (sha (sha b))) 0 rfl (by kernel_rfl) (sub_whole (by rw [by8_length, sha_length])) (by rw [by8_length, sha_length]))) ?_ F_ hF_ hM_)
 exact ⟨rfl, H26.sub (List.nil_sublist _)⟩
end Go.Proofs.Ytdepaaphgfapjaa
namespace Go.Proofs.Ytdepaaphgfapjaa
open Go.RowKit
def hsh (ys : List UInt8) : List UInt8 := if ys.length = 32 then ys else List.replicate 32 0
end Go.Proofs.Ytdepaaphgfapjaa
set_option maxRecDepth 100000
namespace Go.Proofs.Ytdepaaphgfapjaa
open Go.RowKit
theorem RGet_calls (bs : List UInt8) (A : Option Addr) (n c : Nat) (w : World) (hx : RdS w A (by8 bs)) (hn : n = bs.length) (hb : n ≤ 8) : Calls Try.prog 30 #[.slice A n c] w fun e w' => e = .returned (.int .u64 ((getB bs : Nat) : Int)) ∧ Hp w [] [] w' := by
 have hMX : MX = 4611686018427387904 := rfl
 have hK0 : K = 18446744073709551616 := rfl
 have hK40 : K4 = 115792089237316195423570985008687907853269984665640564039457584007913129639936 := rfl
 refine calls_G (args := [.slice A n c]) Try.func30 rfl Try.ntmps30 rfl ?_
 intro Q0 hRet hNor hPan
 have H := Hp.start w
 refine G.sr fun K1 hK2 => ?_
 refine GL.r 1 1 [(0, .slice A n c)] ?_
 refine GL.q hK2 ?_
 refine G.sr fun K3 hK4 => ?_
 refine GL.r 1 1 [(0, .slice A n c), (3, lu 0)] ?_
 refine GL.q hK4 ?_
 refine G.seqK fun K5 hK6 => ?_
 refine G.sr fun K7 hK8 => ?_
 refine GL.r 4 4 [(0, .slice A n c), (3, lu 0), (4, li (IntKind.i64.wrap ((n : Int) - 1)))] ?_
 have e9 : (IntKind.i64.wrap ((n : Int) - 1)) = (((n : Nat) : Int) - 1) := in_i64 (by omega)
 rw [e9]
 clear e9
 refine GL.q hK8 ?_
 refine G.block ?_
 refine G.fit [0, 3, 4] (M' := [(0, .slice A n c), (3, lu 0), (4, li (((n : Nat) : Int) - 1))]) (by kernel_rfl) ?_
 refine G.loop (X := Nat × Nat) (fun ⟨m, s⟩ => [(0, .slice A n c), (3, vu s), (4, li (((m : Nat) : Int) - 1))]) (fun ⟨m, s⟩ w_ => (m ≤ n ∧ s = getB (bs.drop m)) ∧ Hp w [] [] w_) (fun ⟨m, s⟩ => m) ⟨n, 0⟩ [0, 3, 4] (by kernel_rfl) ⟨⟨Nat.le_refl _, by rw [hn, List.drop_length]; rfl⟩, H⟩ ?_
 rintro ⟨m, s⟩ w10 ⟨hi11, H12⟩
 refine G.eq (M' := [(0, .slice A n c), (3, vu s), (4, li (((m : Nat) : Int) - 1))]) rfl ?_
 obtain ⟨hmn, hs1⟩ := hi11
 refine G.seqK fun K13 hK14 => ?_
 refine G.sr fun K15 hK16 => ?_
 refine GL.r 2 2 [(0, .slice A n c), (3, vu s), (4, li (((m : Nat) : Int) - 1)), (9, .bool (decide (0 ≤ (((m : Nat) : Int) - 1))))] ?_
 refine GL.q hK16 ?_
 cases hb17 : (decide (0 ≤ (((m : Nat) : Int) - 1)))
 · skip
   have hb17f := of_decide_eq_false hb17
   have hm0 : m = 0 := by omega
   refine G.no rfl ?_
   refine G.exitK hK6 (fun _ _ h => h) ?_
   refine G.sr fun K18 hK19 => ?_
   refine GL.r 2 2 [(2, vu s)] ?_
   refine GL.q hK19 ?_
   refine G.ret fun F_ hF_ hM_ => hRet _ _ (bodyPost_1 rfl (RV.tmp rfl) ?_ F_ hF_ hM_)
   rw [hm0, List.drop_zero] at hs1
   rw [← hs1]
   exact ⟨rfl, H12.sub (List.nil_sublist _)⟩
 · skip
   have hb17f := of_decide_eq_true hb17
   have hm0 : 0 < m := by omega
   have ei : (((m : Nat) : Int) - 1) = ((m - 1 : Nat) : Int) := by omega
   have hat0 := getD8 (bs := bs) (k := m - 1) (by omega)
   have hs56 : s < 72057594037927936 := by rw [hs1]; exact Nat.lt_of_lt_of_le (getB_lt _) (Nat.le_trans (Nat.pow_le_pow_right (by decide) (show (bs.drop m).length ≤ 7 by rw [List.length_drop]; omega)) (by decide))
   have hxb := UInt8.toNat_lt (bs.getD (m - 1) 0)
   refine G.eq (M' := [(0, .slice A n c), (3, vu s), (4, vi (m - 1)), (9, .bool true)]) (by rw [ei]) ?_
   refine G.yes rfl ?_
   refine G.skipK hK14 (fun _ _ h => h) ?_
   refine G.seqK fun K20 hK21 => ?_
   refine G.block ?_
   refine G.region ?_
   refine GL.r 4 4 [(0, .slice A n c), (4, vi (m - 1)), (13, lu (IntKind.u64.wrap ((s : Int) * 256))), (14, .slice A n c), (15, vi (m - 1))] ?_
   have e22 : (IntKind.u64.wrap ((s : Int) * 256)) = ((s * 256 : Nat) : Int) := n_mul' (a := s) (b := 256) (by omega)
   rw [e22]
   clear e22
   refine GL.s 5 (run_idxRd (P := Try.prog) (k := .i64) (t := 28) (A := A) (len := n) (cap := c) (j := m - 1) (by kernel_rfl) rfl (hx.hp H12) (by rw [by8_length]; omega) (by omega)) [(0, .slice A n c), (4, vi (m - 1)), (13, vu (s * 256)), (16, .pointer (Option.map (fun x => Addr.add x (m - 1)) A))] ?_
   refine GL.s 6 (run_ldRd (P := Try.prog) (ty := 5) (A := A) (j := m - 1) (v := .int .u8 ((bs.getD (m - 1) 0).toNat : Int)) (by kernel_rfl) (hx.hp H12) (by8_at (getD8 (by omega)))) [(0, .slice A n c), (4, vi (m - 1)), (13, vu (s * 256)), (17, lb ((bs.getD (m - 1) 0).toNat : Int))] ?_
   refine GL.r 9 3 [(0, .slice A n c), (3, lu (IntKind.u64.wrap (((s * 256 : Nat) : Int) + (IntKind.u64.wrap ((bs.getD (m - 1) 0).toNat : Int))))), (4, vi (m - 1))] ?_
   have e23 : (IntKind.u64.wrap ((bs.getD (m - 1) 0).toNat : Int)) = ((bs.getD (m - 1) 0).toNat : Int) := u8_up_u64 _
   have e24 : (IntKind.u64.wrap (((s * 256 : Nat) : Int) + ((bs.getD (m - 1) 0).toNat : Int))) = ((s * 256 + (bs.getD (m - 1) 0).toNat : Nat) : Int) := n_add' (a := s * 256) (b := (bs.getD (m - 1) 0).toNat) (by omega)
   rw [e23, e24]
   clear e23 e24
   refine GL.q hK21 ?_
   refine G.region ?_
   refine GL.r 3 3 [(0, .slice A n c), (3, lu ((s * 256 + (bs.getD (m - 1) 0).toNat : Nat) : Int)), (4, li (IntKind.i64.wrap (((m - 1 : Nat) : Int) - 1)))] ?_
   have e25 : (IntKind.i64.wrap (((m - 1 : Nat) : Int) - 1)) = (((m - 1 : Nat) : Int) - 1) := in_i64 (by omega)
   rw [e25]
   clear e25
   refine GL.fit (ts := [0, 3, 4]) (M' := [(0, .slice A n c), (3, lu ((s * 256 + (bs.getD (m - 1) 0).toNat : Nat) : Int)), (4, li (((m - 1 : Nat) : Int) - 1))]) (by kernel_rfl) ?_
   refine GL.eq (M' := [(0, .slice A n c), (3, lu ((s * 256 + (bs.getD (m - 1) 0).toNat : Nat) : Int)), (4, li ((((m - 1) : Nat) : Int) - 1))]) (by rfl) ?_
   exact GL.again ⟨(m - 1), s * 256 + (bs.getD (m - 1) 0).toNat⟩ [0, 3, 4] rfl (by kernel_rfl) (by show (m - 1) < m; omega) ⟨⟨by omega, by rw [getB_drop hat0, show m - 1 + 1 = m by omega, ← hs1]; omega⟩, H12⟩
theorem Number7_calls (X : List UInt8) (hX : X.length = 32) (w : World) : Calls Try.prog 31 #[.agg (by8 X).toArray] w fun e w' => ∃ A c, e = .returned ((.slice A (ndg (hnum X)) c)) ∧ Hp w [] [.row A (ndg (hnum X)) c 31 1 (dg (digs (hnum X)))] w' := by
 have hMX : MX = 4611686018427387904 := rfl
 have hK0 : K = 18446744073709551616 := rfl
 have hK40 : K4 = 115792089237316195423570985008687907853269984665640564039457584007913129639936 := rfl
 refine calls_G (args := [.agg (by8 X).toArray]) Try.func31 rfl Try.ntmps31 rfl ?_
 intro Q0 hRet hNor hPan
 have H := Hp.start w
 refine G.sr fun K1 hK2 => ?_
 obtain ⟨p3, w4, r5, H6⟩ := H.box (P := Try.prog) 23 (by8 X) (.agg (by8 X).toArray) rfl
 refine GL.s 1 (r5) [(1, pt p3 0)] ?_
 refine GL.r 2 1 [(1, pt p3 0)] ?_
 refine GL.q hK2 ?_
 refine G.sr fun K7 hK8 => ?_
 obtain ⟨p9, w10, r11, H12⟩ := H6.madeRow (P := Try.prog) (Instr.buildSlice 35 0 #[]) (fun b_ => .slice (some ⟨b_, 0, none⟩) 0 0) [] 31 0 0 1 (by kernel_rfl) (by decide) (by decide) rfl
 refine GL.s 1 (r11) [(1, pt p3 0), (5, .slice (some ⟨p9, 0, none⟩) 0 0)] ?_
 refine GL.r 2 1 [(1, pt p3 0), (3, .slice (some ⟨p9, 0, none⟩) 0 0)] ?_
 refine GL.q hK8 ?_
 refine G.seqK fun K13 hK14 => ?_
 refine G.sr fun K15 hK16 => ?_
 refine GL.r 1 1 [(1, pt p3 0), (3, .slice (some ⟨p9, 0, none⟩) 0 0), (4, li 31)] ?_
 refine GL.q hK16 ?_
 refine G.block ?_
 refine G.fit [1, 3, 4] (M' := [(1, pt p3 0), (3, .slice (some ⟨p9, 0, none⟩) 0 0), (4, li 31)]) (by kernel_rfl) ?_
 refine G.eq (M' := [(1, pt p3 0), (3, .slice (some ⟨p9, 0, none⟩) (ndg 0) 0), (4, li (((32 : Nat) : Int) - 1))]) (by rfl) ?_
 refine G.loop (X := Nat × Nat × Option Addr × Nat) (fun ⟨m, V, Z, z⟩ => [(1, pt p3 0), (3, .slice Z (ndg V) z), (4, li (((m : Nat) : Int) - 1))]) (fun ⟨m, V, Z, z⟩ w_ => (m ≤ 32 ∧ V * 256 ^ m + bsum (hx8 X) m = bsum (hx8 X) 32) ∧ Hp w [] [.blk p3 (by8 X) 23, .row Z (ndg V) z 31 1 (dg (digs V))] w_) (fun ⟨m, V, Z, z⟩ => m) ⟨32, 0, (some ⟨p9, 0, none⟩), 0⟩ [1, 3, 4] (by kernel_rfl) ⟨⟨Nat.le_refl _, by rw [Nat.zero_mul, Nat.zero_add]⟩, H12⟩ ?_
 rintro ⟨m, V, Z, z⟩ w17 ⟨hi18, H19⟩
 refine G.eq (M' := [(1, pt p3 0), (3, .slice Z (ndg V) z), (4, li (((m : Nat) : Int) - 1))]) rfl ?_
 obtain ⟨hm32, hV⟩ := hi18
 have nV : ndg V ≤ 16 := ndg_K4 (Nat.lt_of_le_of_lt (bsum_top hV) (hnum_lt X))
 have hgi := UInt8.toNat_lt (X.getD (m - 1) 0)
 refine G.seqK fun K20 hK21 => ?_
 refine G.sr fun K22 hK23 => ?_
 refine GL.r 2 2 [(1, pt p3 0), (3, .slice Z (ndg V) z), (4, li (((m : Nat) : Int) - 1)), (7, .bool (decide (0 ≤ (((m : Nat) : Int) - 1))))] ?_
 refine GL.q hK23 ?_
 cases hb24 : (decide (0 ≤ (((m : Nat) : Int) - 1)))
 · skip
   have hb24f := of_decide_eq_false hb24
   have hm0 : m = 0 := by omega
   have hV0 : V = hnum X := by rw [hm0, Nat.pow_zero, Nat.mul_one] at hV; exact hV
   refine G.no rfl ?_
   refine G.exitK hK14 (fun _ _ h => h) ?_
   refine G.sr fun K25 hK26 => ?_
   refine GL.r 2 2 [(2, .slice Z (ndg V) z)] ?_
   refine GL.q hK26 ?_
   refine G.ret fun F_ hF_ hM_ => hRet _ _ (bodyPost_1 rfl (RV.tmp rfl) ?_ F_ hF_ hM_)
   have H27 : Hp w [] [.row Z (ndg V) z 31 1 (dg (digs V))] w17 := H19.sub (List.Sublist.cons _ (List.Sublist.cons_cons _ (List.Sublist.slnil)))
   have HF := H27
   rw [hV0] at HF
   rw [hV0]
   exact ⟨_, _, rfl, HF⟩
 · skip
   have hb24f := of_decide_eq_true hb24
   have hm0 : 0 < m := by omega
   have ei : (((m : Nat) : Int) - 1) = ((m - 1 : Nat) : Int) := by omega
   refine G.eq (M' := [(1, pt p3 0), (3, .slice Z (ndg V) z), (4, vi (m - 1)), (7, .bool true)]) (by rw [ei]) ?_
   refine G.yes rfl ?_
   refine G.skipK hK21 (fun _ _ h => h) ?_
   refine G.seqK fun K28 hK29 => ?_
   refine G.block ?_
   refine G.heldP (Hp w [] [.blk p3 (by8 X) 23, .row Z (ndg V) z 31 1 (dg (digs V))]) (by kernel_rfl) (by kernel_rfl) (fun c_ a_ d_ v_ w_ h_ => hPan c_ a_ d_ v_ w_ h_) ?_
   have H30 := H19.drew
   generalize ({ w17 with drawn := w17.drawn + 1 } : World) = w31 at H30 ⊢
   have hS32 : Hp w [] [.blk p3 (by8 X) 23, .row Z (ndg V) z 31 1 (dg (digs V))] w31 := H30.sub (List.Sublist.cons_cons _ (List.Sublist.cons_cons _ (List.Sublist.slnil)))
   refine GP.r [0, 3] [(1, pt p3 0), (3, .slice Z (ndg V) z), (4, vi (m - 1)), (10, .slice Z (ndg V) z), (13, vi (m - 1))] [0, 3] hS32 ?_
   refine GP.s 4 (fun w_ H_ => run_idxArr (P := Try.prog) (k := .i64) (t := 23) (len := 32) (sz := 1) (b := p3) (o := 0) (j := m - 1) (by kernel_rfl) rfl (by omega)) [(1, pt p3 0), (3, .slice Z (ndg V) z), (4, vi (m - 1)), (10, .slice Z (ndg V) z), (14, pt p3 (0 + (m - 1) * 1))] hS32 ?_
   refine GP.s 5 (fun w_ H_ => H_.ld (o := (0 + (m - 1) * 1)) (ty := 5) (v := .int .u8 (((X.getD (m - 1) 0)).toNat : Int)) 0 rfl (by kernel_rfl) (by rw [show (0 + (m - 1) * 1) = (m - 1) by omega]; exact by8_at (getD8 (by rw [hX]; omega)))) [(1, pt p3 0), (3, .slice Z (ndg V) z), (4, vi (m - 1)), (10, .slice Z (ndg V) z), (15, lb (((X.getD (m - 1) 0)).toNat : Int))] hS32 ?_
   refine GP.r [6, 7] [(1, pt p3 0), (3, .slice Z (ndg V) z), (4, vi (m - 1)), (10, .slice Z (ndg V) z), (17, .agg #[lu (IntKind.u64.wrap (((X.getD (m - 1) 0)).toNat : Int)), lu 0, lu 0, lu 0])] [0, 3, 4, 5, 6, 7] hS32 ?_
   have e33 : (IntKind.u64.wrap (((X.getD (m - 1) 0)).toNat : Int)) = (((X.getD (m - 1) 0)).toNat : Int) := u8_up_u64 _
   refine GP.eq (M' := [(1, pt p3 0), (3, .slice Z (ndg V) z), (4, vi (m - 1)), (10, .slice Z (ndg V) z), (17, .agg #[lu (((X.getD (m - 1) 0)).toNat : Int), lu 0, lu 0, lu 0])]) (by rw [e33]) ?_
   clear e33
   obtain ⟨p34, w35, r36, H37⟩ := H30.madeRow (P := Try.prog) (Instr.buildSlice 35 1 #[(0, lu 256)]) (fun b_ => .slice (some ⟨b_, 0, none⟩) 1 1) [lu 256] 31 1 1 1 (by kernel_rfl) (by decide) (by decide) rfl
   have hS38 : Hp w [] [.blk p3 (by8 X) 23, .row Z (ndg V) z 31 1 (dg (digs V))] w35 := H37.sub (List.Sublist.cons_cons _ (List.Sublist.cons_cons _ (List.Sublist.cons _ (List.Sublist.slnil))))
   refine GP.made 1 r36 [1, 3, 4, 10, 11, 17] [(1, pt p3 0), (3, .slice Z (ndg V) z), (4, vi (m - 1)), (10, .slice Z (ndg V) z), (11, .slice (some ⟨p34, 0, none⟩) 1 1), (17, .agg #[lu (((X.getD (m - 1) 0)).toNat : Int), lu 0, lu 0, lu 0])] (by kernel_rfl) (by kernel_rfl) (by kernel_rfl) hS38 ?_
   have hN46 : ndg (V * 256) ≤ 17 := ndg_mul nV (show ndg 256 ≤ 1 from ndg_le.2 (by decide))
   refine GP.call 2 (MulN_calls V 256 Z z (some ⟨p34, 0, none⟩) 1 w35 (H37.rdRow 1 rfl) (H37.rdRow 2 rfl) (Nat.le_trans nV (by decide)) (Nat.le_trans (show ndg 256 ≤ 1 from ndg_le.2 (by decide)) (by decide))) (by kernel_rfl) (by kernel_rfl) (fun e_ w43 hR => ?_)
   obtain ⟨A39, c40, rfl, H42⟩ := hR
   have H41 : Hp w [] [.blk p3 (by8 X) 23, .row Z (ndg V) z 31 1 (dg (digs V)), .row (some ⟨p34, 0, none⟩) 1 1 31 1 (dg [256]), .row A39 (ndg (V * 256)) c40 31 1 (dg (digs (V * 256)))] w43 := H37.callNew H42
   have hS47 : Hp w [] [.blk p3 (by8 X) 23, .row Z (ndg V) z 31 1 (dg (digs V))] w43 := H41.sub (List.Sublist.cons_cons _ (List.Sublist.cons_cons _ (List.Sublist.cons _ (List.Sublist.cons _ (List.Sublist.slnil)))))
   refine ⟨_, rfl, hS47, [1, 3, 4, 12, 17], [(1, pt p3 0), (3, .slice Z (ndg V) z), (4, vi (m - 1)), (12, .slice A39 (ndg (V * 256)) c40), (17, .agg #[lu (((X.getD (m - 1) 0)).toNat : Int), lu 0, lu 0, lu 0])], by kernel_rfl, ?_⟩
   have hN53 : ndg (((X.getD (m - 1) 0)).toNat) ≤ 4 := ndg_K (Nat.lt_trans (UInt8.toNat_lt _) (by decide))
   refine GP.call 8 (Of1_calls_n (((X.getD (m - 1) 0)).toNat) (Nat.lt_trans (UInt8.toNat_lt _) (by decide)) w43) (by kernel_rfl) (by kernel_rfl) (fun e_ w52 hR => ?_)
   obtain ⟨A48, c49, rfl, H51⟩ := hR
   have H50 : Hp w [] [.blk p3 (by8 X) 23, .row Z (ndg V) z 31 1 (dg (digs V)), .row (some ⟨p34, 0, none⟩) 1 1 31 1 (dg [256]), .row A39 (ndg (V * 256)) c40 31 1 (dg (digs (V * 256))), .row A48 (ndg (((X.getD (m - 1) 0)).toNat)) c49 31 1 (dg (digs (((X.getD (m - 1) 0)).toNat)))] w52 := H41.callNew H51
   have hS54 : Hp w [] [.blk p3 (by8 X) 23, .row Z (ndg V) z 31 1 (dg (digs V))] w52 := H50.sub (List.Sublist.cons_cons _ (List.Sublist.cons_cons _ (List.Sublist.cons _ (List.Sublist.cons _ (List.Sublist.cons _ (List.Sublist.slnil))))))
   refine ⟨_, rfl, hS54, [1, 3, 4, 12, 18], [(1, pt p3 0), (3, .slice Z (ndg V) z), (4, vi (m - 1)), (12, .slice A39 (ndg (V * 256)) c40), (18, .slice A48 (ndg (((X.getD (m - 1) 0)).toNat)) c49)], by kernel_rfl, ?_⟩
   have hN60 : ndg ((V * 256) + (((X.getD (m - 1) 0)).toNat)) ≤ 18 := ndg_add (i := 17) (Nat.le_trans hN46 (by decide)) (Nat.le_trans hN53 (by decide))
   refine GP.call 9 (AddN_calls (V * 256) (((X.getD (m - 1) 0)).toNat) A39 c40 A48 c49 w52 (H50.rdRow 3 rfl) (H50.rdRow 4 rfl) (Nat.le_trans hN46 (by decide)) (Nat.le_trans hN53 (by decide))) (by kernel_rfl) (by kernel_rfl) (fun e_ w59 hR => ?_)
   obtain ⟨A55, c56, rfl, H58⟩ := hR
   have H57 : Hp w [] [.blk p3 (by8 X) 23, .row Z (ndg V) z 31 1 (dg (digs V)), .row (some ⟨p34, 0, none⟩) 1 1 31 1 (dg [256]), .row A39 (ndg (V * 256)) c40 31 1 (dg (digs (V * 256))), .row A48 (ndg (((X.getD (m - 1) 0)).toNat)) c49 31 1 (dg (digs (((X.getD (m - 1) 0)).toNat))), .row A55 (ndg ((V * 256) + (((X.getD (m - 1) 0)).toNat))) c56 31 1 (dg (digs ((V * 256) + (((X.getD (m - 1) 0)).toNat))))] w59 := H50.callNew H58
   have hS61 : Hp w [] [.blk p3 (by8 X) 23, .row Z (ndg V) z 31 1 (dg (digs V))] w59 := H57.sub (List.Sublist.cons_cons _ (List.Sublist.cons_cons _ (List.Sublist.cons _ (List.Sublist.cons _ (List.Sublist.cons _ (List.Sublist.cons _ (List.Sublist.slnil)))))))
   refine ⟨_, rfl, hS61, [1, 3, 4, 19], [(1, pt p3 0), (3, .slice Z (ndg V) z), (4, vi (m - 1)), (19, .slice A55 (ndg ((V * 256) + (((X.getD (m - 1) 0)).toNat))) c56)], by kernel_rfl, ?_⟩
   refine GP.r [10] [(1, pt p3 0), (3, .slice A55 (ndg ((V * 256) + (((X.getD (m - 1) 0)).toNat))) c56), (4, vi (m - 1))] [0, 3, 4, 5, 6, 7, 1, 2, 8, 9, 10] hS61 ?_
   refine GP.k (by kernel_rfl) hK29 (fun _ _ h => h) ?_
   refine G.region ?_
   refine GL.r 3 3 [(1, pt p3 0), (3, .slice A55 (ndg ((V * 256) + (((X.getD (m - 1) 0)).toNat))) c56), (4, li (IntKind.i64.wrap (((m - 1 : Nat) : Int) - 1)))] ?_
   have e62 : (IntKind.i64.wrap (((m - 1 : Nat) : Int) - 1)) = (((m - 1 : Nat) : Int) - 1) := in_i64 (by omega)
   rw [e62]
   clear e62
   have H63 : Hp w [] [.blk p3 (by8 X) 23, .row A55 (ndg ((V * 256) + (((X.getD (m - 1) 0)).toNat))) c56 31 1 (dg (digs ((V * 256) + (((X.getD (m - 1) 0)).toNat))))] w59 := H57.sub (List.Sublist.cons_cons _ (List.Sublist.cons _ (List.Sublist.cons _ (List.Sublist.cons _ (List.Sublist.cons _ (List.Sublist.cons_cons _ (List.Sublist.slnil)))))))
   refine GL.fit (ts := [1, 3, 4]) (M' := [(1, pt p3 0), (3, .slice A55 (ndg ((V * 256) + (((X.getD (m - 1) 0)).toNat))) c56), (4, li (((m - 1 : Nat) : Int) - 1))]) (by kernel_rfl) ?_
   refine GL.eq (M' := [(1, pt p3 0), (3, .slice A55 (ndg ((V * 256) + (((X.getD (m - 1) 0)).toNat))) c56), (4, li ((((m - 1) : Nat) : Int) - 1))]) (by rfl) ?_
   exact GL.again ⟨(m - 1), ((V * 256) + (((X.getD (m - 1) 0)).toNat)), A55, c56⟩ [1, 3, 4] rfl (by kernel_rfl) (by show (m - 1) < m; omega) ⟨⟨by omega, bsum_step hm0 hV⟩, H63⟩
theorem hdC_setn {v t b n m : Nat} {A R : List UInt8} (hA : A.length = 32) (hR : R.length = 32) : (hdC v A R t b n).set 67 (.int .u32 (m : Int)) = hdC v A R t b m := by
 have e : ∀ m : Nat, hdC v A R t b m = (.int .u32 (v : Int) :: (by8 A ++ (by8 R ++ [.int .u32 (t : Int), .int .u32 (b : Int)]))) ++ [.int .u32 (m : Int)] := fun m => by simp [hdC]
 rw [e, e, List.set_append_right _ _ (by simp [by8_length, hA, hR])]
 simp [by8_length, hA, hR]
theorem hd_bits {v t b n : Nat} {A R : List UInt8} (hA : A.length = 32) (hR : R.length = 32) (hb : b < 4294967296) : getB (((hdB v A R t b n).take 76).drop 72) = b := by
 have e : hdB v A R t b n = (putB v 4 ++ (A ++ (R ++ putB t 4))) ++ (putB b 4 ++ putB n 4) := by simp [hdB]
 have hl : (putB v 4 ++ (A ++ (R ++ putB t 4))).length = 72 := by simp [putB_length, hA, hR]
 rw [List.drop_take, e, List.drop_left' hl, List.take_left' (by rw [putB_length]), getB_put]
 exact Nat.mod_eq_of_lt hb
def rmB (v : Nat) (A R : List UInt8) (t b n : Nat) : Bool := refOK b && decide (hdH v A R t b n ≤ refT b)
theorem rm_true {v t b n : Nat} {A R : List UInt8} (h : rmB v A R t b n = true) : decE b = 0 ∧ hdH v A R t b n ≤ decR b := by
 unfold rmB at h
 rw [Bool.and_eq_true, (refOK_iff b).1] at h
 have hE := of_decide_eq_true h.1
 exact ⟨hE, by rw [refR_dec hE]; exact of_decide_eq_true h.2⟩
theorem rm_of {v t b n : Nat} {A R : List UInt8} (hE : decE b = 0) (h : hdH v A R t b n ≤ decR b) : rmB v A R t b n = true := by
 unfold rmB
 rw [(refOK_iff b).1, decide_eq_true hE, decide_eq_true (by rw [← refR_dec hE]; exact h)]
 rfl
theorem RMeets_calls (v : Nat) (A R : List UInt8) (t b n : Nat) (Z : Option Addr) (c : Nat) (w : World) (hA : A.length = 32) (hR : R.length = 32) (hv : v < 4294967296) (ht : t < 4294967296) (hb : b < 4294967296) (hn : n < 4294967296) (hx : RdS w Z (by8 (hdB v A R t b n))) (hc : 80 ≤ c) : Calls Try.prog 12 #[.slice Z 80 c] w fun e w' => e = .returned (.bool (rmB v A R t b n)) ∧ Hp w [] [] w' := by
 have hMX : MX = 4611686018427387904 := rfl
 have hK0 : K = 18446744073709551616 := rfl
 have hK40 : K4 = 115792089237316195423570985008687907853269984665640564039457584007913129639936 := rfl
 refine calls_G (args := [.slice Z 80 c]) Try.func12 rfl Try.ntmps12 rfl ?_
 intro Q0 hRet hNor hPan
 have H := Hp.start w
 refine G.sr fun K1 hK2 => ?_
 refine GL.r 1 1 [(0, .slice Z 80 c)] ?_
 refine GL.q hK2 ?_
 refine G.sr fun K3 hK4 => ?_
 refine GL.r 1 1 [(0, .slice Z 80 c), (6, .slice Z 80 c)] ?_
 refine GL.s 2 (run_sliceSl (P := Try.prog) (lo := some (li 72)) (hi := some (li 76)) (t := 28) (len := 80) (cap := c) (A := Z) (l := 72) (h := 76) (by kernel_rfl) (Or.inr ⟨_, _, rfl, rfl⟩) (Or.inr ⟨_, _, rfl, rfl⟩) (by omega) (by omega)) [(0, .slice Z 80 c), (7, .slice (if c = 72 then Z else Option.map (fun x => Addr.add x 72) Z) 4 (c - 72))] ?_
 refine GL.call (j := 3) (RGet_calls (((hdB v A R t b n).take 76).drop 72) (if c = 72 then Z else Option.map (fun x => Addr.add x 72) Z) 4 (c - 72) w (RdS.cut8 (cap := c) (hx.hp H) 72 76 (cs := (((hdB v A R t b n).take 76).drop 72)) (by rw [hdB_length hA hR]; exact hc) rfl) (by simp [hdB_length hA hR]) (by decide)) (by kernel_rfl) rfl (fun e_ w5 hR => ?_)
 obtain ⟨rfl, H7⟩ := hR
 have H6 : Hp w [] [] w5 := H.callNil H7
 refine ⟨_, rfl, [0, 8], [(0, .slice Z 80 c), (8, vu (getB (((hdB v A R t b n).take 76).drop 72)))], by kernel_rfl, ?_⟩
 refine GL.r 4 1 [(0, .slice Z 80 c), (9, lw (IntKind.u32.wrap (((getB (((hdB v A R t b n).take 76).drop 72)) : Nat) : Int)))] ?_
 have e8 : (IntKind.u32.wrap (((getB (((hdB v A R t b n).take 76).drop 72)) : Nat) : Int)) = (b : Int) := by rw [hd_bits hA hR hb]; exact in_u32 (by omega)
 rw [e8]
 clear e8
 refine GL.call (j := 5) (Decode6_calls b hb w5) (by kernel_rfl) rfl (fun e_ w13 hR => ?_)
 obtain ⟨A9, c10, rfl, H12⟩ := hR
 have H11 : Hp w [] [.row A9 (ndg (refT b)) c10 31 1 (dg (digs (refT b)))] w13 := H6.callNew H12
 refine ⟨_, rfl, [0, 10], [(0, .slice Z 80 c), (10, .tuple #[.slice A9 (ndg (refT b)) c10, .bool (refOK b)])], by kernel_rfl, ?_⟩
 refine GL.r 10 5 [(0, .slice Z 80 c), (3, .slice A9 (ndg (refT b)) c10), (4, .bool (refOK b))] ?_
 refine GL.q hK4 ?_
 refine G.sr fun K14 hK15 => ?_
 refine GL.r 2 2 [(0, .slice Z 80 c), (3, .slice A9 (ndg (refT b)) c10), (14, .bool (refOK b))] ?_
 cases hb16 : (refOK b)
 · skip
   have hok : refOK b = false := hb16
   have hE0 := (refOK_iff b).1
   rw [hok] at hE0
   have hE : decE b ≠ 0 := of_decide_eq_false hE0.symm
   refine GL.r 10 8 [(2, .bool false)] ?_
   refine GL.q hK15 ?_
   refine G.ret fun F_ hF_ hM_ => hRet _ _ (bodyPost_1 rfl (RV.tmp rfl) ?_ F_ hF_ hM_)
   have e0 : rmB v A R t b n = false := by unfold rmB; rw [hok]; rfl
   rw [e0]
   exact ⟨rfl, H11.sub (List.nil_sublist _)⟩
 · skip
   have hok : refOK b = true := hb16
   have hE0 := (refOK_iff b).1
   rw [hok] at hE0
   have hE : decE b = 0 := of_decide_eq_true hE0.symm
   have hRT := refR_dec hE
   have nRT : ndg (refT b) ≤ 16 := by rw [← refR_dec hE]; exact ndg_K4 (decR_lt b)
   refine GL.r 3 1 [(3, .slice A9 (ndg (refT b)) c10), (14, .bool true), (15, .slice Z 80 c)] ?_
   refine GL.call (j := 4) (RefDouble_calls Z 80 c (hdB v A R t b n) w13 (hx.hp H11) ((hdB_length hA hR).symm) (by rw [hdB_length hA hR]; decide)) (by kernel_rfl) rfl (fun e_ w17 hR => ?_)
   obtain ⟨rfl, H19⟩ := hR
   have H18 : Hp w [] [.row A9 (ndg (refT b)) c10 31 1 (dg (digs (refT b)))] w17 := H11.callNil H19
   refine ⟨_, rfl, [3, 14, 16], [(3, .slice A9 (ndg (refT b)) c10), (14, .bool true), (16, .agg (by8 (sha (sha (hdB v A R t b n)))).toArray)], by kernel_rfl, ?_⟩
   have hN25 : ndg (hnum (sha (sha (hdB v A R t b n)))) ≤ 16 := ndg_K4 (hnum_lt _)
   refine GL.call (j := 5) (Number7_calls (sha (sha (hdB v A R t b n))) (by rw [sha_length]) w17) (by kernel_rfl) rfl (fun e_ w24 hR => ?_)
   obtain ⟨A20, c21, rfl, H23⟩ := hR
   have H22 : Hp w [] [.row A9 (ndg (refT b)) c10 31 1 (dg (digs (refT b))), .row A20 (ndg (hnum (sha (sha (hdB v A R t b n))))) c21 31 1 (dg (digs (hnum (sha (sha (hdB v A R t b n))))))] w24 := H18.callNew H23
   refine ⟨_, rfl, [3, 14, 17], [(3, .slice A9 (ndg (refT b)) c10), (14, .bool true), (17, .slice A20 (ndg (hnum (sha (sha (hdB v A R t b n))))) c21)], by kernel_rfl, ?_⟩
   refine GL.r 6 1 [(14, .bool true), (17, .slice A20 (ndg (hnum (sha (sha (hdB v A R t b n))))) c21), (18, .slice A9 (ndg (refT b)) c10)] ?_
   refine GL.call (j := 7) (CmpN_calls (hnum (sha (sha (hdB v A R t b n)))) (refT b) A20 A9 c21 c10 w24 (H22.rdRow 1 rfl) (H22.rdRow 0 rfl) (Nat.le_trans hN25 (by decide)) (Nat.le_trans nRT (by decide))) (by kernel_rfl) rfl (fun e_ w26 hR => ?_)
   obtain ⟨rfl, H28⟩ := hR
   have H27 : Hp w [] [.row A9 (ndg (refT b)) c10 31 1 (dg (digs (refT b))), .row A20 (ndg (hnum (sha (sha (hdB v A R t b n))))) c21 31 1 (dg (digs (hnum (sha (sha (hdB v A R t b n))))))] w26 := H22.callNil H28
   refine ⟨_, rfl, [14, 19], [(14, .bool true), (19, li (cmpN (hnum (sha (sha (hdB v A R t b n)))) (refT b)))], by kernel_rfl, ?_⟩
   refine GL.r 10 3 [(2, .bool (decide ((cmpN (hnum (sha (sha (hdB v A R t b n)))) (refT b)) ≤ 0)))] ?_
   refine GL.q hK15 ?_
   refine G.ret fun F_ hF_ hM_ => hRet _ _ (bodyPost_1 rfl (RV.tmp rfl) ?_ F_ hF_ hM_)
   have e0 : rmB v A R t b n = (decide ((cmpN (hnum (sha (sha (hdB v A R t b n)))) (refT b)) ≤ 0)) := by unfold rmB hdH; rw [hok, Bool.true_and, Bool.eq_iff_iff]; simp only [decide_eq_true_eq, cmp_le0]
   rw [e0]
   exact ⟨rfl, H27.sub (List.nil_sublist _)⟩
end Go.Proofs.Ytdepaaphgfapjaa
set_option maxRecDepth 100000
namespace Go.Proofs.Ytdepaaphgfapjaa
open Go.RowKit
theorem u32_nat {n : Int} (h : (Lit.int .u32 n).wf = true) : ∃ m : Nat, n = (m : Int) ∧ m < 4294967296 := by
 simp [Lit.wf, IntKind.min, IntKind.max, IntKind.signed, IntKind.bits] at h
 exact ⟨n.toNat, by omega, by omega⟩
def MineP (v : Nat) (A R : List UInt8) (t b n m : Nat) (v2 : Nat) (A2 R2 : List UInt8) (t2 b2 n2 : Nat) (ok : Bool) : Prop :=
 (ok = true ∧ v2 = v ∧ A2 = A ∧ R2 = R ∧ t2 = t ∧ b2 = b ∧ decE b = 0 ∧ ∃ k, n2 = n + k ∧ k ≤ m ∧ n + k < 4294967296 ∧ hdH v A R t b (n + k) ≤ decR b ∧ ∀ j, j < k → ¬ hdH v A R t b (n + j) ≤ decR b) ∨
 (ok = false ∧ v2 = 0 ∧ A2 = List.replicate 32 0 ∧ R2 = List.replicate 32 0 ∧ t2 = 0 ∧ b2 = 0 ∧ n2 = 0 ∧ (decE b ≠ 0 ∨ ∀ j, j ≤ m → n + j < 4294967296 → ¬ hdH v A R t b (n + j) ≤ decR b))
theorem not_upto {f : Nat → Prop} {k : Nat} (h : ∀ j, j < k → ¬ f j) (hk : ¬ f k) : ∀ j, j < k + 1 → ¬ f j := fun j hj => by
 by_cases he : j = k
 · rw [he]; exact hk
 · exact h j (by omega)
theorem Mine_calls (v : Nat) (A R : List UInt8) (t b n : Nat) (m : Nat) (w : World) (hA : A.length = 32) (hR : R.length = 32) (hv : v < 4294967296) (ht : t < 4294967296) (hb : b < 4294967296) (hn : n < 4294967296) (hm : m < 4294967296) : Calls Try.prog 15 #[.agg (hdC v A R t b n).toArray, .int .u32 (m : Int)] w fun e w' => ∃ v2 A2 R2 t2 b2 n2 ok, e = .returned (.tuple #[.agg (hdC v2 A2 R2 t2 b2 n2).toArray, .bool ok]) ∧ Hp w [] [] w' ∧ A2.length = 32 ∧ R2.length = 32 ∧ v2 < 4294967296 ∧ t2 < 4294967296 ∧ b2 < 4294967296 ∧ n2 < 4294967296 ∧ MineP v A R t b n m v2 A2 R2 t2 b2 n2 ok := by
 have hMX : MX = 4611686018427387904 := rfl
 have hK0 : K = 18446744073709551616 := rfl
 have hK40 : K4 = 115792089237316195423570985008687907853269984665640564039457584007913129639936 := rfl
 refine calls_G (args := [.agg (hdC v A R t b n).toArray, vw m]) Try.func15 rfl Try.ntmps15 rfl ?_
 intro Q0 hRet hNor hPan
 have H := Hp.start w
 refine G.sr fun K1 hK2 => ?_
 obtain ⟨p3, w4, r5, H6⟩ := H.box (P := Try.prog) 26 (hdC v A R t b n) (.agg (hdC v A R t b n).toArray) rfl
 refine GL.s 1 (r5) [(1, vw m), (2, pt p3 0)] ?_
 obtain ⟨p7, w8, r9, H10⟩ := H6.alloc (P := Try.prog) 26 (hdC 0 (List.replicate 32 0) (List.replicate 32 0) 0 0 0) (by kernel_rfl)
 refine GL.s 2 (r9) [(1, vw m), (2, pt p3 0), (4, pt p7 0)] ?_
 refine GL.r 3 1 [(1, vw m), (2, pt p3 0), (4, pt p7 0)] ?_
 refine GL.q hK2 ?_
 refine G.sr fun K11 hK12 => ?_
 refine GL.r 1 1 [(1, vw m), (2, pt p3 0), (4, pt p7 0), (10, pt p3 66)] ?_
 refine GL.s 2 (H10.ld (o := 66) (ty := 22) (v := vw b) 0 rfl (by kernel_rfl) (hdC_b hA hR)) [(1, vw m), (2, pt p3 0), (4, pt p7 0), (11, vw b)] ?_
 refine GL.call (j := 3) (Decode_calls b hb w8) (by kernel_rfl) rfl (fun e_ w13 hR => ?_)
 obtain ⟨rfl, H15⟩ := hR
 have H14 : Hp w [] [.blk p3 (hdC v A R t b n) 26, .blk p7 (hdC 0 (List.replicate 32 0) (List.replicate 32 0) 0 0 0) 26] w13 := H10.callNil H15
 refine ⟨_, rfl, [1, 2, 4, 12], [(1, vw m), (2, pt p3 0), (4, pt p7 0), (12, .tuple #[wv (decR b), vi (decE b)])], by kernel_rfl, ?_⟩
 refine GL.r 6 3 [(1, vw m), (2, pt p3 0), (4, pt p7 0), (13, wv (decR b)), (14, vi (decE b))] ?_
 obtain ⟨p16, w17, r18, H19⟩ := H14.alloc (P := Try.prog) 33 z4 (by kernel_rfl)
 refine GL.s 7 (r18) [(1, vw m), (2, pt p3 0), (4, pt p7 0), (6, pt p16 0), (13, wv (decR b)), (14, vi (decE b))] ?_
 obtain ⟨w20, r21, H22⟩ := H19.stA (P := Try.prog) (o := 0) (vs := (wl (decR b))) (ty := 33) (m := 4) 2 rfl (by kernel_rfl) rfl (by first | decide | simp) (wl_one _)
 refine GL.u 8 r21 [(1, vw m), (2, pt p3 0), (4, pt p7 0), (6, pt p16 0), (14, vi (decE b))] ?_
 refine GL.r 9 1 [(1, vw m), (2, pt p3 0), (4, pt p7 0), (6, pt p16 0), (7, vi (decE b))] ?_
 refine GL.q hK12 ?_
 refine G.seqK fun K23 hK24 => ?_
 refine G.sr fun K25 hK26 => ?_
 refine GL.r 2 2 [(1, vw m), (2, pt p3 0), (4, pt p7 0), (6, pt p16 0), (16, .bool ((((decE b) : Nat) : Int) != 0))] ?_
 refine GL.q hK26 ?_
 cases hb27 : ((((decE b) : Nat) : Int) != 0)
 · skip
   have hb27f : (((decE b) : Nat) : Int) = 0 := bne_eq_false_iff_eq.1 hb27
   have hE : decE b = 0 := by omega
   refine G.no rfl ?_
   refine G.skipK hK24 (fun _ _ h => h) ?_
   refine G.sr fun K28 hK29 => ?_
   refine GL.r 1 1 [(1, vw m), (2, pt p3 0), (4, pt p7 0), (6, pt p16 0), (8, lw 0)] ?_
   refine GL.q hK29 ?_
   refine G.block ?_
   refine G.fit [1, 2, 4, 6, 8] (M' := [(1, vw m), (2, pt p3 0), (4, pt p7 0), (6, pt p16 0), (8, lw 0)]) (by kernel_rfl) ?_
   refine G.loop (X := Nat) (fun k => [(1, vw m), (2, pt p3 0), (4, pt p7 0), (6, pt p16 0), (8, vw k)]) (fun k w_ => (k ≤ m ∧ n + k < 4294967296 ∧ ∀ j, j < k → ¬ hdH v A R t b (n + j) ≤ decR b) ∧ Hp w [] [.blk p3 (hdC v A R t b (n + k)) 26, .blk p7 (hdC 0 (List.replicate 32 0) (List.replicate 32 0) 0 0 0) 26, .blk p16 (wl (decR b)) 33] w_) (fun k => m - k) 0 [1, 2, 4, 6, 8] (by kernel_rfl) ⟨⟨Nat.zero_le _, by omega, fun j hj => absurd hj (Nat.not_lt_zero j)⟩, H22⟩ ?_
   rintro k w30 ⟨hi31, H32⟩
   refine G.eq (M' := [(1, vw m), (2, pt p3 0), (4, pt p7 0), (6, pt p16 0), (8, vw k)]) rfl ?_
   obtain ⟨hkm, hnk, hno⟩ := hi31
   refine G.seqK fun K33 hK34 => ?_
   refine G.block ?_
   refine G.seqK fun K35 hK36 => ?_
   refine G.seqK fun K37 hK38 => ?_
   refine G.heldP (Hp w [] [.blk p3 (hdC v A R t b (n + k)) 26, .blk p7 (hdC 0 (List.replicate 32 0) (List.replicate 32 0) 0 0 0) 26, .blk p16 (wl (decR b)) 33]) (by kernel_rfl) (by kernel_rfl) (fun c_ a_ d_ v_ w_ h_ => hPan c_ a_ d_ v_ w_ h_) ?_
   have H39 := H32.drew
   generalize ({ w30 with drawn := w30.drawn + 1 } : World) = w40 at H39 ⊢
   have hS41 : Hp w [] [.blk p3 (hdC v A R t b (n + k)) 26, .blk p7 (hdC 0 (List.replicate 32 0) (List.replicate 32 0) 0 0 0) 26, .blk p16 (wl (decR b)) 33] w40 := H39.sub (List.Sublist.cons_cons _ (List.Sublist.cons_cons _ (List.Sublist.cons_cons _ (List.Sublist.slnil))))
   refine GP.s 0 (fun w_ H_ => H_.ldA (o := 0) (ty := 26) (m := 68) (sub := hdC v A R t b (n + k)) 0 rfl (by kernel_rfl) (sub_whole (hdC_length hA hR)) (hdC_length hA hR)) [(1, vw m), (2, pt p3 0), (4, pt p7 0), (6, pt p16 0), (8, vw k), (20, .agg (hdC v A R t b (n + k)).toArray)] hS41 ?_
   refine GP.s 2 (fun w_ H_ => H_.ldA (o := 0) (ty := 33) (m := 4) (sub := (wl (decR b))) 2 rfl (by kernel_rfl) rfl rfl) [(1, vw m), (2, pt p3 0), (4, pt p7 0), (6, pt p16 0), (8, vw k), (20, .agg (hdC v A R t b (n + k)).toArray), (22, wv (decR b))] hS41 ?_
   refine GP.call 1 (HHash_calls v A R t b (n + k) w40 hA hR (by omega) (by omega) (by omega) (by omega)) (by kernel_rfl) (by kernel_rfl) (fun e_ w42 hR => ?_)
   obtain ⟨rfl, H44⟩ := hR
   have H43 : Hp w [] [.blk p3 (hdC v A R t b (n + k)) 26, .blk p7 (hdC 0 (List.replicate 32 0) (List.replicate 32 0) 0 0 0) 26, .blk p16 (wl (decR b)) 33] w42 := H39.callNil H44
   have hS45 : Hp w [] [.blk p3 (hdC v A R t b (n + k)) 26, .blk p7 (hdC 0 (List.replicate 32 0) (List.replicate 32 0) 0 0 0) 26, .blk p16 (wl (decR b)) 33] w42 := H43.sub (List.Sublist.cons_cons _ (List.Sublist.cons_cons _ (List.Sublist.cons_cons _ (List.Sublist.slnil))))
   refine ⟨_, rfl, hS45, [1, 2, 4, 6, 8, 21, 22], [(1, vw m), (2, pt p3 0), (4, pt p7 0), (6, pt p16 0), (8, vw k), (21, .agg (by8 (sha (sha (hdB v A R t b (n + k))))).toArray), (22, wv (decR b))], by kernel_rfl, ?_⟩
   refine GP.call 3 (MeetsX_calls (sha (sha (hdB v A R t b (n + k)))) (decR b) (by rw [sha_length]) (decR_lt _) w42) (by kernel_rfl) (by kernel_rfl) (fun e_ w46 hR => ?_)
   obtain ⟨rfl, H48⟩ := hR
   have H47 : Hp w [] [.blk p3 (hdC v A R t b (n + k)) 26, .blk p7 (hdC 0 (List.replicate 32 0) (List.replicate 32 0) 0 0 0) 26, .blk p16 (wl (decR b)) 33] w46 := H43.callNil H48
   have hS49 : Hp w [] [.blk p3 (hdC v A R t b (n + k)) 26, .blk p7 (hdC 0 (List.replicate 32 0) (List.replicate 32 0) 0 0 0) 26, .blk p16 (wl (decR b)) 33] w46 := H47.sub (List.Sublist.cons_cons _ (List.Sublist.cons_cons _ (List.Sublist.cons_cons _ (List.Sublist.slnil))))
   refine ⟨_, rfl, hS49, [1, 2, 4, 6, 8, 23], [(1, vw m), (2, pt p3 0), (4, pt p7 0), (6, pt p16 0), (8, vw k), (23, .bool (decide (hnum (sha (sha (hdB v A R t b (n + k)))) ≤ (decR b))))], by kernel_rfl, ?_⟩
   refine GP.k (by kernel_rfl) hK38 (fun _ _ h => h) ?_
   cases hb50 : (decide (hnum (sha (sha (hdB v A R t b (n + k)))) ≤ (decR b)))
   · skip
     have hb50f := of_decide_eq_false hb50
     have hme : ¬ hdH v A R t b (n + k) ≤ decR b := of_decide_eq_false hb50
     refine G.no rfl ?_
     refine G.skipK hK36 (fun _ _ h => h) ?_
     refine G.seqK fun K51 hK52 => ?_
     refine G.sr fun K53 hK54 => ?_
     refine GL.r 4 4 [(1, vw m), (2, pt p3 0), (4, pt p7 0), (6, pt p16 0), (8, vw k), (28, .bool ((k : Int) == (m : Int)))] ?_
     cases hb55 : ((k : Int) == (m : Int))
     · skip
       have hb55f := ne_of_beq_false hb55
       refine GL.r 5 1 [(1, vw m), (2, pt p3 0), (4, pt p7 0), (6, pt p16 0), (8, vw k), (28, .bool false), (29, pt p3 67)] ?_
       refine GL.s 6 (H47.ld (o := 67) (ty := 22) (v := vw (n + k)) 0 rfl (by kernel_rfl) (hdC_n hA hR)) [(1, vw m), (2, pt p3 0), (4, pt p7 0), (6, pt p16 0), (8, vw k), (28, .bool false), (30, vw (n + k))] ?_
       refine GL.r 8 2 [(1, vw m), (2, pt p3 0), (4, pt p7 0), (6, pt p16 0), (8, vw k), (32, .bool (((n + k : Nat) : Int) == 4294967295))] ?_
       refine GL.q hK54 ?_
       cases hb56 : (((n + k : Nat) : Int) == 4294967295)
       · skip
         have hb56f := ne_of_beq_false hb56
         refine G.no rfl ?_
         refine G.skipK hK52 (fun _ _ h => h) ?_
         refine G.region ?_
         refine GL.r 1 1 [(1, vw m), (2, pt p3 0), (4, pt p7 0), (6, pt p16 0), (8, vw k), (34, pt p3 67)] ?_
         refine GL.s 2 (H47.ld (o := 67) (ty := 22) (v := vw (n + k)) 0 rfl (by kernel_rfl) (hdC_n hA hR)) [(1, vw m), (2, pt p3 0), (4, pt p7 0), (6, pt p16 0), (8, vw k), (35, vw (n + k))] ?_
         refine GL.r 4 2 [(1, vw m), (2, pt p3 0), (4, pt p7 0), (6, pt p16 0), (8, vw k), (36, lw (IntKind.u32.wrap (((n + k : Nat) : Int) + 1))), (37, pt p3 67)] ?_
         have e57 : (IntKind.u32.wrap (((n + k : Nat) : Int) + 1)) = (((n + (k + 1)) : Nat) : Int) := by rw [in_u32 (by omega)]; omega
         rw [e57]
         clear e57
         obtain ⟨w58, r59, H60⟩ := H47.st (P := Try.prog) (o := 67) (ty := 22) (v := vw (n + (k + 1))) 0 rfl (by kernel_rfl) (by rw [hdC_length hA hR]; decide) rfl
         rw [hdC_setn hA hR] at H60
         refine GL.u 5 r59 [(1, vw m), (2, pt p3 0), (4, pt p7 0), (6, pt p16 0), (8, vw k)] ?_
         refine GL.q hK34 ?_
         refine G.region ?_
         refine GL.r 3 3 [(1, vw m), (2, pt p3 0), (4, pt p7 0), (6, pt p16 0), (8, lw (IntKind.u32.wrap ((k : Int) + 1)))] ?_
         have e61 : (IntKind.u32.wrap ((k : Int) + 1)) = (((k + 1) : Nat) : Int) := by rw [in_u32 (by omega)]; omega
         rw [e61]
         clear e61
         exact GL.again (k + 1) [1, 2, 4, 6, 8] rfl (by kernel_rfl) (by show m - (k + 1) < m - k; omega) ⟨⟨by omega, by omega, not_upto hno hme⟩, H60⟩
       · skip
         have hb56f := eq_of_beq hb56
         refine G.yes rfl ?_
         refine G.sr fun K62 hK63 => ?_
         refine GL.r 1 1 [(4, pt p7 0), (33, .agg (hdC 0 (List.replicate 32 0) (List.replicate 32 0) 0 0 0).toArray)] ?_
         obtain ⟨w64, r65, H66⟩ := H47.stA (P := Try.prog) (o := 0) (vs := hdC 0 (List.replicate 32 0) (List.replicate 32 0) 0 0 0) (ty := 26) (m := 68) 1 rfl (by kernel_rfl) (hdC_length rfl rfl) (by rw [Nat.zero_add, hdC_length rfl rfl]; exact Nat.le_refl _) hdC_one
         rw [st_whole (hdC_length rfl rfl)] at H66
         refine GL.u 2 r65 [(4, pt p7 0)] ?_
         refine GL.r 3 1 [(4, pt p7 0), (5, .bool false)] ?_
         refine GL.q hK63 ?_
         refine G.ret fun F_ hF_ hM_ => hRet _ _ (bodyPost_2 rfl (RV.cell rfl (H66.ldA (o := 0) (ty := 26) (m := 68) (sub := hdC 0 (List.replicate 32 0) (List.replicate 32 0) 0 0 0) 1 rfl (by kernel_rfl) (sub_whole (hdC_length rfl rfl)) (hdC_length rfl rfl))) (RV.tmp rfl) ?_ F_ hF_ hM_)
         exact ⟨0, (List.replicate 32 0), (List.replicate 32 0), 0, 0, 0, false, rfl, H66.sub (List.nil_sublist _), rfl, rfl, by decide, by decide, by decide, by decide, .inr ⟨rfl, rfl, rfl, rfl, rfl, rfl, rfl, .inr fun j hj hnj => not_upto (f := fun j => hdH v A R t b (n + j) ≤ decR b) hno hme j (by omega)⟩⟩
     · skip
       have hb55f := eq_of_beq hb55
       refine GL.r 8 4 [(1, vw m), (2, pt p3 0), (4, pt p7 0), (6, pt p16 0), (8, vw k), (32, .bool true)] ?_
       refine GL.q hK54 ?_
       refine G.yes rfl ?_
       refine G.sr fun K67 hK68 => ?_
       refine GL.r 1 1 [(4, pt p7 0), (33, .agg (hdC 0 (List.replicate 32 0) (List.replicate 32 0) 0 0 0).toArray)] ?_
       obtain ⟨w69, r70, H71⟩ := H47.stA (P := Try.prog) (o := 0) (vs := hdC 0 (List.replicate 32 0) (List.replicate 32 0) 0 0 0) (ty := 26) (m := 68) 1 rfl (by kernel_rfl) (hdC_length rfl rfl) (by rw [Nat.zero_add, hdC_length rfl rfl]; exact Nat.le_refl _) hdC_one
       rw [st_whole (hdC_length rfl rfl)] at H71
       refine GL.u 2 r70 [(4, pt p7 0)] ?_
       refine GL.r 3 1 [(4, pt p7 0), (5, .bool false)] ?_
       refine GL.q hK68 ?_
       refine G.ret fun F_ hF_ hM_ => hRet _ _ (bodyPost_2 rfl (RV.cell rfl (H71.ldA (o := 0) (ty := 26) (m := 68) (sub := hdC 0 (List.replicate 32 0) (List.replicate 32 0) 0 0 0) 1 rfl (by kernel_rfl) (sub_whole (hdC_length rfl rfl)) (hdC_length rfl rfl))) (RV.tmp rfl) ?_ F_ hF_ hM_)
       exact ⟨0, (List.replicate 32 0), (List.replicate 32 0), 0, 0, 0, false, rfl, H71.sub (List.nil_sublist _), rfl, rfl, by decide, by decide, by decide, by decide, .inr ⟨rfl, rfl, rfl, rfl, rfl, rfl, rfl, .inr fun j hj hnj => not_upto (f := fun j => hdH v A R t b (n + j) ≤ decR b) hno hme j (by omega)⟩⟩
   · skip
     have hb50f := of_decide_eq_true hb50
     have hme : hdH v A R t b (n + k) ≤ decR b := of_decide_eq_true hb50
     refine G.yes rfl ?_
     refine G.sr fun K72 hK73 => ?_
     refine GL.s 1 (H47.ldA (o := 0) (ty := 26) (m := 68) (sub := hdC v A R t b (n + k)) 0 rfl (by kernel_rfl) (sub_whole (hdC_length hA hR)) (hdC_length hA hR)) [(4, pt p7 0), (24, .agg (hdC v A R t b (n + k)).toArray)] ?_
     obtain ⟨w74, r75, H76⟩ := H47.stA (P := Try.prog) (o := 0) (vs := hdC v A R t b (n + k)) (ty := 26) (m := 68) 1 rfl (by kernel_rfl) (hdC_length hA hR) (by rw [Nat.zero_add, hdC_length rfl rfl]; exact Nat.le_refl _) hdC_one
     rw [st_whole (hdC_length rfl rfl)] at H76
     refine GL.u 2 r75 [(4, pt p7 0)] ?_
     refine GL.r 3 1 [(4, pt p7 0), (5, .bool true)] ?_
     refine GL.q hK73 ?_
     refine G.ret fun F_ hF_ hM_ => hRet _ _ (bodyPost_2 rfl (RV.cell rfl (H76.ldA (o := 0) (ty := 26) (m := 68) (sub := hdC v A R t b (n + k)) 1 rfl (by kernel_rfl) (sub_whole (hdC_length hA hR)) (hdC_length hA hR))) (RV.tmp rfl) ?_ F_ hF_ hM_)
     exact ⟨v, A, R, t, b, n + k, true, rfl, H76.sub (List.nil_sublist _), hA, hR, hv, ht, hb, hnk, .inl ⟨rfl, rfl, rfl, rfl, rfl, rfl, hE, k, rfl, hkm, hnk, hme, hno⟩⟩
 · skip
   have hb27f : (((decE b) : Nat) : Int) ≠ 0 := bne_iff_ne.1 hb27
   have hE : decE b ≠ 0 := by omega
   refine G.yes rfl ?_
   refine G.sr fun K77 hK78 => ?_
   refine GL.r 1 1 [(4, pt p7 0), (17, .agg (hdC 0 (List.replicate 32 0) (List.replicate 32 0) 0 0 0).toArray)] ?_
   obtain ⟨w79, r80, H81⟩ := H22.stA (P := Try.prog) (o := 0) (vs := hdC 0 (List.replicate 32 0) (List.replicate 32 0) 0 0 0) (ty := 26) (m := 68) 1 rfl (by kernel_rfl) (hdC_length rfl rfl) (by rw [Nat.zero_add, hdC_length rfl rfl]; exact Nat.le_refl _) hdC_one
   rw [st_whole (hdC_length rfl rfl)] at H81
   refine GL.u 2 r80 [(4, pt p7 0)] ?_
   refine GL.r 3 1 [(4, pt p7 0), (5, .bool false)] ?_
   refine GL.q hK78 ?_
   refine G.ret fun F_ hF_ hM_ => hRet _ _ (bodyPost_2 rfl (RV.cell rfl (H81.ldA (o := 0) (ty := 26) (m := 68) (sub := hdC 0 (List.replicate 32 0) (List.replicate 32 0) 0 0 0) 1 rfl (by kernel_rfl) (sub_whole (hdC_length rfl rfl)) (hdC_length rfl rfl))) (RV.tmp rfl) ?_ F_ hF_ hM_)
   exact ⟨0, (List.replicate 32 0), (List.replicate 32 0), 0, 0, 0, false, rfl, H81.sub (List.nil_sublist _), rfl, rfl, by decide, by decide, by decide, by decide, .inr ⟨rfl, rfl, rfl, rfl, rfl, rfl, rfl, .inl hE⟩⟩
end Go.Proofs.Ytdepaaphgfapjaa
set_option maxRecDepth 100000
namespace Go.Proofs.Ytdepaaphgfapjaa
open Go.RowKit
theorem first_root : parT ([52, 97, 53, 101, 49, 101, 52, 98, 97, 97, 98, 56, 57, 102, 51, 97, 51, 50, 53, 49, 56, 97, 56, 56, 99, 51, 49, 98, 99, 56, 55, 102, 54, 49, 56, 102, 55, 54, 54, 55, 51, 101, 50, 99, 99, 55, 55, 97, 98, 50, 49, 50, 55, 98, 55, 97, 102, 100, 101, 100, 97, 51, 51, 98] : List UInt8) = ([59, 163, 237, 253, 122, 123, 18, 178, 122, 199, 44, 62, 103, 118, 143, 97, 127, 200, 27, 195, 136, 138, 81, 50, 58, 159, 184, 170, 75, 30, 94, 74] : List UInt8) ∧ parE ([52, 97, 53, 101, 49, 101, 52, 98, 97, 97, 98, 56, 57, 102, 51, 97, 51, 50, 53, 49, 56, 97, 56, 56, 99, 51, 49, 98, 99, 56, 55, 102, 54, 49, 56, 102, 55, 54, 54, 55, 51, 101, 50, 99, 99, 55, 55, 97, 98, 50, 49, 50, 55, 98, 55, 97, 102, 100, 101, 100, 97, 51, 51, 98] : List UInt8) = 0 := ⟨by kernel_rfl, by kernel_rfl⟩
theorem first_hash : sha (sha (hdB 1 ([0, 0, 0, 0, 0, 0, 0, 0, 0, 0, 0, 0, 0, 0, 0, 0, 0, 0, 0, 0, 0, 0, 0, 0, 0, 0, 0, 0, 0, 0, 0, 0] : List UInt8) ([59, 163, 237, 253, 122, 123, 18, 178, 122, 199, 44, 62, 103, 118, 143, 97, 127, 200, 27, 195, 136, 138, 81, 50, 58, 159, 184, 170, 75, 30, 94, 74] : List UInt8) 1231006505 486604799 2083236893)) = ([111, 226, 140, 10, 182, 241, 179, 114, 193, 166, 162, 70, 174, 99, 247, 79, 147, 30, 131, 101, 225, 90, 8, 156, 104, 214, 25, 0, 0, 0, 0, 0] : List UInt8) := by
 rw [show hdB 1 ([0, 0, 0, 0, 0, 0, 0, 0, 0, 0, 0, 0, 0, 0, 0, 0, 0, 0, 0, 0, 0, 0, 0, 0, 0, 0, 0, 0, 0, 0, 0, 0] : List UInt8) ([59, 163, 237, 253, 122, 123, 18, 178, 122, 199, 44, 62, 103, 118, 143, 97, 127, 200, 27, 195, 136, 138, 81, 50, 58, 159, 184, 170, 75, 30, 94, 74] : List UInt8) 1231006505 486604799 2083236893 = ([1, 0, 0, 0, 0, 0, 0, 0, 0, 0, 0, 0, 0, 0, 0, 0, 0, 0, 0, 0, 0, 0, 0, 0, 0, 0, 0, 0, 0, 0, 0, 0, 0, 0, 0, 0, 59, 163, 237, 253, 122, 123, 18, 178, 122, 199, 44, 62, 103, 118, 143, 97, 127, 200, 27, 195, 136, 138, 81, 50, 58, 159, 184, 170, 75, 30, 94, 74, 41, 171, 95, 73, 255, 255, 0, 29, 29, 172, 43, 124] : List UInt8) by kernel_rfl, show sha ([1, 0, 0, 0, 0, 0, 0, 0, 0, 0, 0, 0, 0, 0, 0, 0, 0, 0, 0, 0, 0, 0, 0, 0, 0, 0, 0, 0, 0, 0, 0, 0, 0, 0, 0, 0, 59, 163, 237, 253, 122, 123, 18, 178, 122, 199, 44, 62, 103, 118, 143, 97, 127, 200, 27, 195, 136, 138, 81, 50, 58, 159, 184, 170, 75, 30, 94, 74, 41, 171, 95, 73, 255, 255, 0, 29, 29, 172, 43, 124] : List UInt8) = ([175, 66, 3, 30, 128, 95, 244, 147, 160, 115, 65, 226, 247, 79, 245, 129, 73, 210, 42, 185, 186, 25, 246, 19, 67, 226, 200, 108, 113, 197, 214, 109] : List UInt8) by kernel_rfl]
 kernel_rfl
theorem first_text : hexT ([111, 226, 140, 10, 182, 241, 179, 114, 193, 166, 162, 70, 174, 99, 247, 79, 147, 30, 131, 101, 225, 90, 8, 156, 104, 214, 25, 0, 0, 0, 0, 0] : List UInt8) = ([48, 48, 48, 48, 48, 48, 48, 48, 48, 48, 49, 57, 100, 54, 54, 56, 57, 99, 48, 56, 53, 97, 101, 49, 54, 53, 56, 51, 49, 101, 57, 51, 52, 102, 102, 55, 54, 51, 97, 101, 52, 54, 97, 50, 97, 54, 99, 49, 55, 50, 98, 51, 102, 49, 98, 54, 48, 97, 56, 99, 101, 50, 54, 102] : List UInt8) := by kernel_rfl
theorem run_strHead {P : Program} {t : TypeId} {k : IntKind} {s : List UInt8} {h : Nat} {r : List UInt8} (ht : isStr P t = true) (hh : h ≤ s.length) (hr : s.take h = r) (w : World) :
   (Instr.sliceAt t (.string (strOf s)) none (some (.int k (h : Int))) none).run P w = .ok (.string (strOf r)) w := by
 rw [run_sliceAt_string (h := isStr_spec ht), run_slice_string_h (ht := isStr_spec ht) (h0 := by omega) (h2 := by rw [strOf_size]; omega), ← hr]
 rw [show (strOf s).extract 0 (h : Int).toNat = strOf ((s.drop 0).take (h - 0)) from ByteArray.extract_mk s _ _]
 rfl
abbrev lz3 : List Value := [lw 0, lb 0, lb 0, lb 0, lb 0, lb 0, lb 0, lb 0, lb 0, lb 0, lb 0, lb 0, lb 0, lb 0, lb 0, lb 0, lb 0, lb 0, lb 0, lb 0, lb 0, lb 0, lb 0, lb 0, lb 0, lb 0, lb 0, lb 0, lb 0, lb 0, lb 0, lb 0, lb 0, lb 0, lb 0, lb 0, lb 0, lb 0, lb 0, lb 0, lb 0, lb 0, lb 0, lb 0, lb 0, lb 0, lb 0, lb 0, lb 0, lb 0, lb 0, lb 0, lb 0, lb 0, lb 0, lb 0, lb 0, lb 0, lb 0, lb 0, lb 0, lb 0, lb 0, lb 0, lb 0, lw 0, lw 0, lw 0]
abbrev lz4 : List Value := [lb 59, lb 163, lb 237, lb 253, lb 122, lb 123, lb 18, lb 178, lb 122, lb 199, lb 44, lb 62, lb 103, lb 118, lb 143, lb 97, lb 127, lb 200, lb 27, lb 195, lb 136, lb 138, lb 81, lb 50, lb 58, lb 159, lb 184, lb 170, lb 75, lb 30, lb 94, lb 74]
abbrev lz5 : List Value := [lw 1, lb 0, lb 0, lb 0, lb 0, lb 0, lb 0, lb 0, lb 0, lb 0, lb 0, lb 0, lb 0, lb 0, lb 0, lb 0, lb 0, lb 0, lb 0, lb 0, lb 0, lb 0, lb 0, lb 0, lb 0, lb 0, lb 0, lb 0, lb 0, lb 0, lb 0, lb 0, lb 0, lb 59, lb 163, lb 237, lb 253, lb 122, lb 123, lb 18, lb 178, lb 122, lb 199, lb 44, lb 62, lb 103, lb 118, lb 143, lb 97, lb 127, lb 200, lb 27, lb 195, lb 136, lb 138, lb 81, lb 50, lb 58, lb 159, lb 184, lb 170, lb 75, lb 30, lb 94, lb 74, lw 1231006505, lw 486604799, lw 2083236893]
theorem first_calls (w : World) : Calls Try.prog 20 #[] w fun e w' => e = .returned (.agg (hdC 1 ([0, 0, 0, 0, 0, 0, 0, 0, 0, 0, 0, 0, 0, 0, 0, 0, 0, 0, 0, 0, 0, 0, 0, 0, 0, 0, 0, 0, 0, 0, 0, 0] : List UInt8) ([59, 163, 237, 253, 122, 123, 18, 178, 122, 199, 44, 62, 103, 118, 143, 97, 127, 200, 27, 195, 136, 138, 81, 50, 58, 159, 184, 170, 75, 30, 94, 74] : List UInt8) 1231006505 486604799 2083236893).toArray) ∧ Hp w [] [] w' := by
 refine calls_G (args := []) Try.func20 rfl Try.ntmps20 rfl ?_
 intro Q0 hRet hNor hPan
 have H := Hp.start w
 refine G.sr fun K1 hK2 => ?_
 obtain ⟨p3, w4, r5, H6⟩ := H.alloc (P := Try.prog) 26 lz3 (by kernel_rfl)
 refine GL.s 1 (r5) [(0, pt p3 0)] ?_
 refine GL.q hK2 ?_
 refine G.sr fun K7 hK8 => ?_
 refine GL.call (j := 1) ((by have h_ := Parse_calls ([52, 97, 53, 101, 49, 101, 52, 98, 97, 97, 98, 56, 57, 102, 51, 97, 51, 50, 53, 49, 56, 97, 56, 56, 99, 51, 49, 98, 99, 56, 55, 102, 54, 49, 56, 102, 55, 54, 54, 55, 51, 101, 50, 99, 99, 55, 55, 97, 98, 50, 49, 50, 55, 98, 55, 97, 102, 100, 101, 100, 97, 51, 51, 98] : List UInt8) w4 (by decide); rw [first_root.1, first_root.2] at h_; exact h_)) (by kernel_rfl) rfl (fun e_ w9 hR => ?_)
 obtain ⟨rfl, H11⟩ := hR
 have H10 : Hp w [] [.blk p3 lz3 26] w9 := H6.callNil H11
 refine ⟨_, rfl, [0, 4], [(0, pt p3 0), (4, .tuple #[.agg lz4.toArray, li 0])], by kernel_rfl, ?_⟩
 refine GL.r 4 3 [(0, pt p3 0), (5, .agg lz4.toArray), (6, li 0)] ?_
 obtain ⟨p12, w13, r14, H15⟩ := H10.alloc (P := Try.prog) 24 [lb 0, lb 0, lb 0, lb 0, lb 0, lb 0, lb 0, lb 0, lb 0, lb 0, lb 0, lb 0, lb 0, lb 0, lb 0, lb 0, lb 0, lb 0, lb 0, lb 0, lb 0, lb 0, lb 0, lb 0, lb 0, lb 0, lb 0, lb 0, lb 0, lb 0, lb 0, lb 0] (by kernel_rfl)
 refine GL.s 5 (r14) [(0, pt p3 0), (1, pt p12 0), (5, .agg lz4.toArray), (6, li 0)] ?_
 obtain ⟨w16, r17, H18⟩ := H15.stA (P := Try.prog) (o := 0) (vs := lz4) (ty := 24) (m := 32) 1 rfl (by kernel_rfl) rfl (by simp) (by simp [Value.oneCell'])
 refine GL.u 6 r17 [(0, pt p3 0), (1, pt p12 0), (6, li 0)] ?_
 refine GL.r 7 1 [(0, pt p3 0), (1, pt p12 0)] ?_
 refine GL.q hK8 ?_
 refine G.sr fun K19 hK20 => ?_
 refine GL.s 1 (H18.ldA (o := 0) (ty := 24) (m := 32) (sub := lz4) 1 rfl (by kernel_rfl) rfl rfl) [(0, pt p3 0), (7, .agg lz4.toArray)] ?_
 refine GL.r 2 1 [(0, pt p3 0), (8, .agg lz5.toArray)] ?_
 obtain ⟨w21, r22, H23⟩ := H18.stA (P := Try.prog) (o := 0) (vs := lz5) (ty := 26) (m := 68) 0 rfl (by kernel_rfl) rfl (by simp) (by simp [Value.oneCell'])
 refine GL.u 3 r22 [(0, pt p3 0)] ?_
 refine GL.q hK20 ?_
 refine G.ret fun F_ hF_ hM_ => hRet _ _ (bodyPost_1 rfl (RV.cell rfl (H23.ldA (o := 0) (ty := 26) (m := 68) (sub := lz5) 0 rfl (by kernel_rfl) rfl rfl)) ?_ F_ hF_ hM_)
 exact ⟨rfl, H23.sub (List.nil_sublist _)⟩
theorem first_num : hnum ([111, 226, 140, 10, 182, 241, 179, 114, 193, 166, 162, 70, 174, 99, 247, 79, 147, 30, 131, 101, 225, 90, 8, 156, 104, 214, 25, 0, 0, 0, 0, 0] : List UInt8) = 10628944869218562084050143519444549580389464591454674019345556079 := by kernel_rfl
theorem Lit0_calls (w : World) : Calls Try.prog 51 #[.int .u64 65535] w fun e w' => e = .returned (.agg #[.int .u64 65535, .int .u64 0, .int .u64 0, .int .u64 0]) ∧ Hp w [] [] w' := by
 refine calls_G (args := [lu 65535]) Try.func51 rfl Try.ntmps51 rfl ?_
 intro Q0 hRet hNor hPan
 have H := Hp.start w
 refine G.sr fun K1 hK2 => ?_
 obtain ⟨p3, w4, r5, H6⟩ := H.alloc (P := Try.prog) 33 [lu 0, lu 0, lu 0, lu 0] (by kernel_rfl)
 refine GL.s 1 (r5) [(0, lu 65535), (2, pt p3 0)] ?_
 refine GL.q hK2 ?_
 refine G.sr fun K7 hK8 => ?_
 refine GL.r 2 2 [(2, pt p3 0), (4, .agg #[lu 65535, lu 0, lu 0, lu 0])] ?_
 obtain ⟨w9, r10, H11⟩ := H6.stA (P := Try.prog) (o := 0) (vs := [lu 65535, lu 0, lu 0, lu 0]) (ty := 33) (m := 4) 0 rfl (by kernel_rfl) rfl (by simp) (by simp [Value.oneCell'])
 refine GL.u 3 r10 [(2, pt p3 0)] ?_
 refine GL.q hK8 ?_
 refine G.ret fun F_ hF_ hM_ => hRet _ _ (bodyPost_1 rfl (RV.cell rfl (H11.ldA (o := 0) (ty := 33) (m := 4) (sub := [lu 65535, lu 0, lu 0, lu 0]) 0 rfl (by kernel_rfl) rfl rfl)) ?_ F_ hF_ hM_)
 exact ⟨rfl, H11.sub (List.nil_sublist _)⟩
theorem Lit1_calls (w : World) : Calls Try.prog 65 #[.int .u64 65535] w fun e w' => e = .returned (.int .i64 16) ∧ Hp w [] [] w' := by
 refine calls_G (args := [lu 65535]) Try.func65 rfl Try.ntmps65 rfl ?_
 intro Q0 hRet hNor hPan
 have H := Hp.start w
 refine G.sr fun K1 hK2 => ?_
 refine GL.r 1 1 [(0, lu 65535), (2, li 0)] ?_
 refine GL.q hK2 ?_
 refine G.seqK fun K3 hK4 => ?_
 refine G.sr fun K5 hK6 => ?_
 refine GL.r 2 2 [(0, lu 65535), (2, li 0), (4, .bool false)] ?_
 refine GL.q hK6 ?_
 refine G.no rfl ?_
 refine G.skipK hK4 (fun _ _ h => h) ?_
 refine G.seqK fun K7 hK8 => ?_
 refine G.sr fun K9 hK10 => ?_
 refine GL.r 2 2 [(0, lu 65535), (2, li 0), (8, .bool false)] ?_
 refine GL.q hK10 ?_
 refine G.no rfl ?_
 refine G.skipK hK8 (fun _ _ h => h) ?_
 refine G.seqK fun K11 hK12 => ?_
 refine G.sr fun K13 hK14 => ?_
 refine GL.r 2 2 [(0, lu 65535), (2, li 0), (14, .bool true)] ?_
 refine GL.q hK14 ?_
 refine G.yes rfl ?_
 refine G.sr fun K15 hK16 => ?_
 refine GL.r 3 3 [(0, lu 255), (2, li 0)] ?_
 refine GL.q hK16 ?_
 refine G.region ?_
 refine GL.r 3 3 [(0, lu 255), (2, li 8)] ?_
 refine GL.q hK12 ?_
 refine G.sr fun K17 hK18 => ?_
 refine GL.r 3 3 [(19, li 8), (21, lb 255)] ?_
 refine GL.s 4 (run_strIdx (P := Try.prog) (k := .u8) (t := 9) (s := tab8) (i := 255) (b := 8) (by kernel_rfl) (by kernel_rfl) _) [(19, li 8), (22, lb 8)] ?_
 refine GL.r 7 3 [(2, li 16)] ?_
 refine GL.q hK18 ?_
 refine G.ret fun F_ hF_ hM_ => hRet _ _ (bodyPost_1 rfl (RV.tmp rfl) ?_ F_ hF_ hM_)
 exact ⟨rfl, H.sub (List.nil_sublist _)⟩
theorem Lit2_calls (w : World) : Calls Try.prog 52 #[.agg #[.int .u64 65535, .int .u64 0, .int .u64 0, .int .u64 0]] w fun e w' => e = .returned (.int .i64 16) ∧ Hp w [] [] w' := by
 refine calls_G (args := [.agg #[lu 65535, lu 0, lu 0, lu 0]]) Try.func52 rfl Try.ntmps52 rfl ?_
 intro Q0 hRet hNor hPan
 have H := Hp.start w
 refine G.sr fun K1 hK2 => ?_
 obtain ⟨p3, w4, r5, H6⟩ := H.box (P := Try.prog) 33 [lu 65535, lu 0, lu 0, lu 0] (.agg #[lu 65535, lu 0, lu 0, lu 0]) rfl
 refine GL.s 1 (r5) [(1, pt p3 0)] ?_
 refine GL.r 2 1 [(1, pt p3 0)] ?_
 refine GL.q hK2 ?_
 refine G.seqK fun K7 hK8 => ?_
 refine G.sr fun K9 hK10 => ?_
 refine GL.r 1 1 [(1, pt p3 0), (3, li 3)] ?_
 refine GL.q hK10 ?_
 refine G.block ?_
 refine G.unroll 70 ?_
 refine G.seqK fun K11 hK12 => ?_
 refine G.sr fun K13 hK14 => ?_
 refine GL.r 2 2 [(1, pt p3 0), (3, li 3), (5, .bool true)] ?_
 refine GL.q hK14 ?_
 refine G.yes rfl ?_
 refine G.skipK hK12 (fun _ _ h => h) ?_
 refine G.seqK fun K15 hK16 => ?_
 refine G.block ?_
 refine G.sr fun K17 hK18 => ?_
 refine GL.r 2 2 [(1, pt p3 0), (3, li 3), (9, pt p3 3)] ?_
 refine GL.s 3 (H6.ld (o := 3) (ty := 31) (v := .int .u64 0) 0 rfl (by kernel_rfl) rfl) [(1, pt p3 0), (3, li 3), (10, lu 0)] ?_
 refine GL.r 4 1 [(1, pt p3 0), (3, li 3), (11, .bool false)] ?_
 refine GL.q hK18 ?_
 refine G.no rfl ?_
 refine G.skipK hK16 (fun _ _ h => h) ?_
 refine G.region ?_
 refine GL.r 3 3 [(1, pt p3 0), (3, li 2)] ?_
 refine GL.round rfl ?_
 refine G.seqK fun K19 hK20 => ?_
 refine G.sr fun K21 hK22 => ?_
 refine GL.r 2 2 [(1, pt p3 0), (3, li 2), (5, .bool true)] ?_
 refine GL.q hK22 ?_
 refine G.yes rfl ?_
 refine G.skipK hK20 (fun _ _ h => h) ?_
 refine G.seqK fun K23 hK24 => ?_
 refine G.block ?_
 refine G.sr fun K25 hK26 => ?_
 refine GL.r 2 2 [(1, pt p3 0), (3, li 2), (9, pt p3 2)] ?_
 refine GL.s 3 (H6.ld (o := 2) (ty := 31) (v := .int .u64 0) 0 rfl (by kernel_rfl) rfl) [(1, pt p3 0), (3, li 2), (10, lu 0)] ?_
 refine GL.r 4 1 [(1, pt p3 0), (3, li 2), (11, .bool false)] ?_
 refine GL.q hK26 ?_
 refine G.no rfl ?_
 refine G.skipK hK24 (fun _ _ h => h) ?_
 refine G.region ?_
 refine GL.r 3 3 [(1, pt p3 0), (3, li 1)] ?_
 refine GL.round rfl ?_
 refine G.seqK fun K27 hK28 => ?_
 refine G.sr fun K29 hK30 => ?_
 refine GL.r 2 2 [(1, pt p3 0), (3, li 1), (5, .bool true)] ?_
 refine GL.q hK30 ?_
 refine G.yes rfl ?_
 refine G.skipK hK28 (fun _ _ h => h) ?_
 refine G.seqK fun K31 hK32 => ?_
 refine G.block ?_
 refine G.sr fun K33 hK34 => ?_
 refine GL.r 2 2 [(1, pt p3 0), (3, li 1), (9, pt p3 1)] ?_
 refine GL.s 3 (H6.ld (o := 1) (ty := 31) (v := .int .u64 0) 0 rfl (by kernel_rfl) rfl) [(1, pt p3 0), (3, li 1), (10, lu 0)] ?_
 refine GL.r 4 1 [(1, pt p3 0), (3, li 1), (11, .bool false)] ?_
 refine GL.q hK34 ?_
 refine G.no rfl ?_
 refine G.skipK hK32 (fun _ _ h => h) ?_
 refine G.region ?_
 refine GL.r 3 3 [(1, pt p3 0), (3, li 0)] ?_
 refine GL.round rfl ?_
 refine G.seqK fun K35 hK36 => ?_
 refine G.sr fun K37 hK38 => ?_
 refine GL.r 2 2 [(1, pt p3 0), (3, li 0), (5, .bool true)] ?_
 refine GL.q hK38 ?_
 refine G.yes rfl ?_
 refine G.skipK hK36 (fun _ _ h => h) ?_
 refine G.seqK fun K39 hK40 => ?_
 refine G.block ?_
 refine G.sr fun K41 hK42 => ?_
 refine GL.r 2 2 [(1, pt p3 0), (3, li 0), (9, pt p3 0)] ?_
 refine GL.s 3 (H6.ld (o := 0) (ty := 31) (v := .int .u64 65535) 0 rfl (by kernel_rfl) rfl) [(1, pt p3 0), (3, li 0), (10, lu 65535)] ?_
 refine GL.r 4 1 [(1, pt p3 0), (3, li 0), (11, .bool true)] ?_
 refine GL.q hK42 ?_
 refine G.yes rfl ?_
 refine G.sr fun K43 hK44 => ?_
 refine GL.r 4 4 [(13, li 0), (15, pt p3 0)] ?_
 refine GL.s 5 (H6.ld (o := 0) (ty := 31) (v := .int .u64 65535) 0 rfl (by kernel_rfl) rfl) [(13, li 0), (16, lu 65535)] ?_
 refine GL.call (j := 6) (Lit1_calls w4) (by kernel_rfl) rfl (fun e_ w45 hR => ?_)
 obtain ⟨rfl, H47⟩ := hR
 have H46 : Hp w [] [.blk p3 [lu 65535, lu 0, lu 0, lu 0] 33] w45 := H6.callNil H47
 refine ⟨_, rfl, [13, 17], [(13, li 0), (17, li 16)], by kernel_rfl, ?_⟩
 refine GL.r 8 2 [(2, li 16)] ?_
 refine GL.q hK44 ?_
 refine G.ret fun F_ hF_ hM_ => hRet _ _ (bodyPost_1 rfl (RV.tmp rfl) ?_ F_ hF_ hM_)
 exact ⟨rfl, H46.sub (List.nil_sublist _)⟩
theorem Lit3_calls (w : World) : Calls Try.prog 53 #[.agg #[.int .u64 65535, .int .u64 0, .int .u64 0, .int .u64 0], .int .i64 208] w fun e w' => e = .returned (.agg #[.int .u64 0, .int .u64 0, .int .u64 0, .int .u64 4294901760]) ∧ Hp w [] [] w' := by
 refine calls_G (args := [.agg #[lu 65535, lu 0, lu 0, lu 0], li 208]) Try.func53 rfl Try.ntmps53 rfl ?_
 intro Q0 hRet hNor hPan
 have H := Hp.start w
 refine G.sr fun K1 hK2 => ?_
 obtain ⟨p3, w4, r5, H6⟩ := H.box (P := Try.prog) 33 [lu 65535, lu 0, lu 0, lu 0] (.agg #[lu 65535, lu 0, lu 0, lu 0]) rfl
 refine GL.s 1 (r5) [(1, li 208), (2, pt p3 0)] ?_
 obtain ⟨p7, w8, r9, H10⟩ := H6.alloc (P := Try.prog) 33 [lu 0, lu 0, lu 0, lu 0] (by kernel_rfl)
 refine GL.s 2 (r9) [(1, li 208), (2, pt p3 0), (4, pt p7 0)] ?_
 refine GL.q hK2 ?_
 refine G.seqK fun K11 hK12 => ?_
 refine G.block ?_
 refine G.sr fun K13 hK14 => ?_
 refine GL.r 7 7 [(1, li 208), (2, pt p3 0), (4, pt p7 0), (9, .bool false)] ?_
 refine GL.q hK14 ?_
 refine G.no rfl ?_
 refine G.sr fun K15 hK16 => ?_
 refine GL.r 3 3 [(1, li 208), (2, pt p3 0), (4, pt p7 0), (17, .bool false)] ?_
 refine GL.q hK16 ?_
 refine G.no rfl ?_
 refine G.skipK hK12 (fun _ _ h => h) ?_
 refine G.sr fun K17 hK18 => ?_
 obtain ⟨p19, w20, r21, H22⟩ := H10.alloc (P := Try.prog) 33 [lu 0, lu 0, lu 0, lu 0] (by kernel_rfl)
 refine GL.s 1 (r21) [(1, li 208), (2, pt p3 0), (4, pt p7 0), (5, pt p19 0)] ?_
 refine GL.q hK18 ?_
 refine G.sr fun K23 hK24 => ?_
 refine GL.r 6 6 [(2, pt p3 0), (4, pt p7 0), (5, pt p19 0), (6, li 3), (7, li 16)] ?_
 refine GL.q hK24 ?_
 refine G.seqK fun K25 hK26 => ?_
 refine G.sr fun K27 hK28 => ?_
 refine GL.r 2 2 [(2, pt p3 0), (4, pt p7 0), (5, pt p19 0), (6, li 3), (7, li 16), (8, li 3)] ?_
 refine GL.q hK28 ?_
 refine G.block ?_
 refine G.unroll 70 ?_
 refine G.seqK fun K29 hK30 => ?_
 refine G.sr fun K31 hK32 => ?_
 refine GL.r 2 2 [(2, pt p3 0), (4, pt p7 0), (5, pt p19 0), (6, li 3), (7, li 16), (8, li 3), (30, .bool true)] ?_
 refine GL.q hK32 ?_
 refine G.yes rfl ?_
 refine G.skipK hK30 (fun _ _ h => h) ?_
 refine G.seqK fun K33 hK34 => ?_
 refine G.block ?_
 refine G.sr fun K35 hK36 => ?_
 refine GL.r 5 5 [(2, pt p3 0), (4, pt p7 0), (5, pt p19 0), (6, li 3), (7, li 16), (8, li 3), (33, li 3), (37, pt p3 0)] ?_
 refine GL.s 6 (H22.ld (o := 0) (ty := 31) (v := .int .u64 65535) 0 rfl (by kernel_rfl) rfl) [(2, pt p3 0), (4, pt p7 0), (5, pt p19 0), (6, li 3), (7, li 16), (8, li 3), (33, li 3), (38, lu 65535)] ?_
 refine GL.r 9 3 [(2, pt p3 0), (4, pt p7 0), (5, pt p19 0), (6, li 3), (7, li 16), (8, li 3), (40, lu 4294901760), (41, pt p19 3)] ?_
 obtain ⟨w37, r38, H39⟩ := H22.st (P := Try.prog) (o := 3) (ty := 31) (v := .int .u64 4294901760) 2 rfl (by kernel_rfl) (by simp) rfl
 refine GL.u 10 r38 [(2, pt p3 0), (4, pt p7 0), (5, pt p19 0), (6, li 3), (7, li 16), (8, li 3)] ?_
 refine GL.q hK36 ?_
 refine G.sr fun K40 hK41 => ?_
 refine GL.r 7 7 [(2, pt p3 0), (4, pt p7 0), (5, pt p19 0), (6, li 3), (7, li 16), (8, li 3), (48, .bool false)] ?_
 refine GL.q hK41 ?_
 refine G.no rfl ?_
 refine G.skipK hK34 (fun _ _ h => h) ?_
 refine G.region ?_
 refine GL.r 3 3 [(2, pt p3 0), (4, pt p7 0), (5, pt p19 0), (6, li 3), (7, li 16), (8, li 4)] ?_
 refine GL.round rfl ?_
 refine G.seqK fun K42 hK43 => ?_
 refine G.sr fun K44 hK45 => ?_
 refine GL.r 2 2 [(2, pt p3 0), (4, pt p7 0), (5, pt p19 0), (6, li 3), (7, li 16), (8, li 4), (30, .bool false)] ?_
 refine GL.q hK45 ?_
 refine G.no rfl ?_
 refine G.exitK hK26 (fun _ _ h => h) ?_
 refine G.sr fun K46 hK47 => ?_
 refine GL.s 1 (H39.ldA (o := 0) (ty := 33) (m := 4) (sub := [lu 0, lu 0, lu 0, lu 4294901760]) 2 rfl (by kernel_rfl) rfl rfl) [(4, pt p7 0), (63, .agg #[lu 0, lu 0, lu 0, lu 4294901760])] ?_
 obtain ⟨w48, r49, H50⟩ := H39.stA (P := Try.prog) (o := 0) (vs := [lu 0, lu 0, lu 0, lu 4294901760]) (ty := 33) (m := 4) 1 rfl (by kernel_rfl) rfl (by simp) (by simp [Value.oneCell'])
 refine GL.u 2 r49 [(4, pt p7 0)] ?_
 refine GL.q hK47 ?_
 refine G.ret fun F_ hF_ hM_ => hRet _ _ (bodyPost_1 rfl (RV.cell rfl (H50.ldA (o := 0) (ty := 33) (m := 4) (sub := [lu 0, lu 0, lu 0, lu 4294901760]) 1 rfl (by kernel_rfl) rfl rfl)) ?_ F_ hF_ hM_)
 exact ⟨rfl, H50.sub (List.nil_sublist _)⟩
theorem Lit4_calls (w : World) : Calls Try.prog 33 #[.int .u32 486604799] w fun e w' => e = .returned (.tuple #[.agg #[.int .u64 0, .int .u64 0, .int .u64 0, .int .u64 4294901760], .int .i64 0]) ∧ Hp w [] [] w' := by
 refine calls_G (args := [lw 486604799]) Try.func33 rfl Try.ntmps33 rfl ?_
 intro Q0 hRet hNor hPan
 have H := Hp.start w
 refine G.sr fun K1 hK2 => ?_
 obtain ⟨p3, w4, r5, H6⟩ := H.alloc (P := Try.prog) 33 [lu 0, lu 0, lu 0, lu 0] (by kernel_rfl)
 refine GL.s 1 (r5) [(0, lw 486604799), (2, pt p3 0)] ?_
 refine GL.r 2 1 [(0, lw 486604799), (2, pt p3 0)] ?_
 refine GL.q hK2 ?_
 refine G.sr fun K7 hK8 => ?_
 refine GL.r 6 6 [(0, lw 486604799), (2, pt p3 0), (9, li 29), (12, lu 65535)] ?_
 refine GL.call (j := 7) (Lit0_calls w4) (by kernel_rfl) rfl (fun e_ w9 hR => ?_)
 obtain ⟨rfl, H11⟩ := hR
 have H10 : Hp w [] [.blk p3 [lu 0, lu 0, lu 0, lu 0] 33] w9 := H6.callNil H11
 refine ⟨_, rfl, [0, 2, 9, 13], [(0, lw 486604799), (2, pt p3 0), (9, li 29), (13, .agg #[lu 65535, lu 0, lu 0, lu 0])], by kernel_rfl, ?_⟩
 obtain ⟨p12, w13, r14, H15⟩ := H10.alloc (P := Try.prog) 33 [lu 0, lu 0, lu 0, lu 0] (by kernel_rfl)
 refine GL.s 8 (r14) [(0, lw 486604799), (2, pt p3 0), (5, pt p12 0), (9, li 29), (13, .agg #[lu 65535, lu 0, lu 0, lu 0])] ?_
 refine GL.r 9 1 [(0, lw 486604799), (2, pt p3 0), (4, li 29), (5, pt p12 0), (13, .agg #[lu 65535, lu 0, lu 0, lu 0])] ?_
 obtain ⟨w16, r17, H18⟩ := H15.stA (P := Try.prog) (o := 0) (vs := [lu 65535, lu 0, lu 0, lu 0]) (ty := 33) (m := 4) 1 rfl (by kernel_rfl) rfl (by simp) (by simp [Value.oneCell'])
 refine GL.u 10 r17 [(0, lw 486604799), (2, pt p3 0), (4, li 29), (5, pt p12 0)] ?_
 refine GL.q hK8 ?_
 refine G.seqK fun K19 hK20 => ?_
 refine G.sr fun K21 hK22 => ?_
 refine GL.r 8 8 [(2, pt p3 0), (4, li 29), (5, pt p12 0), (21, .bool false)] ?_
 refine GL.q hK22 ?_
 refine G.no rfl ?_
 refine G.skipK hK20 (fun _ _ h => h) ?_
 refine G.seqK fun K23 hK24 => ?_
 refine G.sr fun K25 hK26 => ?_
 refine GL.r 3 3 [(2, pt p3 0), (4, li 29), (5, pt p12 0), (25, .bool true)] ?_
 refine GL.s 4 (H18.ldA (o := 0) (ty := 33) (m := 4) (sub := [lu 65535, lu 0, lu 0, lu 0]) 1 rfl (by kernel_rfl) rfl rfl) [(2, pt p3 0), (4, li 29), (5, pt p12 0), (25, .bool true), (26, .agg #[lu 65535, lu 0, lu 0, lu 0])] ?_
 refine GL.call (j := 5) (Lit2_calls w16) (by kernel_rfl) rfl (fun e_ w27 hR => ?_)
 obtain ⟨rfl, H29⟩ := hR
 have H28 : Hp w [] [.blk p3 [lu 0, lu 0, lu 0, lu 0] 33, .blk p12 [lu 65535, lu 0, lu 0, lu 0] 33] w27 := H18.callNil H29
 refine ⟨_, rfl, [2, 4, 5, 25, 27], [(2, pt p3 0), (4, li 29), (5, pt p12 0), (25, .bool true), (27, li 16)], by kernel_rfl, ?_⟩
 refine GL.r 11 6 [(2, pt p3 0), (4, li 29), (5, pt p12 0), (33, .bool false)] ?_
 refine GL.q hK26 ?_
 refine G.no rfl ?_
 refine G.skipK hK24 (fun _ _ h => h) ?_
 refine G.sr fun K30 hK31 => ?_
 refine GL.s 1 (H28.ldA (o := 0) (ty := 33) (m := 4) (sub := [lu 65535, lu 0, lu 0, lu 0]) 1 rfl (by kernel_rfl) rfl rfl) [(2, pt p3 0), (4, li 29), (35, .agg #[lu 65535, lu 0, lu 0, lu 0])] ?_
 refine GL.r 4 3 [(2, pt p3 0), (35, .agg #[lu 65535, lu 0, lu 0, lu 0]), (38, li 208)] ?_
 refine GL.call (j := 5) (Lit3_calls w27) (by kernel_rfl) rfl (fun e_ w32 hR => ?_)
 obtain ⟨rfl, H34⟩ := hR
 have H33 : Hp w [] [.blk p3 [lu 0, lu 0, lu 0, lu 0] 33, .blk p12 [lu 65535, lu 0, lu 0, lu 0] 33] w32 := H28.callNil H34
 refine ⟨_, rfl, [2, 39], [(2, pt p3 0), (39, .agg #[lu 0, lu 0, lu 0, lu 4294901760])], by kernel_rfl, ?_⟩
 obtain ⟨p35, w36, r37, H38⟩ := H33.alloc (P := Try.prog) 33 [lu 0, lu 0, lu 0, lu 0] (by kernel_rfl)
 refine GL.s 6 (r37) [(2, pt p3 0), (6, pt p35 0), (39, .agg #[lu 0, lu 0, lu 0, lu 4294901760])] ?_
 obtain ⟨w39, r40, H41⟩ := H38.stA (P := Try.prog) (o := 0) (vs := [lu 0, lu 0, lu 0, lu 4294901760]) (ty := 33) (m := 4) 2 rfl (by kernel_rfl) rfl (by simp) (by simp [Value.oneCell'])
 refine GL.u 7 r40 [(2, pt p3 0), (6, pt p35 0)] ?_
 refine GL.q hK31 ?_
 refine G.seqK fun K42 hK43 => ?_
 refine G.sr fun K44 hK45 => ?_
 refine GL.s 1 (H41.ldA (o := 0) (ty := 33) (m := 4) (sub := [lu 0, lu 0, lu 0, lu 4294901760]) 2 rfl (by kernel_rfl) rfl rfl) [(2, pt p3 0), (6, pt p35 0), (40, .agg #[lu 0, lu 0, lu 0, lu 4294901760])] ?_
 refine GL.r 2 1 [(2, pt p3 0), (6, pt p35 0), (40, .agg #[lu 0, lu 0, lu 0, lu 4294901760]), (41, .agg #[lu 0, lu 0, lu 0, lu 0])] ?_
 refine GL.s 3 (run_arr_eql (P := Try.prog) (t := 33) (n := 4) (k := .u64) (x := (.tmp 40)) (y := (.tmp 41)) (by kernel_rfl) [0, 0, 0, 4294901760] [0, 0, 0, 0] rfl rfl _) [(2, pt p3 0), (6, pt p35 0), (42, .bool false)] ?_
 refine GL.q hK45 ?_
 refine G.no rfl ?_
 refine G.skipK hK43 (fun _ _ h => h) ?_
 refine G.sr fun K46 hK47 => ?_
 refine GL.s 1 (H41.ldA (o := 0) (ty := 33) (m := 4) (sub := [lu 0, lu 0, lu 0, lu 4294901760]) 2 rfl (by kernel_rfl) rfl rfl) [(2, pt p3 0), (44, .agg #[lu 0, lu 0, lu 0, lu 4294901760])] ?_
 obtain ⟨w48, r49, H50⟩ := H41.stA (P := Try.prog) (o := 0) (vs := [lu 0, lu 0, lu 0, lu 4294901760]) (ty := 33) (m := 4) 0 rfl (by kernel_rfl) rfl (by simp) (by simp [Value.oneCell'])
 refine GL.u 2 r49 [(2, pt p3 0)] ?_
 refine GL.r 3 1 [(2, pt p3 0), (3, li 0)] ?_
 refine GL.q hK47 ?_
 refine G.ret fun F_ hF_ hM_ => hRet _ _ (bodyPost_2 rfl (RV.cell rfl (H50.ldA (o := 0) (ty := 33) (m := 4) (sub := [lu 0, lu 0, lu 0, lu 4294901760]) 0 rfl (by kernel_rfl) rfl rfl)) (RV.tmp rfl) ?_ F_ hF_ hM_)
 exact ⟨rfl, H50.sub (List.nil_sublist _)⟩
theorem Lit5_calls (w : World) : Calls Try.prog 34 #[.agg #[.int .u64 0, .int .u64 0, .int .u64 0, .int .u64 4294901760], .agg #[.int .u64 18446744073709551615, .int .u64 18446744073709551615, .int .u64 18446744073709551615, .int .u64 18446744073709551615]] w fun e w' => e = .returned (.int .i64 (-1)) ∧ Hp w [] [] w' := by
 refine calls_G (args := [.agg #[lu 0, lu 0, lu 0, lu 4294901760], .agg #[lu 18446744073709551615, lu 18446744073709551615, lu 18446744073709551615, lu 18446744073709551615]]) Try.func34 rfl Try.ntmps34 rfl ?_
 intro Q0 hRet hNor hPan
 have H := Hp.start w
 refine G.sr fun K1 hK2 => ?_
 obtain ⟨p3, w4, r5, H6⟩ := H.box (P := Try.prog) 33 [lu 0, lu 0, lu 0, lu 4294901760] (.agg #[lu 0, lu 0, lu 0, lu 4294901760]) rfl
 refine GL.s 1 (r5) [(1, .agg #[lu 18446744073709551615, lu 18446744073709551615, lu 18446744073709551615, lu 18446744073709551615]), (2, pt p3 0)] ?_
 obtain ⟨p7, w8, r9, H10⟩ := H6.box (P := Try.prog) 33 [lu 18446744073709551615, lu 18446744073709551615, lu 18446744073709551615, lu 18446744073709551615] (.agg #[lu 18446744073709551615, lu 18446744073709551615, lu 18446744073709551615, lu 18446744073709551615]) rfl
 refine GL.s 2 (r9) [(2, pt p3 0), (3, pt p7 0)] ?_
 refine GL.r 3 1 [(2, pt p3 0), (3, pt p7 0)] ?_
 refine GL.q hK2 ?_
 refine G.seqK fun K11 hK12 => ?_
 refine G.sr fun K13 hK14 => ?_
 refine GL.r 1 1 [(2, pt p3 0), (3, pt p7 0), (5, li 3)] ?_
 refine GL.q hK14 ?_
 refine G.block ?_
 refine G.unroll 70 ?_
 refine G.seqK fun K15 hK16 => ?_
 refine G.sr fun K17 hK18 => ?_
 refine GL.r 2 2 [(2, pt p3 0), (3, pt p7 0), (5, li 3), (7, .bool true)] ?_
 refine GL.q hK18 ?_
 refine G.yes rfl ?_
 refine G.skipK hK16 (fun _ _ h => h) ?_
 refine G.seqK fun K19 hK20 => ?_
 refine G.block ?_
 refine G.block ?_
 refine G.seqK fun K21 hK22 => ?_
 refine G.draw H10 (by kernel_rfl) (by kernel_rfl) ?_
 refine GQ.r 2 2 [(2, pt p3 0), (3, pt p7 0), (5, li 3), (12, pt p3 3)] ?_
 refine GQ.s 3 (fun w_ H_ => H_.ld (o := 3) (ty := 31) (v := .int .u64 4294901760) 0 rfl (by kernel_rfl) rfl) [(2, pt p3 0), (3, pt p7 0), (5, li 3), (13, lu 4294901760)] ?_
 refine GQ.r 5 2 [(2, pt p3 0), (3, pt p7 0), (5, li 3), (13, lu 4294901760), (15, pt p7 3)] ?_
 refine GQ.s 6 (fun w_ H_ => H_.ld (o := 3) (ty := 31) (v := .int .u64 18446744073709551615) 1 rfl (by kernel_rfl) rfl) [(2, pt p3 0), (3, pt p7 0), (5, li 3), (13, lu 4294901760), (16, lu 18446744073709551615)] ?_
 refine GQ.r 8 2 [(2, pt p3 0), (3, pt p7 0), (5, li 3), (10, .bool true)] ?_
 refine GQ.k rfl hK22 (fun _ _ h => h) (fun w23 H24 => ?_)
 refine G.yes rfl ?_
 refine G.sr fun K25 hK26 => ?_
 refine GL.r 1 1 [(4, li (-1))] ?_
 refine GL.q hK26 ?_
 refine G.ret fun F_ hF_ hM_ => hRet _ _ (bodyPost_1 rfl (RV.tmp rfl) ?_ F_ hF_ hM_)
 exact ⟨rfl, H24.sub (List.nil_sublist _)⟩
theorem Lit6_calls (w : World) : Calls Try.prog 34 #[.agg #[.int .u64 8265215505318339183, .int .u64 5762183848404362945, .int .u64 11243336393847676563, .int .u64 1693288], .agg #[.int .u64 0, .int .u64 0, .int .u64 0, .int .u64 4294901760]] w fun e w' => e = .returned (.int .i64 (-1)) ∧ Hp w [] [] w' := by
 refine calls_G (args := [.agg #[lu 8265215505318339183, lu 5762183848404362945, lu 11243336393847676563, lu 1693288], .agg #[lu 0, lu 0, lu 0, lu 4294901760]]) Try.func34 rfl Try.ntmps34 rfl ?_
 intro Q0 hRet hNor hPan
 have H := Hp.start w
 refine G.sr fun K1 hK2 => ?_
 obtain ⟨p3, w4, r5, H6⟩ := H.box (P := Try.prog) 33 [lu 8265215505318339183, lu 5762183848404362945, lu 11243336393847676563, lu 1693288] (.agg #[lu 8265215505318339183, lu 5762183848404362945, lu 11243336393847676563, lu 1693288]) rfl
 refine GL.s 1 (r5) [(1, .agg #[lu 0, lu 0, lu 0, lu 4294901760]), (2, pt p3 0)] ?_
 obtain ⟨p7, w8, r9, H10⟩ := H6.box (P := Try.prog) 33 [lu 0, lu 0, lu 0, lu 4294901760] (.agg #[lu 0, lu 0, lu 0, lu 4294901760]) rfl
 refine GL.s 2 (r9) [(2, pt p3 0), (3, pt p7 0)] ?_
 refine GL.r 3 1 [(2, pt p3 0), (3, pt p7 0)] ?_
 refine GL.q hK2 ?_
 refine G.seqK fun K11 hK12 => ?_
 refine G.sr fun K13 hK14 => ?_
 refine GL.r 1 1 [(2, pt p3 0), (3, pt p7 0), (5, li 3)] ?_
 refine GL.q hK14 ?_
 refine G.block ?_
 refine G.unroll 70 ?_
 refine G.seqK fun K15 hK16 => ?_
 refine G.sr fun K17 hK18 => ?_
 refine GL.r 2 2 [(2, pt p3 0), (3, pt p7 0), (5, li 3), (7, .bool true)] ?_
 refine GL.q hK18 ?_
 refine G.yes rfl ?_
 refine G.skipK hK16 (fun _ _ h => h) ?_
 refine G.seqK fun K19 hK20 => ?_
 refine G.block ?_
 refine G.block ?_
 refine G.seqK fun K21 hK22 => ?_
 refine G.draw H10 (by kernel_rfl) (by kernel_rfl) ?_
 refine GQ.r 2 2 [(2, pt p3 0), (3, pt p7 0), (5, li 3), (12, pt p3 3)] ?_
 refine GQ.s 3 (fun w_ H_ => H_.ld (o := 3) (ty := 31) (v := .int .u64 1693288) 0 rfl (by kernel_rfl) rfl) [(2, pt p3 0), (3, pt p7 0), (5, li 3), (13, lu 1693288)] ?_
 refine GQ.r 5 2 [(2, pt p3 0), (3, pt p7 0), (5, li 3), (13, lu 1693288), (15, pt p7 3)] ?_
 refine GQ.s 6 (fun w_ H_ => H_.ld (o := 3) (ty := 31) (v := .int .u64 4294901760) 1 rfl (by kernel_rfl) rfl) [(2, pt p3 0), (3, pt p7 0), (5, li 3), (13, lu 1693288), (16, lu 4294901760)] ?_
 refine GQ.r 8 2 [(2, pt p3 0), (3, pt p7 0), (5, li 3), (10, .bool true)] ?_
 refine GQ.k rfl hK22 (fun _ _ h => h) (fun w23 H24 => ?_)
 refine G.yes rfl ?_
 refine G.sr fun K25 hK26 => ?_
 refine GL.r 1 1 [(4, li (-1))] ?_
 refine GL.q hK26 ?_
 refine G.ret fun F_ hF_ hM_ => hRet _ _ (bodyPost_1 rfl (RV.tmp rfl) ?_ F_ hF_ hM_)
 exact ⟨rfl, H24.sub (List.nil_sublist _)⟩
abbrev lz6 : List Value := [lb 111, lb 226, lb 140, lb 10, lb 182, lb 241, lb 179, lb 114, lb 193, lb 166, lb 162, lb 70, lb 174, lb 99, lb 247, lb 79, lb 147, lb 30, lb 131, lb 101, lb 225, lb 90, lb 8, lb 156, lb 104, lb 214, lb 25, lb 0, lb 0, lb 0, lb 0, lb 0]
theorem Lit7_calls (w : World) : Calls Try.prog 35 #[.agg #[.int .u8 111, .int .u8 226, .int .u8 140, .int .u8 10, .int .u8 182, .int .u8 241, .int .u8 179, .int .u8 114, .int .u8 193, .int .u8 166, .int .u8 162, .int .u8 70, .int .u8 174, .int .u8 99, .int .u8 247, .int .u8 79, .int .u8 147, .int .u8 30, .int .u8 131, .int .u8 101, .int .u8 225, .int .u8 90, .int .u8 8, .int .u8 156, .int .u8 104, .int .u8 214, .int .u8 25, .int .u8 0, .int .u8 0, .int .u8 0, .int .u8 0, .int .u8 0], .agg #[.int .u64 0, .int .u64 0, .int .u64 0, .int .u64 4294901760]] w fun e w' => e = .returned (.bool true) ∧ Hp w [] [] w' := by
 refine calls_G (args := [.agg lz6.toArray, .agg #[lu 0, lu 0, lu 0, lu 4294901760]]) Try.func35 rfl Try.ntmps35 rfl ?_
 intro Q0 hRet hNor hPan
 have H := Hp.start w
 refine G.sr fun K1 hK2 => ?_
 obtain ⟨p3, w4, r5, H6⟩ := H.box (P := Try.prog) 24 lz6 (.agg lz6.toArray) rfl
 refine GL.s 1 (r5) [(1, .agg #[lu 0, lu 0, lu 0, lu 4294901760]), (2, pt p3 0)] ?_
 obtain ⟨p7, w8, r9, H10⟩ := H6.box (P := Try.prog) 33 [lu 0, lu 0, lu 0, lu 4294901760] (.agg #[lu 0, lu 0, lu 0, lu 4294901760]) rfl
 refine GL.s 2 (r9) [(2, pt p3 0), (3, pt p7 0)] ?_
 refine GL.r 3 1 [(2, pt p3 0), (3, pt p7 0)] ?_
 refine GL.q hK2 ?_
 refine G.seqK fun K11 hK12 => ?_
 refine G.heldP (Hp w [] [.blk p3 lz6 24, .blk p7 [lu 0, lu 0, lu 0, lu 4294901760] 33]) (by kernel_rfl) (by kernel_rfl) (fun c_ a_ d_ v_ w_ h_ => hPan c_ a_ d_ v_ w_ h_) ?_
 have H13 := H10.drew
 generalize ({ w8 with drawn := w8.drawn + 1 } : World) = w14 at H13 ⊢
 have hS15 : Hp w [] [.blk p3 lz6 24, .blk p7 [lu 0, lu 0, lu 0, lu 4294901760] 33] w14 := H13.sub (List.Sublist.cons_cons _ (List.Sublist.cons_cons _ (List.Sublist.slnil)))
 refine GP.s 0 (fun w_ H_ => H_.ldA (o := 0) (ty := 24) (m := 32) (sub := lz6) 0 rfl (by kernel_rfl) rfl rfl) [(3, pt p7 0), (5, .agg lz6.toArray)] hS15 ?_
 refine GP.s 2 (fun w_ H_ => H_.ldA (o := 0) (ty := 33) (m := 4) (sub := [lu 0, lu 0, lu 0, lu 4294901760]) 1 rfl (by kernel_rfl) rfl rfl) [(5, .agg lz6.toArray), (7, .agg #[lu 0, lu 0, lu 0, lu 4294901760])] hS15 ?_
 refine GP.call 1 ((by have h_ := FromX_calls ([111, 226, 140, 10, 182, 241, 179, 114, 193, 166, 162, 70, 174, 99, 247, 79, 147, 30, 131, 101, 225, 90, 8, 156, 104, 214, 25, 0, 0, 0, 0, 0] : List UInt8) rfl w14; rw [first_num] at h_; exact h_)) (by kernel_rfl) (by kernel_rfl) (fun e_ w16 hR => ?_)
 obtain ⟨rfl, H18⟩ := hR
 have H17 : Hp w [] [.blk p3 lz6 24, .blk p7 [lu 0, lu 0, lu 0, lu 4294901760] 33] w16 := H13.callNil H18
 have hS19 : Hp w [] [.blk p3 lz6 24, .blk p7 [lu 0, lu 0, lu 0, lu 4294901760] 33] w16 := H17.sub (List.Sublist.cons_cons _ (List.Sublist.cons_cons _ (List.Sublist.slnil)))
 refine ⟨_, rfl, hS19, [6, 7], [(6, .agg #[lu 8265215505318339183, lu 5762183848404362945, lu 11243336393847676563, lu 1693288]), (7, .agg #[lu 0, lu 0, lu 0, lu 4294901760])], by kernel_rfl, ?_⟩
 refine GP.call 3 (Lit6_calls w16) (by kernel_rfl) (by kernel_rfl) (fun e_ w20 hR => ?_)
 obtain ⟨rfl, H22⟩ := hR
 have H21 : Hp w [] [.blk p3 lz6 24, .blk p7 [lu 0, lu 0, lu 0, lu 4294901760] 33] w20 := H17.callNil H22
 have hS23 : Hp w [] [.blk p3 lz6 24, .blk p7 [lu 0, lu 0, lu 0, lu 4294901760] 33] w20 := H21.sub (List.Sublist.cons_cons _ (List.Sublist.cons_cons _ (List.Sublist.slnil)))
 refine ⟨_, rfl, hS23, [8], [(8, li (-1))], by kernel_rfl, ?_⟩
 refine GP.r [4, 5] [(4, .bool true)] [0, 2, 1, 3, 4, 5] hS23 ?_
 refine GP.k (by kernel_rfl) hK12 (fun _ _ h => h) ?_
 refine G.ret fun F_ hF_ hM_ => hRet _ _ (bodyPost_1 rfl (RV.tmp rfl) ?_ F_ hF_ hM_)
 exact ⟨rfl, H21.sub (List.nil_sublist _)⟩
theorem Lit8_calls (w : World) : Calls Try.prog 16 #[.agg #[.int .u64 0, .int .u64 0, .int .u64 0, .int .u64 0]] w fun e w' => e = .returned (.agg #[.int .u64 18446744073709551615, .int .u64 18446744073709551615, .int .u64 18446744073709551615, .int .u64 18446744073709551615]) ∧ Hp w [] [] w' := by
 refine calls_G (args := [.agg #[lu 0, lu 0, lu 0, lu 0]]) Try.func16 rfl Try.ntmps16 rfl ?_
 intro Q0 hRet hNor hPan
 have H := Hp.start w
 refine G.sr fun K1 hK2 => ?_
 obtain ⟨p3, w4, r5, H6⟩ := H.box (P := Try.prog) 33 [lu 0, lu 0, lu 0, lu 0] (.agg #[lu 0, lu 0, lu 0, lu 0]) rfl
 refine GL.s 1 (r5) [(1, pt p3 0)] ?_
 obtain ⟨p7, w8, r9, H10⟩ := H6.alloc (P := Try.prog) 33 [lu 0, lu 0, lu 0, lu 0] (by kernel_rfl)
 refine GL.s 2 (r9) [(1, pt p3 0), (2, pt p7 0)] ?_
 refine GL.q hK2 ?_
 refine G.seqK fun K11 hK12 => ?_
 refine G.sr fun K13 hK14 => ?_
 refine GL.r 1 1 [(1, pt p3 0), (2, pt p7 0), (4, li 0)] ?_
 refine GL.q hK14 ?_
 refine G.block ?_
 refine G.unroll 70 ?_
 refine G.sr fun K15 hK16 => ?_
 refine GL.r 1 1 [(1, pt p3 0), (2, pt p7 0), (4, li 0), (5, .bool true)] ?_
 refine GL.q hK16 ?_
 refine G.seqK fun K17 hK18 => ?_
 refine G.yes rfl ?_
 refine G.skipK hK18 (fun _ _ h => h) ?_
 refine G.seqK fun K19 hK20 => ?_
 refine G.block ?_
 refine G.sr fun K21 hK22 => ?_
 refine GL.r 2 2 [(1, pt p3 0), (2, pt p7 0), (3, li 0), (4, li 0)] ?_
 refine GL.q hK22 ?_
 refine G.region ?_
 refine GL.r 3 3 [(1, pt p3 0), (2, pt p7 0), (4, li 0), (7, li 0), (9, pt p3 0)] ?_
 refine GL.s 4 (H10.ld (o := 0) (ty := 31) (v := .int .u64 0) 0 rfl (by kernel_rfl) rfl) [(1, pt p3 0), (2, pt p7 0), (4, li 0), (7, li 0), (10, lu 0)] ?_
 refine GL.r 6 2 [(1, pt p3 0), (2, pt p7 0), (4, li 0), (11, lu 18446744073709551615), (12, pt p3 0)] ?_
 obtain ⟨w23, r24, H25⟩ := H10.st (P := Try.prog) (o := 0) (ty := 31) (v := .int .u64 18446744073709551615) 0 rfl (by kernel_rfl) (by simp) rfl
 refine GL.u 7 r24 [(1, pt p3 0), (2, pt p7 0), (4, li 0)] ?_
 refine GL.q hK20 ?_
 refine G.region ?_
 refine GL.r 2 2 [(1, pt p3 0), (2, pt p7 0), (4, li 1)] ?_
 refine GL.round rfl ?_
 refine G.sr fun K26 hK27 => ?_
 refine GL.r 1 1 [(1, pt p3 0), (2, pt p7 0), (4, li 1), (5, .bool true)] ?_
 refine GL.q hK27 ?_
 refine G.seqK fun K28 hK29 => ?_
 refine G.yes rfl ?_
 refine G.skipK hK29 (fun _ _ h => h) ?_
 refine G.seqK fun K30 hK31 => ?_
 refine G.block ?_
 refine G.sr fun K32 hK33 => ?_
 refine GL.r 2 2 [(1, pt p3 0), (2, pt p7 0), (3, li 1), (4, li 1)] ?_
 refine GL.q hK33 ?_
 refine G.region ?_
 refine GL.r 3 3 [(1, pt p3 0), (2, pt p7 0), (4, li 1), (7, li 1), (9, pt p3 1)] ?_
 refine GL.s 4 (H25.ld (o := 1) (ty := 31) (v := .int .u64 0) 0 rfl (by kernel_rfl) rfl) [(1, pt p3 0), (2, pt p7 0), (4, li 1), (7, li 1), (10, lu 0)] ?_
 refine GL.r 6 2 [(1, pt p3 0), (2, pt p7 0), (4, li 1), (11, lu 18446744073709551615), (12, pt p3 1)] ?_
 obtain ⟨w34, r35, H36⟩ := H25.st (P := Try.prog) (o := 1) (ty := 31) (v := .int .u64 18446744073709551615) 0 rfl (by kernel_rfl) (by simp) rfl
 refine GL.u 7 r35 [(1, pt p3 0), (2, pt p7 0), (4, li 1)] ?_
 refine GL.q hK31 ?_
 refine G.region ?_
 refine GL.r 2 2 [(1, pt p3 0), (2, pt p7 0), (4, li 2)] ?_
 refine GL.round rfl ?_
 refine G.sr fun K37 hK38 => ?_
 refine GL.r 1 1 [(1, pt p3 0), (2, pt p7 0), (4, li 2), (5, .bool true)] ?_
 refine GL.q hK38 ?_
 refine G.seqK fun K39 hK40 => ?_
 refine G.yes rfl ?_
 refine G.skipK hK40 (fun _ _ h => h) ?_
 refine G.seqK fun K41 hK42 => ?_
 refine G.block ?_
 refine G.sr fun K43 hK44 => ?_
 refine GL.r 2 2 [(1, pt p3 0), (2, pt p7 0), (3, li 2), (4, li 2)] ?_
 refine GL.q hK44 ?_
 refine G.region ?_
 refine GL.r 3 3 [(1, pt p3 0), (2, pt p7 0), (4, li 2), (7, li 2), (9, pt p3 2)] ?_
 refine GL.s 4 (H36.ld (o := 2) (ty := 31) (v := .int .u64 0) 0 rfl (by kernel_rfl) rfl) [(1, pt p3 0), (2, pt p7 0), (4, li 2), (7, li 2), (10, lu 0)] ?_
 refine GL.r 6 2 [(1, pt p3 0), (2, pt p7 0), (4, li 2), (11, lu 18446744073709551615), (12, pt p3 2)] ?_
 obtain ⟨w45, r46, H47⟩ := H36.st (P := Try.prog) (o := 2) (ty := 31) (v := .int .u64 18446744073709551615) 0 rfl (by kernel_rfl) (by simp) rfl
 refine GL.u 7 r46 [(1, pt p3 0), (2, pt p7 0), (4, li 2)] ?_
 refine GL.q hK42 ?_
 refine G.region ?_
 refine GL.r 2 2 [(1, pt p3 0), (2, pt p7 0), (4, li 3)] ?_
 refine GL.round rfl ?_
 refine G.sr fun K48 hK49 => ?_
 refine GL.r 1 1 [(1, pt p3 0), (2, pt p7 0), (4, li 3), (5, .bool true)] ?_
 refine GL.q hK49 ?_
 refine G.seqK fun K50 hK51 => ?_
 refine G.yes rfl ?_
 refine G.skipK hK51 (fun _ _ h => h) ?_
 refine G.seqK fun K52 hK53 => ?_
 refine G.block ?_
 refine G.sr fun K54 hK55 => ?_
 refine GL.r 2 2 [(1, pt p3 0), (2, pt p7 0), (3, li 3), (4, li 3)] ?_
 refine GL.q hK55 ?_
 refine G.region ?_
 refine GL.r 3 3 [(1, pt p3 0), (2, pt p7 0), (4, li 3), (7, li 3), (9, pt p3 3)] ?_
 refine GL.s 4 (H47.ld (o := 3) (ty := 31) (v := .int .u64 0) 0 rfl (by kernel_rfl) rfl) [(1, pt p3 0), (2, pt p7 0), (4, li 3), (7, li 3), (10, lu 0)] ?_
 refine GL.r 6 2 [(1, pt p3 0), (2, pt p7 0), (4, li 3), (11, lu 18446744073709551615), (12, pt p3 3)] ?_
 obtain ⟨w56, r57, H58⟩ := H47.st (P := Try.prog) (o := 3) (ty := 31) (v := .int .u64 18446744073709551615) 0 rfl (by kernel_rfl) (by simp) rfl
 refine GL.u 7 r57 [(1, pt p3 0), (2, pt p7 0), (4, li 3)] ?_
 refine GL.q hK53 ?_
 refine G.region ?_
 refine GL.r 2 2 [(1, pt p3 0), (2, pt p7 0), (4, li 4)] ?_
 refine GL.round rfl ?_
 refine G.sr fun K59 hK60 => ?_
 refine GL.r 1 1 [(1, pt p3 0), (2, pt p7 0), (4, li 4), (5, .bool false)] ?_
 refine GL.q hK60 ?_
 refine G.seqK fun K61 hK62 => ?_
 refine G.no rfl ?_
 refine G.exitK hK12 (fun _ _ h => h) ?_
 refine G.sr fun K63 hK64 => ?_
 refine GL.s 1 (H58.ldA (o := 0) (ty := 33) (m := 4) (sub := [lu 18446744073709551615, lu 18446744073709551615, lu 18446744073709551615, lu 18446744073709551615]) 0 rfl (by kernel_rfl) rfl rfl) [(2, pt p7 0), (14, .agg #[lu 18446744073709551615, lu 18446744073709551615, lu 18446744073709551615, lu 18446744073709551615])] ?_
 obtain ⟨w65, r66, H67⟩ := H58.stA (P := Try.prog) (o := 0) (vs := [lu 18446744073709551615, lu 18446744073709551615, lu 18446744073709551615, lu 18446744073709551615]) (ty := 33) (m := 4) 1 rfl (by kernel_rfl) rfl (by simp) (by simp [Value.oneCell'])
 refine GL.u 2 r66 [(2, pt p7 0)] ?_
 refine GL.q hK64 ?_
 refine G.ret fun F_ hF_ hM_ => hRet _ _ (bodyPost_1 rfl (RV.cell rfl (H67.ldA (o := 0) (ty := 33) (m := 4) (sub := [lu 18446744073709551615, lu 18446744073709551615, lu 18446744073709551615, lu 18446744073709551615]) 1 rfl (by kernel_rfl) rfl rfl)) ?_ F_ hF_ hM_)
 exact ⟨rfl, H67.sub (List.nil_sublist _)⟩
abbrev lz7 : List UInt8 := [0, 0, 0, 0, 0, 0, 0, 0, 0, 0, 0, 0, 0, 0, 0, 0, 0, 0, 0, 0, 0, 0, 0, 0, 0, 0, 0, 0, 0, 0, 0, 0]
abbrev lz8 : List UInt8 := [59, 163, 237, 253, 122, 123, 18, 178, 122, 199, 44, 62, 103, 118, 143, 97, 127, 200, 27, 195, 136, 138, 81, 50, 58, 159, 184, 170, 75, 30, 94, 74]
theorem Check0_calls (w : World) : Calls Try.prog 14 #[.agg (hdC 1 lz7 lz8 1231006505 486604799 2083236893).toArray, .agg #[.int .u64 18446744073709551615, .int .u64 18446744073709551615, .int .u64 18446744073709551615, .int .u64 18446744073709551615]] w fun e w' => e = .returned (.int .i64 0) ∧ Hp w [] [] w' := by
 refine calls_G (args := [.agg (hdC 1 lz7 lz8 1231006505 486604799 2083236893).toArray, .agg #[lu 18446744073709551615, lu 18446744073709551615, lu 18446744073709551615, lu 18446744073709551615]]) Try.func14 rfl Try.ntmps14 rfl ?_
 intro Q0 hRet hNor hPan
 have H := Hp.start w
 refine G.sr fun K1 hK2 => ?_
 obtain ⟨p3, w4, r5, H6⟩ := H.box (P := Try.prog) 26 (hdC 1 lz7 lz8 1231006505 486604799 2083236893) (.agg (hdC 1 lz7 lz8 1231006505 486604799 2083236893).toArray) rfl
 refine GL.s 1 (r5) [(1, .agg #[lu 18446744073709551615, lu 18446744073709551615, lu 18446744073709551615, lu 18446744073709551615]), (2, pt p3 0)] ?_
 obtain ⟨p7, w8, r9, H10⟩ := H6.box (P := Try.prog) 33 [lu 18446744073709551615, lu 18446744073709551615, lu 18446744073709551615, lu 18446744073709551615] (.agg #[lu 18446744073709551615, lu 18446744073709551615, lu 18446744073709551615, lu 18446744073709551615]) rfl
 refine GL.s 2 (r9) [(2, pt p3 0), (3, pt p7 0)] ?_
 refine GL.r 3 1 [(2, pt p3 0), (3, pt p7 0)] ?_
 refine GL.q hK2 ?_
 refine G.sr fun K11 hK12 => ?_
 refine GL.r 1 1 [(2, pt p3 0), (3, pt p7 0), (8, pt p3 66)] ?_
 refine GL.s 2 (H10.ld (o := 66) (ty := 22) (v := .int .u32 486604799) 0 rfl (by kernel_rfl) (hdC_b rfl rfl)) [(2, pt p3 0), (3, pt p7 0), (9, lw 486604799)] ?_
 refine GL.call (j := 3) (Lit4_calls w8) (by kernel_rfl) rfl (fun e_ w13 hR => ?_)
 obtain ⟨rfl, H15⟩ := hR
 have H14 : Hp w [] [.blk p3 (hdC 1 lz7 lz8 1231006505 486604799 2083236893) 26, .blk p7 [lu 18446744073709551615, lu 18446744073709551615, lu 18446744073709551615, lu 18446744073709551615] 33] w13 := H10.callNil H15
 refine ⟨_, rfl, [2, 3, 10], [(2, pt p3 0), (3, pt p7 0), (10, .tuple #[.agg #[lu 0, lu 0, lu 0, lu 4294901760], li 0])], by kernel_rfl, ?_⟩
 refine GL.r 6 3 [(2, pt p3 0), (3, pt p7 0), (11, .agg #[lu 0, lu 0, lu 0, lu 4294901760]), (12, li 0)] ?_
 obtain ⟨p16, w17, r18, H19⟩ := H14.alloc (P := Try.prog) 33 [lu 0, lu 0, lu 0, lu 0] (by kernel_rfl)
 refine GL.s 7 (r18) [(2, pt p3 0), (3, pt p7 0), (5, pt p16 0), (11, .agg #[lu 0, lu 0, lu 0, lu 4294901760]), (12, li 0)] ?_
 obtain ⟨w20, r21, H22⟩ := H19.stA (P := Try.prog) (o := 0) (vs := [lu 0, lu 0, lu 0, lu 4294901760]) (ty := 33) (m := 4) 2 rfl (by kernel_rfl) rfl (by simp) (by simp [Value.oneCell'])
 refine GL.u 8 r21 [(2, pt p3 0), (3, pt p7 0), (5, pt p16 0), (12, li 0)] ?_
 refine GL.r 9 1 [(2, pt p3 0), (3, pt p7 0), (5, pt p16 0), (6, li 0)] ?_
 refine GL.q hK12 ?_
 refine G.seqK fun K23 hK24 => ?_
 refine G.block ?_
 refine G.sr fun K25 hK26 => ?_
 refine GL.r 3 3 [(2, pt p3 0), (3, pt p7 0), (5, pt p16 0), (16, .bool false)] ?_
 refine GL.s 4 (H22.ldA (o := 0) (ty := 33) (m := 4) (sub := [lu 0, lu 0, lu 0, lu 4294901760]) 2 rfl (by kernel_rfl) rfl rfl) [(2, pt p3 0), (3, pt p7 0), (5, pt p16 0), (16, .bool false), (17, .agg #[lu 0, lu 0, lu 0, lu 4294901760])] ?_
 refine GL.s 5 (H22.ldA (o := 0) (ty := 33) (m := 4) (sub := [lu 18446744073709551615, lu 18446744073709551615, lu 18446744073709551615, lu 18446744073709551615]) 1 rfl (by kernel_rfl) rfl rfl) [(2, pt p3 0), (5, pt p16 0), (16, .bool false), (17, .agg #[lu 0, lu 0, lu 0, lu 4294901760]), (18, .agg #[lu 18446744073709551615, lu 18446744073709551615, lu 18446744073709551615, lu 18446744073709551615])] ?_
 refine GL.call (j := 6) (Lit5_calls w20) (by kernel_rfl) rfl (fun e_ w27 hR => ?_)
 obtain ⟨rfl, H29⟩ := hR
 have H28 : Hp w [] [.blk p3 (hdC 1 lz7 lz8 1231006505 486604799 2083236893) 26, .blk p7 [lu 18446744073709551615, lu 18446744073709551615, lu 18446744073709551615, lu 18446744073709551615] 33, .blk p16 [lu 0, lu 0, lu 0, lu 4294901760] 33] w27 := H22.callNil H29
 refine ⟨_, rfl, [2, 5, 16, 19], [(2, pt p3 0), (5, pt p16 0), (16, .bool false), (19, li (-1))], by kernel_rfl, ?_⟩
 refine GL.r 9 3 [(2, pt p3 0), (5, pt p16 0), (13, .bool false)] ?_
 refine GL.q hK26 ?_
 refine G.no rfl ?_
 refine G.seqK fun K30 hK31 => ?_
 refine G.heldP (Hp w [] [.blk p3 (hdC 1 lz7 lz8 1231006505 486604799 2083236893) 26, .blk p7 [lu 18446744073709551615, lu 18446744073709551615, lu 18446744073709551615, lu 18446744073709551615] 33, .blk p16 [lu 0, lu 0, lu 0, lu 4294901760] 33]) (by kernel_rfl) (by kernel_rfl) (fun c_ a_ d_ v_ w_ h_ => hPan c_ a_ d_ v_ w_ h_) ?_
 have H32 := H28.drew
 generalize ({ w27 with drawn := w27.drawn + 1 } : World) = w33 at H32 ⊢
 have hS34 : Hp w [] [.blk p3 (hdC 1 lz7 lz8 1231006505 486604799 2083236893) 26, .blk p7 [lu 18446744073709551615, lu 18446744073709551615, lu 18446744073709551615, lu 18446744073709551615] 33, .blk p16 [lu 0, lu 0, lu 0, lu 4294901760] 33] w33 := H32.sub (List.Sublist.cons_cons _ (List.Sublist.cons_cons _ (List.Sublist.cons_cons _ (List.Sublist.slnil))))
 refine GP.s 0 (fun w_ H_ => H_.ldA (o := 0) (ty := 26) (m := 68) (sub := hdC 1 lz7 lz8 1231006505 486604799 2083236893) 0 rfl (by kernel_rfl) (sub_whole (hdC_length rfl rfl)) (hdC_length rfl rfl)) [(5, pt p16 0), (23, .agg (hdC 1 lz7 lz8 1231006505 486604799 2083236893).toArray)] hS34 ?_
 refine GP.s 2 (fun w_ H_ => H_.ldA (o := 0) (ty := 33) (m := 4) (sub := [lu 0, lu 0, lu 0, lu 4294901760]) 2 rfl (by kernel_rfl) rfl rfl) [(23, .agg (hdC 1 lz7 lz8 1231006505 486604799 2083236893).toArray), (25, .agg #[lu 0, lu 0, lu 0, lu 4294901760])] hS34 ?_
 refine GP.call 1 ((by have h_ := HHash_calls 1 lz7 lz8 1231006505 486604799 2083236893 w33 rfl rfl (by decide) (by decide) (by decide) (by decide); rw [first_hash] at h_; exact h_)) (by kernel_rfl) (by kernel_rfl) (fun e_ w35 hR => ?_)
 obtain ⟨rfl, H37⟩ := hR
 have H36 : Hp w [] [.blk p3 (hdC 1 lz7 lz8 1231006505 486604799 2083236893) 26, .blk p7 [lu 18446744073709551615, lu 18446744073709551615, lu 18446744073709551615, lu 18446744073709551615] 33, .blk p16 [lu 0, lu 0, lu 0, lu 4294901760] 33] w35 := H32.callNil H37
 have hS38 : Hp w [] [.blk p3 (hdC 1 lz7 lz8 1231006505 486604799 2083236893) 26, .blk p7 [lu 18446744073709551615, lu 18446744073709551615, lu 18446744073709551615, lu 18446744073709551615] 33, .blk p16 [lu 0, lu 0, lu 0, lu 4294901760] 33] w35 := H36.sub (List.Sublist.cons_cons _ (List.Sublist.cons_cons _ (List.Sublist.cons_cons _ (List.Sublist.slnil))))
 refine ⟨_, rfl, hS38, [24, 25], [(24, .agg lz6.toArray), (25, .agg #[lu 0, lu 0, lu 0, lu 4294901760])], by kernel_rfl, ?_⟩
 refine GP.call 3 (Lit7_calls w35) (by kernel_rfl) (by kernel_rfl) (fun e_ w39 hR => ?_)
 obtain ⟨rfl, H41⟩ := hR
 have H40 : Hp w [] [.blk p3 (hdC 1 lz7 lz8 1231006505 486604799 2083236893) 26, .blk p7 [lu 18446744073709551615, lu 18446744073709551615, lu 18446744073709551615, lu 18446744073709551615] 33, .blk p16 [lu 0, lu 0, lu 0, lu 4294901760] 33] w39 := H36.callNil H41
 have hS42 : Hp w [] [.blk p3 (hdC 1 lz7 lz8 1231006505 486604799 2083236893) 26, .blk p7 [lu 18446744073709551615, lu 18446744073709551615, lu 18446744073709551615, lu 18446744073709551615] 33, .blk p16 [lu 0, lu 0, lu 0, lu 4294901760] 33] w39 := H40.sub (List.Sublist.cons_cons _ (List.Sublist.cons_cons _ (List.Sublist.cons_cons _ (List.Sublist.slnil))))
 refine ⟨_, rfl, hS42, [26], [(26, .bool true)], by kernel_rfl, ?_⟩
 refine GP.r [4, 5] [(22, .bool false)] [0, 2, 1, 3, 4, 5] hS42 ?_
 refine GP.k (by kernel_rfl) hK31 (fun _ _ h => h) ?_
 refine G.no rfl ?_
 refine G.skipK hK24 (fun _ _ h => h) ?_
 refine G.sr fun K43 hK44 => ?_
 refine GL.r 1 1 [(4, li 0)] ?_
 refine GL.q hK44 ?_
 refine G.ret fun F_ hF_ hM_ => hRet _ _ (bodyPost_1 rfl (RV.tmp rfl) ?_ F_ hF_ hM_)
 exact ⟨rfl, H40.sub (List.nil_sublist _)⟩
abbrev lz9 : List UInt8 := [48, 48, 48, 48, 48, 48, 48, 48, 48, 48, 49, 57, 100, 54, 54, 56, 57, 99, 48, 56, 53, 97, 101, 49, 54, 53, 56, 51, 49, 101, 57, 51, 52, 102, 102, 55, 54, 51, 97, 101, 52, 54, 97, 50, 97, 54, 99, 49, 55, 50, 98, 51, 102, 49, 98, 54, 48, 97, 56, 99, 101, 50, 54, 102]
abbrev lz10 : List UInt8 := [48, 48, 48, 48, 48, 48, 48, 48, 48, 48, 49, 57, 100, 54, 54, 56]
theorem lives_calls (w : World) : Calls Try.prog 7 #[] w fun e w' => e = .returned (.bool true) ∧ Hp w [] [] w' := by
 refine calls_G (args := []) Try.func7 rfl Try.ntmps7 rfl ?_
 intro Q0 hRet hNor hPan
 have H := Hp.start w
 refine G.sr fun K1 hK2 => ?_
 refine GL.r 1 1 [] ?_
 refine GL.q hK2 ?_
 refine G.sr fun K3 hK4 => ?_
 refine GL.call (j := 1) (first_calls w) (by kernel_rfl) rfl (fun e_ w5 hR => ?_)
 obtain ⟨rfl, H7⟩ := hR
 have H6 : Hp w [] [] w5 := H.callNil H7
 refine ⟨_, rfl, [2], [(2, .agg (hdC 1 lz7 lz8 1231006505 486604799 2083236893).toArray)], by kernel_rfl, ?_⟩
 refine GL.call (j := 2) ((by have h_ := HHash_calls 1 lz7 lz8 1231006505 486604799 2083236893 w5 rfl rfl (by decide) (by decide) (by decide) (by decide); rw [first_hash] at h_; exact h_)) (by kernel_rfl) rfl (fun e_ w8 hR => ?_)
 obtain ⟨rfl, H10⟩ := hR
 have H9 : Hp w [] [] w8 := H6.callNil H10
 refine ⟨_, rfl, [3], [(3, .agg lz6.toArray)], by kernel_rfl, ?_⟩
 refine GL.call (j := 3) ((by have h_ := Text_calls ([111, 226, 140, 10, 182, 241, 179, 114, 193, 166, 162, 70, 174, 99, 247, 79, 147, 30, 131, 101, 225, 90, 8, 156, 104, 214, 25, 0, 0, 0, 0, 0] : List UInt8) rfl w8; rw [first_text] at h_; exact h_)) (by kernel_rfl) rfl (fun e_ w11 hR => ?_)
 obtain ⟨rfl, H13⟩ := hR
 have H12 : Hp w [] [] w11 := H9.callNil H13
 refine ⟨_, rfl, [4], [(4, .string (strOf lz9))], by kernel_rfl, ?_⟩
 refine GL.r 4 1 [(1, .string (strOf lz9))] ?_
 refine GL.q hK4 ?_
 refine G.sr fun K14 hK15 => ?_
 refine GL.r 5 5 [(8, .bool true), (9, .string (strOf lz9))] ?_
 refine GL.s 6 (run_strHead (P := Try.prog) (t := 9) (k := .i64) (s := lz9) (h := 16) (r := lz10) (by kernel_rfl) (by decide) rfl _) [(8, .bool true), (10, .string (strOf lz10))] ?_
 refine GL.s 7 (run_str_eql (P := Try.prog) (t := 9) lz10 lz10 _) [(8, .bool true), (11, .bool true)] ?_
 refine GL.r 9 2 [(13, .bool true)] ?_
 refine GL.call (j := 10) (first_calls w11) (by kernel_rfl) rfl (fun e_ w16 hR => ?_)
 obtain ⟨rfl, H18⟩ := hR
 have H17 : Hp w [] [] w16 := H12.callNil H18
 refine ⟨_, rfl, [13, 14], [(13, .bool true), (14, .agg (hdC 1 lz7 lz8 1231006505 486604799 2083236893).toArray)], by kernel_rfl, ?_⟩
 refine GL.r 11 1 [(13, .bool true), (14, .agg (hdC 1 lz7 lz8 1231006505 486604799 2083236893).toArray), (15, .agg #[lu 0, lu 0, lu 0, lu 0])] ?_
 refine GL.call (j := 12) (Lit8_calls w16) (by kernel_rfl) rfl (fun e_ w19 hR => ?_)
 obtain ⟨rfl, H21⟩ := hR
 have H20 : Hp w [] [] w19 := H17.callNil H21
 refine ⟨_, rfl, [13, 14, 16], [(13, .bool true), (14, .agg (hdC 1 lz7 lz8 1231006505 486604799 2083236893).toArray), (16, .agg #[lu 18446744073709551615, lu 18446744073709551615, lu 18446744073709551615, lu 18446744073709551615])], by kernel_rfl, ?_⟩
 refine GL.call (j := 13) (Check0_calls w19) (by kernel_rfl) rfl (fun e_ w22 hR => ?_)
 obtain ⟨rfl, H24⟩ := hR
 have H23 : Hp w [] [] w22 := H20.callNil H24
 refine ⟨_, rfl, [13, 17], [(13, .bool true), (17, li 0)], by kernel_rfl, ?_⟩
 refine GL.r 16 3 [(0, .bool true)] ?_
 refine GL.q hK15 ?_
 refine G.ret fun F_ hF_ hM_ => hRet _ _ (bodyPost_1 rfl (RV.tmp rfl) ?_ F_ hF_ hM_)
 exact ⟨rfl, H23.sub (List.nil_sublist _)⟩
end Go.Proofs.Ytdepaaphgfapjaa
